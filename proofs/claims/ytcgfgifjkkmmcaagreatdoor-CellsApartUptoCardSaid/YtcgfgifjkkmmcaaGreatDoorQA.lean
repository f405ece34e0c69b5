import Derived.Test.YtcgfgifjkkmmcaaGreatDoorFB
set_option linter.all false
set_option maxRecDepth 2000000
set_option maxHeartbeats 10000000
namespace Go.Proofs.YtcgfgifjkkmmcaaGreatDoor
open Go Go.RowKit Ab
def KH:=an @aH (an @fV (an @Nat.div_one (an @Nat.mul_one (an @aO (an @eY (an @oD (an @dF (an @jm (an @wi (an @lX (an @Bool.false_and @dh)))))))))))
abbrev rL(s:Bool)(a d:List Nat):V:= .g [.b s,.l 1 (W a),.l 1 (W d)]
abbrev rN(z:Int)(e:Nat):V:= .g [.b (decide (z<0)),.l 1 (W (dg B z.natAbs)),.l 1 (W (dg B e))]
def rG(z:Int)(d:Nat):Nat:=Nat.gcd z.natAbs d
def rz(z:Int)(d:Nat):Int:=z.tdiv (rG z d:Int)
def dC(z:Int)(d:Nat):Nat:=d/rG z d
theorem Eb{z:Int}{d:Nat}(h:d≠0):0<rG z d:=Nat.gcd_pos_of_pos_right _ om
theorem rz_I(z:Int)(d:Nat):zI (decide (z<0)) (z.natAbs/rG z d)=rz z d:=by
 have h:=Ec (decide (z<0)) false z.natAbs (rG z d);rw[show(!(decide (z<0)==false))=decide (z<0)from by cases decide (z<0)<;>rfl,Dv]at h;rw[h];rfl
theorem Jl(z:Int)(d:Nat):(rz z d).natAbs=z.natAbs/rG z d:=by rw[←rz_I,AZ]
theorem wK(s:Bool)(a d:List Nat)(m:Nat)(hm:m≤100000000)(ha:Wd a)(hd:Wd d)(la:a.length≤m)(ld:d.length≤m)(h0:nv B d≠0):ah Tryz.prog J0 31 [zL s a,.l 1 (W d)] (rN (rz (zv s a) (nv B d)) (dC (zv s a) (nv B d))):=by
 have h1:=nV s a ha om;have l1:=dD (s:=s) ha la;have l2:=fO hd ld;generalize zv s a=z at*
 have h2:=LX (dg B z.natAbs) d (az _) hd (Nat.le_trans (bC l1) om) om;rw[aS,show Nat.gcd z.natAbs (nv B d)=rG z (nv B d)from rfl]at h2;have hgp:=Eb (z:=z) h0;have d2:rG z (nv B d)∣nv B d:=Nat.gcd_dvd_right _ _;have lg:rG z (nv B d)<B^m:=Nat.lt_of_le_of_lt (Nat.le_of_dvd om d2) l2;have h3:=xC (dg B z.natAbs) (dg B (rG z (nv B d))) (az _) (az _) (Nat.le_trans (bC l1) om) (Nat.le_trans (bC lg) om) (by rw[aS];omega);rw[aS,aS]at h3;have h4:=xC d (dg B (rG z (nv B d))) hd (az _) om (Nat.le_trans (bC lg) om) (by rw[aS];omega);rw[aS]at h4;have h5:=nV (decide (z<0)) (dg B (z.natAbs/rG z (nv B d))) (az _) (Nat.le_trans (bC (Nat.lt_of_le_of_lt (Nat.div_le_self _ _) l1)) om);rw[zv,aS,rz_I]at h5;rw[show nv B d/rG z (nv B d)=dC z (nv B d)from rfl]at h4;generalize rz z (nv B d)=x at*
 generalize dC z (nv B d)=y at*
 generalize z.natAbs/rG z (nv B d)=t at*
 generalize z.natAbs%rG z (nv B d)=t1 at*
 generalize nv B d%rG z (nv B d)=t2 at*
 generalize rG z (nv B d)=g at*
 refine ja aX bV Tryz.func31 [.c 4 true 3] ?_;exact vM @KH
theorem Gq(s:Bool)(a d:List Nat)(hd:Wd d)(ld:d.length≤1000000000):ah Tryz.prog J0 44 [rL s a d] (.i .i64 (if nv B d=0 then 1 else 0)):=by
 have h:=qH d hd om;have hb:=bl_z (n:=nv B d);by_cases h0:nv B d=0
 ·rw[if_pos h0];have hb0:((bl (nv B d):Nat):Int)=0:=by rw[hb];exact h0
  rw[hb0]at h;refine d_ aX bV Tryz.func44 ?_;exact jR @KH
 ·rw[if_neg h0];have hb0:¬((bl (nv B d):Nat):Int)=0:=by rw[hb];exact h0
  generalize ((bl (nv B d):Nat):Int)=c at*
  refine d_ aX bV Tryz.func44 ?_;exact jR (ai @hb0 @KH)
theorem Sj(s:Bool)(a d:List Nat)(hd:Wd d)(ld:d.length≤1000000000):ah Tryz.prog J0 5 [rL s a d] (.b (!decide (nv B d=0))):=by
 have h:=uJ d hd om;refine d_ aX bV Tryz.func5 ?_;exact jR @KH
end Go.Proofs.YtcgfgifjkkmmcaaGreatDoor
namespace Go.Proofs.YtcgfgifjkkmmcaaGreatDoor
open Go Go.RowKit Ab
def rv(z:Int)(d:Nat):V:=if d=0 then .g [.b false,.l 1 [],.l 1 []]else rN (rz z d) (dC z d)
def re(d:Nat):Int:=if d=0 then 1 else 0
theorem re_p{d:Nat}(h:d≠0):re d=0:=if_neg h
theorem Sr(z:Int){d:Nat}(h:d≠0):rv z d=rN (rz z d) (dC z d):=if_neg h
end Go.Proofs.YtcgfgifjkkmmcaaGreatDoor
namespace Go.Proofs.YtcgfgifjkkmmcaaGreatDoor
open Go Go.RowKit Ab
def yD:=an @aH (an @fV (an @Nat.div_one (an @Nat.mul_one (an @aO (an @eY (an @oD (an @dF (an @jm (an @wi (an @lX (an @Bool.false_and @dh)))))))))))
def RC:List (Bool×List Nat×List Nat)→List V
 |[]=>[]
 |p::r=> .b p.1:: .l 1 (W p.2.1):: .l 1 (W p.2.2)::RC r
theorem Su:∀l,(RC l).length=l.length*3
 |[]=>rfl
 |p::r=>by simp only[RC,List.length_cons,Su r];omega
theorem Sz:∀(l:List (Bool×List Nat×List Nat)) (i:Nat),i<l.length→((RC l).drop (i*3)).take 3=[.b (l.getD i (false,[],[])).1,.l 1 (W (l.getD i (false,[],[])).2.1),.l 1 (W (l.getD i (false,[],[])).2.2)]
 |[],i,h=>by simp at h
 |p::r,0,h=>rfl
 |p::r,i+1,h=>by
  have:=Sz r i (by simpa using h);rw[show(i+1)*3=(i*3+2)+1 from om];exact this
def ce(l:List (Bool×List Nat×List Nat)):Int:=if l.any (fun p=>nv B p.2.2==0)then 1 else 0
theorem Ed(l:List (Bool×List Nat×List Nat))(ll:l.length≤1000000000)(hl:∀p,p∈l→Wd p.2.2∧p.2.2.length≤1000000000):ah Tryz.prog J0 110 [.l 3 (RC l)] (.i .i64 (ce l)):=by
 have hz:=Su l;have hd:l.length*3/3=l.length:=om;obtain⟨r,hr0⟩:∃r,r=ce l:=⟨_,rfl⟩;rw[←hr0];refine d_ aX bV Tryz.func110 ?_;repeat first
  |(refine hK _ ?_;clear hK K)
  |((first|refine ay (fun K hK=>?_)|refine aB (fun K hK=>?_)|refine au (fun K hK=>?_));simp(disch:=(first|omega|assumption)) only[S1,seval,-Int.reduceToNat,-List.reduceReplicate,a_.sb,a_.mut,bZ,↓Bool.false_eq_true,beq_self_eq_true,ite_self,yD,hz,hd];refine hK _ ?_;clear hK K)
  |simp only[Sv,↓reduceIte,Nat.reduceEqDiff]
 refine aF [] Nat (fun i=>⟨[(6,.l 3 (RC l)),(7,.i .i64 (l.length:Int)),(8,.i .i64 (i:Int))],[],0⟩)
  (fun i=>i≤l.length∧∀u,u<i→¬nv B (l.getD u (false,[],[])).2.2=0) (fun i=>l.length-i) 0 ⟨Nat.zero_le _,fun u hu=>om⟩ (by exact mF) (by
  exact jO) ?_
 intro i ⟨hi,hall⟩ Q' hQ he hr;by_cases h:(i:Int)<(l.length:Int)
 ·have row:=Sz l i om;have hmem:l.getD i (false,[],[])∈l:=by rw[List.getD_eq_getElem?_getD,List.getElem?_eq_getElem om];exact List.getElem_mem _
  obtain⟨w1,l1⟩:=hl _ hmem;have hc:=Gq (l.getD i (false,[],[])).1 (l.getD i (false,[],[])).2.1 (l.getD i (false,[],[])).2.2 w1 l1;by_cases h0:nv B (l.getD i (false,[],[])).2.2=0
  ·rw[if_pos h0]at hc;have hr1:r=1:=by
    rw[hr0];unfold ce;rw[if_pos (List.any_eq_true.2 ⟨_,hmem,by simpa using h0⟩)]
   generalize l.getD i (false,[],[])=x at*
   repeat first|(refine hK _ ?_;clear hK K)|simp only[Sv,↓reduceIte,Nat.reduceEqDiff]|((first|refine ay (fun K hK=>?_)|refine aB (fun K hK=>?_)|refine au (fun K hK=>?_)|refine kL ?_|refine iL (by assumption) ?_|refine kM ?_|(apply iM;assumption)|(apply iP;assumption));simp(disch:=(first|omega|assumption)) only[S1,seval,-Int.reduceToNat,-List.reduceReplicate,a_.sb,a_.mut,bZ,↓Bool.false_eq_true,beq_self_eq_true,ite_self,yD,h,hz,row])
   refine hr _ ?_;refine aJ @yD ?_;exact jX (ai @hr1 @yD)
  ·rw[if_neg h0]at hc;have AL:∀u,u<i+1→¬nv B (l.getD u (false,[],[])).2.2=0:=fun u hu=>by
    by_cases e:u=i
    ·subst e;exact h0
    ·exact hall u om
   generalize l.getD i (false,[],[])=x at*
   repeat first|(refine hK _ ?_;clear hK K)|simp only[Sv,↓reduceIte,Nat.reduceEqDiff]|((first|refine ay (fun K hK=>?_)|refine aB (fun K hK=>?_)|refine au (fun K hK=>?_)|refine kL ?_|refine iL (by assumption) ?_|refine kM ?_|(apply iM;assumption)|(apply iP;assumption));simp(disch:=(first|omega|assumption)) only[S1,seval,-Int.reduceToNat,-List.reduceReplicate,a_.sb,a_.mut,bZ,↓Bool.false_eq_true,beq_self_eq_true,ite_self,yD,h,hz,row])
   refine hQ _ (i+1) ⟨om,AL⟩ om ?_;exact jO
 ·have hr1:r=0:=by
   rw[hr0];unfold ce;rw[if_neg];intro ha;obtain⟨p,hp,h0⟩:=List.any_eq_true.1 ha;obtain⟨u,hu,rfl⟩:=List.getElem_of_mem hp;have:=hall u om;rw[List.getD_eq_getElem?_getD,List.getElem?_eq_getElem hu]at this;exact this (by simpa using h0)
  refine aJ (ai @h @yD) ?_;refine he _ _ ?_;refine aJ @yD ?_;exact jX (ai @hr1 @yD)
theorem ce_2(s t:Bool)(a b d e:List Nat):ce [(s,a,d),(t,b,e)]=re (nv B d*nv B e):=by
 unfold ce re;simp only[List.any_cons,List.any_nil,Bool.or_false,Bool.or_eq_true,beq_iff_eq,Nat.mul_eq_zero]
theorem SA(s t:Bool)(a b d e:List Nat)(hd:Wd d)(he:Wd e)(ld:d.length≤1000000000)(le:e.length≤1000000000):
 ah Tryz.prog J0 110 [.l 3 [.b s,.l 1 (W a),.l 1 (W d),.b t,.l 1 (W b),.l 1 (W e)]] (.i .i64 (re (nv B d*nv B e))):=by
 have:=Ed [(s,a,d),(t,b,e)] sy (fun p hp=>by
  rcases List.mem_cons.1 hp with rfl|hp
  ·exact⟨hd,ld⟩
  ·rcases List.mem_cons.1 hp with rfl|hp
   ·exact⟨he,le⟩
   ·cases hp)
 rwa[ce_2]at this
theorem zv_f(d:List Nat):zv false d=(nv B d:Int):=rfl
end Go.Proofs.YtcgfgifjkkmmcaaGreatDoor
namespace Go.Proofs.YtcgfgifjkkmmcaaGreatDoor
open Go Go.RowKit Ab
def KI:=an @aH (an @fV (an @Nat.div_one (an @Nat.mul_one (an @aO (an @eY (an @oD (an @dF (an @jm (an @wi (an @lX (an @Bool.false_and @dh)))))))))))
theorem KJ{z:Int}{d:Nat}:rz z d*(rG z d:Int)=z:=Int.tdiv_mul_cancel (Int.ofNat_dvd_left.2 (Nat.gcd_dvd_left _ _))
theorem xZ{z:Int}{d:Nat}:dC z d*rG z d=d:=Nat.div_mul_cancel (Nat.gcd_dvd_right _ _)
theorem nJ{z:Int}{d:Nat}(h:d≠0):dC z d≠0:=fun h0=>by
 have:=xZ (z:=z) (d:=d);rw[h0,Nat.zero_mul]at this;exact h this.symm
theorem cz_sgz(x y:Int):cz x y=iZ (x-y):=by
 unfold cz iZ;by_cases h1:x<y
 ·rw[if_pos h1,if_pos om]
 ·by_cases h2:x=y
  ·rw[if_neg h1,if_pos h2,if_neg om,if_neg om]
  ·rw[if_neg h1,if_neg h2,if_neg om,if_pos om]
theorem x_(s:Bool)(a:List Nat)(ha:Wd a)(la:a.length≤1000000000):ah Tryz.prog J0 91 [zL s a] (.i .i64 (iZ (zv s a))):=by
 have h1:=uJ a ha om;unfold zv zI;by_cases h:nv B a=0
 ·rw[decide_eq_true h]at h1;rw[h,show iZ (if s=true then -((0:Nat):Int)else((0:Nat):Int))=0 from by cases s<;>rfl];refine d_ aX bV Tryz.func91 ?_;exact jR @KI
 ·rw[decide_eq_false h]at h1;cases s
  ·rw[show iZ (if false=true then -(nv B a:Int)else(nv B a:Int))=1 from by unfold iZ;simp;omega];refine d_ aX bV Tryz.func91 ?_;exact jR @KI
  ·rw[show iZ (if true=true then -(nv B a:Int)else(nv B a:Int))= -1 from by unfold iZ;simp;omega];refine d_ aX bV Tryz.func91 ?_;exact jR @KI
theorem hsgnN{z:Int}{m:Nat}(hz:z.natAbs<B^m)(hm:m≤1000000000):ah Tryz.prog J0 91 [zN z] (.i .i64 (iZ z)):=by
 have:=x_ (decide (z<0)) (dg B z.natAbs) (az _) (Nat.le_trans (bC hz) hm);rwa[dJ]at this
theorem Jm(s t:Bool)(a b d e:List Nat)(m:Nat)(hm:m≤10000000)(ha:Wd a)(hb:Wd b)(hd:Wd d)(he:Wd e)(la:a.length≤m)(lb:b.length≤m)(ld:d.length≤m)(le:e.length≤m)(h:nv B d*nv B e≠0):
 ah Tryz.prog J0 59 [rL s a d,rL t b e] (rN (rz (zv s a*(nv B e:Int)+zv t b*(nv B d:Int)) (nv B d*nv B e)) (dC (zv s a*(nv B e:Int)+zv t b*(nv B d:Int)) (nv B d*nv B e))):=by
 have i1:=nV false e he om
 have i2:=nV false d hd om
 rw[zv_f]at i1 i2
 have m1:=mX s (decide ((nv B e:Int)<0)) a (dg B ((nv B e:Int)).natAbs) m om ha (az _) la (bC (fO he le))
 have m2:=mX t (decide ((nv B d:Int)<0)) b (dg B ((nv B d:Int)).natAbs) m om hb (az _) lb (bC (fO hd ld))
 rw[dJ]at m1 m2
 have b1:(zv s a*(nv B e:Int)).natAbs<B^(m+m):=by rw[Int.natAbs_mul,Nat.pow_add];exact Nat.mul_lt_mul'' (dD ha la) (fO he le)
 have b2:(zv t b*(nv B d:Int)).natAbs<B^(m+m):=by rw[Int.natAbs_mul,Nat.pow_add];exact Nat.mul_lt_mul'' (dD hb lb) (fO hd ld)
 have b3:nv B d*nv B e<B^(m+m):=by rw[Nat.pow_add];exact Nat.mul_lt_mul'' (fO hd ld) (fO he le)
 have t1:=(xA d e hd he om om).frozen
 generalize zv s a*(nv B e:Int)=x at*
 generalize zv t b*(nv B d:Int)=y at*
 generalize nv B d*nv B e=w at*
 have s1:=haddZ b1 b2 om
 have b4:(x+y).natAbs<B^(m+m+1):=Nat.lt_of_le_of_lt (Int.natAbs_add_le _ _) (zJ b1 b2)
 have r1:=wK (decide (x+y<0)) (dg B (x+y).natAbs) (dg B w) (m+m+1) om (az _) (az _) (bC b4) (bC (Ja b3 om)) (by rw[aS];exact h)
 rw[dJ,aS]at r1
 generalize rz (x+y) w=u at*
 generalize dC (x+y) w=v at*
 generalize x+y=xy at*
 refine ja aX bV Tryz.func59 [.c 4 true 3] ?_
 exact vM @KI
