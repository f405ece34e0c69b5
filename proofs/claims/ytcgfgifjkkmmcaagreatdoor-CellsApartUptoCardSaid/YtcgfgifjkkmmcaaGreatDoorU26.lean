import Derived.Deep.MidRow
import Derived.Test.YtcgfgifjkkmmcaaGreatDoorQE
import Derived.Test.YtcgfgifjkkmmcaaGreatDoorU18
set_option linter.all false
set_option maxHeartbeats 10000000
set_option maxRecDepth 2000000
namespace Go.Proofs.YtcgfgifjkkmmcaaGreatDoor
section
open Go Go.RowKit Ab
theorem qW{z:Int}{d:Nat}(h:d≠0):rz z d=(mkRat z d).num:=by
 rw[Rat.num_mkRat,if_neg h,Nat.gcd_comm];show z.tdiv (Nat.gcd z.natAbs d:Int)=_;exact Int.tdiv_eq_ediv_of_dvd (Int.ofNat_dvd_left.2 (Nat.gcd_dvd_left _ _))
theorem qX{z:Int}{d:Nat}(h:d≠0):dC z d=(mkRat z d).den:=by
 rw[Rat.den_mkRat,if_neg h,Nat.gcd_comm];rfl
def Rr(v:V)(p:Rat)(m:Nat):Prop:=∃(s:Bool) (a d:List Nat),v=rL s a d∧Wd a∧Wd d∧a.length≤m∧d.length≤m∧nv B d≠0∧mkRat (zv s a) (nv B d)=p
theorem Rr_c{p:Rat}{m:Nat}(h1:p.num.natAbs<B^m)(h2:p.den<B^m):Rr (rN p.num p.den) p m:=
 ⟨_,_,_,rfl,az _,az _,bC h1,bC h2,by rw[aS];exact p.den_nz,by rw[dJ,aS];exact Rat.mkRat_self p⟩
theorem TF{v:V}{p:Rat}{m n:Nat}(h:Rr v p m)(k:m≤n):Rr v p n:=by
 obtain⟨s,a,d,h1,h2,h3,h4,h5,h6⟩:=h;exact⟨s,a,d,h1,h2,h3,om,om,h6⟩
theorem XN{z:Int}{d m:Nat}{p:Rat}(h:d≠0)(e:mkRat z d=p)(hz:z.natAbs<B^m)(hd:d<B^m):rv z d=rN p.num p.den∧re d=0∧Rr (rN p.num p.den) p m:=by
 subst e;refine⟨by rw[Sr _ h,qW h,qX h],re_p h,Rr_c ?_ ?_⟩
 ·rw[←qW h,Jl];exact Nat.lt_of_le_of_lt (Nat.div_le_self _ _) hz
 ·rw[←qX h];exact Nat.lt_of_le_of_lt (Nat.div_le_self _ _) hd
theorem EC{v:V}{p:Rat}{m:Nat}(hv:Rr v p m):p.num.natAbs<B^m∧p.den<B^m:=by
 obtain⟨s,a,d,rfl,ha,hd,la,ld,h0,rfl⟩:=hv;rw[←qW h0,←qX h0,Jl];exact⟨Nat.lt_of_le_of_lt (Nat.div_le_self _ _) (dD ha la),Nat.lt_of_le_of_lt (Nat.div_le_self _ _) (fO hd ld)⟩
theorem TG{p:Rat}{m:Nat}{v:V}(h:Rr v p m)(hm:m≤49000000):ah Tryz.prog J0 23 [rN p.num p.den,rN p.num p.den] (.b true):=by
 obtain⟨h1,h2⟩:=EC h;have l1:=bC h1;have l2:=bC h2;exact Jn _ _ _ om om
end
section
open Go Go.RowKit Ab
theorem le_q{z w:Int}{d e:Nat}(hd:d≠0)(he:e≠0):mkRat z d≤mkRat w e↔z*(e:Int)≤w*(d:Int):=by
 rw[Rat.le_iff,←qW hd,←qW he,←qX hd,←qX he];exact r_le hd he
theorem lt_q{z w:Int}{d e:Nat}(hd:d≠0)(he:e≠0):mkRat z d<mkRat w e↔z*(e:Int)<w*(d:Int):=by
 rw[←Rat.not_le,le_q he hd];omega
def cq(p q:Rat):Int:=if p<q then-1 else if p=q then 0 else 1
theorem cz_q{z w:Int}{d e:Nat}(hd:d≠0)(he:e≠0):cz (z*(e:Int)) (w*(d:Int))=cq (mkRat z d) (mkRat w e):=by
 unfold cz cq;simp only[lt_q hd he,Rat.mkRat_eq_iff hd he]
structure Smp(z:Int)(d:Nat)(w:Int)(e:Nat)(t:Int×Nat):Prop where
 n0:t.2≠0
 co:Nat.gcd t.1.natAbs t.2=1
 lo:z*(t.2:Int)≤t.1*(d:Int)
 hi:t.1*(e:Int)≤w*(t.2:Int)
 mi:∀(x:Int) (y:Nat),0<y→z*(y:Int)≤x*(d:Int)→x*(e:Int)≤w*(y:Int)→t.2≤y
 bn:t.1.natAbs≤z.natAbs
 bd:t.2≤d
end
section
open Go Go.RowKit Ab
def ED:=an @aH (an @fV (an @Nat.div_one (an @Nat.mul_one (an @aO (an @eY (an @oD (an @dF (an @jm (an @wi (an @lX (an @Bool.false_and @dh)))))))))))
theorem XO(s t:Bool)(u v:Nat):(zI s u).tmod (zI t v)=0↔u%v=0:=by
 rw[←KR];unfold zI;split<;>omega
theorem ffl(s t:Bool)(u v:Nat)(hv:v≠0):(0≤iZ (zI s u)*iZ (zI t v)→(zI s u).fdiv (zI t v)=zI false (u/v))∧
 (¬0≤iZ (zI s u)*iZ (zI t v)→u%v≠0→(zI s u).fdiv (zI t v)=zI true (u/v+1))∧(¬0≤iZ (zI s u)*iZ (zI t v)→u%v=0→(zI s u).fdiv (zI t v)=zI true (u/v)):=by
 have h0:zI t v≠0:=by unfold zI;split<;>omega
 have e:=KT (zI s u) (zI t v) h0
 simp only[ne_eq,XO,←Ec]at e
 rw[e]
 have hm:u=0→u%v=0∧u/v=0:=fun h=>by subst h;exact⟨Nat.zero_mod _,Nat.zero_div _⟩
 rw[YU,YU,if_neg hv]
 generalize u/v=q at*
 generalize u%v=r at*
 by_cases hu:u=0
 ·obtain⟨rfl,rfl⟩:=hm hu;rw[if_pos hu];cases s<;>cases t<;>simp[zI]
 ·rw[if_neg hu];cases s<;>cases t<;>simp[zI]<;>intros<;>first|omega|(split<;>omega)
theorem EE{x:Int}{v m:Nat}(hx:x.natAbs<B^m):(x.fdiv (v:Int)).natAbs<B^(m+1):=by
 rw[Int.fdiv_eq_ediv_of_nonneg x (Int.natCast_nonneg v)];exact Nat.lt_of_le_of_lt (Int.natAbs_ediv_le_natAbs x _) (Ja hx (Nat.le_succ m))
theorem GL(s t:Bool)(a b:List Nat)(m:Nat)(hm:m≤10000000)(ha:Wd a)(hb:Wd b)(la:a.length≤m)(lb:b.length≤m)(h0:nv B b≠0):ah Tryz.prog J0 54 [zL s a,zL t b] (zN ((zv s a).fdiv (zv t b))):=by
 have q1:=xC a b ha hb om om h0;have s1:=x_ s a ha om;have s2:=x_ t b hb om;have w1:=Gu (Ef (zv s a)) (Ef (zv t b));obtain⟨f1,f2,f3⟩:=ffl s t (nv B a) (nv B b) h0;change 0≤iZ (zv s a)*iZ (zv t b)→(zv s a).fdiv (zv t b)=_ at f1;change¬0≤iZ (zv s a)*iZ (zv t b)→_→(zv s a).fdiv (zv t b)=_ at f2;change¬0≤iZ (zv s a)*iZ (zv t b)→_→(zv s a).fdiv (zv t b)=_ at f3;have lq:nv B a/nv B b<B^m:=Nat.lt_of_le_of_lt (Nat.div_le_self _ _) (fO ha la);have lr:nv B a%nv B b<B^m:=Nat.lt_of_le_of_lt (Nat.mod_le _ _) (fO ha la);have z1:=uJ (dg B (nv B a%nv B b)) (az _) (Nat.le_trans (bC lr) om);rw[aS]at z1;have i1:=U7 false lq om;have i2:=U7 true lq om;have o1:=(uK 1 dc).frozen;have p1:=(BU (dg B (nv B a/nv B b)) (dg B 1) (az _) (az _) (Nat.le_trans (bC lq) om) (Nat.le_trans (bC (k:=1) dc) dc)).frozen;rw[aS,aS]at p1;have lq1:nv B a/nv B b+1<B^(m+1):=zJ lq (Nat.lt_of_lt_of_le (by decide:1<B^1) (Nat.pow_le_pow_right B0 (by
  rcases Nat.eq_zero_or_pos m with h|h
  ·exfalso;subst h;have:=fO hb lb;rw[Nat.pow_zero]at this;omega
  ·exact h)))
 have i3:=U7 true lq1 om;generalize nv B a/nv B b=q at*
 generalize nv B a%nv B b=r at*
 generalize (zv s a).fdiv (zv t b)=f at*
 generalize iZ (zv s a)=g1 at*
 generalize iZ (zv t b)=g2 at*
 by_cases hs:0≤g1*g2
 ·rw[f1 hs];generalize zI false q=x at*
  refine ja aX bV Tryz.func54 [.c 4 true 2] ?_;exact vM (ai @w1 (ai @hs @ED))
 ·by_cases hr:r=0
  ·rw[f3 hs hr];generalize zI true q=x at*
   rw[decide_eq_true hr]at z1;refine ja aX bV Tryz.func54 [.c 4 true 2] ?_;exact vM (ai @w1 (ai @hs @ED))
  ·rw[f2 hs hr];generalize zI true (q+1)=x at*
   rw[decide_eq_false hr]at z1;refine ja aX bV Tryz.func54 [.c 4 true 2] ?_;exact vM (ai @w1 (ai @hs @ED))
theorem XP{x:Int}{v m:Nat}(hx:x.natAbs<B^m)(hv:v<B^m)(hm:m≤10000000)(h0:v≠0):ah Tryz.prog J0 54 [zN x,zN (v:Int)] (zN (x.fdiv (v:Int))):=by
 have h:=GL (decide (x<0)) (decide ((v:Int)<0)) (dg B x.natAbs) (dg B (v:Int).natAbs) m hm (az _) (az _) (bC hx) (bC hv) (by rw[aS];exact h0);rw[dJ,dJ]at h;exact h
theorem GM(s t:Bool)(a b:List Nat)(m:Nat)(hm:m≤10000000)(ha:Wd a)(hb:Wd b)(la:a.length≤m)(lb:b.length≤m):ah Tryz.prog J0 55 [zL s a,zL t b] (.i .i64 (cz (zv s a) (zv t b))):=by
 have s1:=Hy s t a b m om ha hb la lb;have hb1:(zv s a-zv t b).natAbs<B^(m+1):=Nat.lt_of_le_of_lt (Int.natAbs_sub_le _ _) (zJ (dD ha la) (dD hb lb));rw[cz_sgz];generalize zv s a-zv t b=z at*
 have g1:=hsgnN hb1 om;generalize iZ z=g at*
 refine d_ aX bV Tryz.func55 ?_;exact jR @ED
end
section
open Go Go.RowKit Ab
def Lc:=an @aH (an @fV (an @Nat.div_one (an @Nat.mul_one (an @aO (an @eY (an @oD (an @dF (an @jm (an @wi (an @lX (an @Bool.false_and @dh)))))))))))
theorem XQ{a:List Nat}{w c i:Nat}:nv B (a.take (i+1))*w+c=(nv B (a.take i)*w+c)+B^i*(a.getD i 0*w):=by
 rw[af,Nat.add_mul,Nat.mul_assoc];omega
theorem Y6{a:List Nat}{w c:Nat}(ha:Wd a)(hw:w<B)(hc:c<B)(i:Nat):(nv B (a.take i)*w+c)/B^i<B:=by
 refine(Nat.div_lt_iff_lt_mul (Nat.pow_pos B0)).2 ?_;have h1:=aZ (b:=B) dc ha i;have h2:nv B (a.take i)*w≤(B^i-1)*(B-1):=Nat.mul_le_mul om om;have h3:(B^i-1)*(B-1)+(B-1)=B^i*(B-1):=by
  rw[←Nat.succ_mul];congr 1;have:=Nat.pow_pos (n:=i) B0;omega
 have h4:B*B^i=B^i*(B-1)+B^i:=by
  rw[Nat.mul_comm,←Nat.mul_succ];rfl
 have:=Nat.pow_pos (n:=i) B0;omega
theorem Ld{T i y:Nat}:(T+B^i*y)/B^(i+1)=(y+T/B^i)/B∧(T+B^i*y)/B^i%B=(y+T/B^i)%B∧fl B i (T+B^i*y)=fl B i T:=by
 refine⟨?_,?_,ed B0 (Nat.add_mul_mod_self_left _ _ _)⟩
 ·rw[Nat.pow_succ,←Nat.div_div_eq_div_mul,Nat.add_mul_div_left _ _ (Nat.pow_pos B0),Nat.add_comm]
 ·rw[Nat.add_mul_div_left _ _ (Nat.pow_pos B0),Nat.add_comm]
noncomputable def a113:AC:=gc Tryz.prog Tryz.f113
theorem GN(a:List Nat)(w c:Nat)(ha:Wd a)(hw:w<18446744073709551616)(hc:c<18446744073709551616)(la:a.length≤1099511627776):
 ah Tryz.prog J0 113 [.l 1 (W a),.i .u64 (w:Int),.i .u64 (c:Int)] (.to 31 1 (W (fl B a.length (nv B a*w+c))) [.i .u64 (((nv B a*w+c)/B^a.length:Nat):Int)]):=by
 refine ah.mkt aX bV Tryz.func113 rfl (ac:=a113) kf rfl dc rfl dc ?_
 apply dG
 unfold a113
 conv in gc _ _=>reduce
 simp only[fZ,fC,Int.reduceOfNat,Int.reduceNegSucc]
 refine aJ @Lc ?_
 refine aF [] Nat (fun i=>⟨[(1,.i .u64 (w:Int)),(2,.i .u64 (((nv B (a.take i)*w+c)/B^i:Nat):Int)),(8,.ow 1 0 a.length),(14,.l 1 (W a)),(15,.i .i64 (a.length:Int)),(16,.i .i64 (i:Int))],
  [(0,some ⟨31,1,W (fl B i (nv B (a.take i)*w+c)++List.replicate (a.length-i) 0),true,false⟩)],1⟩)
  (fun i=>i≤a.length) (fun i=>a.length-i) 0 (Nat.zero_le _) (by exact mF) (by
  refine nO trivial ?_
  refine⟨by simp[nv],?_⟩
  rw[Nat.sub_zero,fl,List.nil_append];exact DW _) ?_
 intro i hi Q' hQ he hr
 by_cases h:(i:Int)<a.length
 ·have hx:=dA ha i;have hm:=tJ (a.getD i 0) w ((nv B (a.take i)*w+c)/B^i) 0 hx hw (Y6 ha hw hc i) dc;rw[Nat.add_zero]at hm;have hst:=XQ (a:=a) (w:=w) (c:=c) (i:=i);have hll:(fl B i (nv B (a.take i)*w+c)++List.replicate (a.length-i) 0).length=a.length:=by rw[List.length_append,List.length_replicate,bg];omega
  have hset:(fl B i (nv B (a.take i)*w+c)++List.replicate (a.length-i) 0).set i ((a.getD i 0*w+(nv B (a.take i)*w+c)/B^i)%18446744073709551616)=fl B (i+1) (nv B (a.take (i+1))*w+c)++List.replicate (a.length-(i+1)) 0:=by
   obtain⟨n1,n2,n3⟩:=Ld (T:=nv B (a.take i)*w+c) (i:=i) (y:=a.getD i 0*w);rw[hst,dO,n2,n3,show a.length-i=(a.length-(i+1))+1 from om,List.replicate_succ,List.set_append_right _ _ (by rw[bg];exact Nat.le_refl _),bg,Nat.sub_self,List.set_cons_zero,List.append_assoc];rfl
  have hnx:(a.getD i 0*w+(nv B (a.take i)*w+c)/B^i)/18446744073709551616=(nv B (a.take (i+1))*w+c)/B^(i+1):=by
   rw[hst,(Ld (T:=nv B (a.take i)*w+c) (i:=i) (y:=a.getD i 0*w)).1];rfl
  generalize (nv B (a.take i)*w+c)/B^i=ci at*
  refine qc (ai @hset (ai @iQ (ai @hll (ai @aH (ai @cZ (ai @h @Lc)))))) ?_;refine hQ _ (i+1) om om ?_;refine nO trivial ?_;refine⟨?_,?_⟩<;>first|omega|rw[hnx]
 ·obtain rfl:i=a.length:=om;refine aJ (ai @h @Lc) ?_;refine he _ _ ?_;refine aJ @Lc ?_;rw[Nat.sub_self,List.replicate_zero,List.append_nil,List.take_length];exact⟨⟨_,_,rfl,rfl,rfl⟩,⟨rfl,rfl⟩,trivial⟩
end
section
open Go Go.RowKit Ab
def Y7:=an @aH (an @fV (an @Nat.div_one (an @Nat.mul_one (an @aO (an @eY (an @oD (an @dF (an @jm (an @wi (an @lX (an @Bool.false_and @dh)))))))))))
theorem GR(a:List Nat)(w:Nat)(ha:Wd a)(hw:w<18446744073709551616)(la:a.length≤1000000000):ah Tryz.prog J0 76 [.l 1 (W a),.i .u64 (w:Int)] (.o 31 1 (W (dg B (nv B a*w)))):=by
 have h1:=GN a w 0 ha hw dc om;rw[Nat.add_zero]at h1;have hlt:nv B a*w/B^a.length<B:=by
  have:=Y6 ha hw (show 0<B by decide) a.length;rwa[List.take_length,Nat.add_zero]at this
 have hb:nv B a*w<B^(a.length+1):=by
  rw[Nat.pow_succ,Nat.mul_comm _ B];exact(Nat.div_lt_iff_lt_mul (Nat.pow_pos B0)).1 hlt
 have h2:=mM (fl B (a.length+1) (nv B a*w)) (by rw[bg];omega);rw[qM B2 hb]at h2;have e:fl B (a.length+1) (nv B a*w)=fl B a.length (nv B a*w)++[nv B a*w/B^a.length]:=by rw[dO,Nat.mod_eq_of_lt hlt]
 have lf:=bg (b:=B) a.length (nv B a*w);rw[e]at h2;generalize nv B a*w/B^a.length=top at*
 generalize nv B a*w=v at*
 generalize fl B a.length v=f at*
 refine d_ aX bV Tryz.func76 ?_;repeat first|(refine hK _ ?_;clear hK K)|simp only[Sv,↓reduceIte,Nat.reduceEqDiff]|((first|refine ay (fun K hK=>?_)|refine aB (fun K hK=>?_)|refine au (fun K hK=>?_)|refine kL ?_|refine iL (by assumption) ?_|refine kM ?_|(apply iM;assumption)|(apply iP;assumption));simp(disch:=(first|omega|assumption)) only[S1,seval,-Int.reduceToNat,-List.reduceReplicate,a_.sb,a_.mut,bZ,↓Bool.false_eq_true,beq_self_eq_true,ite_self,Y7,lf,xk])
 simp(disch:=(first|omega|assumption)) only[fM,iW,jb,lY,iC,V.aQ,and_true,true_and,S1,seval,-Int.reduceToNat,-List.reduceReplicate,a_.sb,a_.mut,bZ,↓Bool.false_eq_true,beq_self_eq_true,ite_self,Y7,lf,xk]
end
section
open Go Go.RowKit Ab
theorem mk_mid(z w:Int){d e:Nat}(hd:d≠0)(he:e≠0):mkRat (z*(e:Int)+w*(d:Int)) (d*e*2)=(mkRat z d+mkRat w e)/2:=by
 have h2:(2:Rat)=mkRat 2 1:=rfl;rw[Rat.mkRat_add_mkRat _ _ hd he];have h0:d*e≠0:=Nat.mul_ne_zero hd he;have key:mkRat (z*(e:Int)+w*(d:Int)) (d*e*2)*2=mkRat (z*(e:Int)+w*(d:Int)) (d*e):=by
  rw[h2,Rat.mkRat_mul_mkRat,Rat.mkRat_eq_iff om h0];rw[Nat.mul_one,Int.natCast_mul (d*e) 2];grind
 rw[←key];generalize mkRat (z*(e:Int)+w*(d:Int)) (d*e*2)=x;grind
end
section
open Go Go.RowKit Ab
def Bd:=an @aH (an @fV (an @Nat.div_one (an @Nat.mul_one (an @aO (an @eY (an @oD (an @dF (an @jm (an @wi (an @lX (an @Bool.false_and @dh)))))))))))
abbrev cL(s:Bool)(a:List Nat)(k:Int)(p:Bool):V:= .g [.b s,.l 1 (W a),.i .i64 k,.b p]
abbrev cN(z:Int)(k:Int)(p:Bool):V:= .g [.b (decide (z<0)),.l 1 (W (dg B z.natAbs)),.i .i64 k,.b p]
def Be(k:Int):Int:=if k<0 then 3 else if 1048576<k then 13 else 0
theorem ckE_n{k:Int}(h:k<0):Be k=3:=if_pos h
theorem ckE_b{k:Int}(h:1048576<k):Be k=13:=by unfold Be;rw[if_neg om,if_pos h]
theorem TI{k:Int}(h1:0≤k)(h2:k≤1048576):Be k=0:=by unfold Be;rw[if_neg om,if_neg om]
theorem GU(s:Bool)(a:List Nat)(k:Int)(p:Bool):ah Tryz.prog J0 34 [cL s a k p] (.i .i64 (Be k)):=by
 by_cases h1:k<0
 ·rw[ckE_n h1];refine d_ aX bV Tryz.func34 ?_;exact YI (ai @h1 @Bd)
 ·by_cases h2:1048576<k
  ·rw[ckE_b h2];refine d_ aX bV Tryz.func34 ?_;exact YI (ai @h2 (ai @h1 @Bd))
  ·rw[TI om om];refine d_ aX bV Tryz.func34 ?_;exact YI (ai @h2 (ai @h1 @Bd))
def CC:List (Bool×List Nat×Int×Bool)→List V
 |[]=>[]
 |p::r=> .b p.1:: .l 1 (W p.2.1):: .i .i64 p.2.2.1:: .b p.2.2.2::CC r
theorem TK:∀l,(CC l).length=l.length*4
 |[]=>rfl
 |p::r=>by simp only[CC,List.length_cons,TK r];omega
abbrev pV:Bool×List Nat×Int×Bool:=(false,[],0,false)
theorem TL:∀(l:List (Bool×List Nat×Int×Bool)) (i:Nat),i<l.length→((CC l).drop (i*4)).take 4=[.b (l.getD i pV).1,.l 1 (W (l.getD i pV).2.1),.i .i64 (l.getD i pV).2.2.1,.b (l.getD i pV).2.2.2]
 |[],i,h=>by simp at h
 |p::r,0,h=>rfl
 |p::r,i+1,h=>by
  have:=TL r i (by simpa using h);rw[show(i+1)*4=(i*4+3)+1 from om];exact this
def Oc:List (Bool×List Nat×Int×Bool)→Int
 |[]=>0
 |c::r=>if Be c.2.2.1=0 then Oc r else Be c.2.2.1
theorem EF:∀(l r:List (Bool×List Nat×Int×Bool)),(∀p,p∈l→Be p.2.2.1=0)→Oc (l++r)=Oc r
 |[],r,_=>rfl
 |c::l,r,h=>by rw[List.cons_append,Oc,if_pos (h c List.mem_cons_self)];exact EF l r fun p hp=>h p (List.mem_cons_of_mem _ hp)
theorem Oe{l:List (Bool×List Nat×Int×Bool)}{i:Nat}(hi:i<l.length)(h:∀u,u<i→Be (l.getD u pV).2.2.1=0)(hn:Be (l.getD i pV).2.2.1≠0):Oc l=Be (l.getD i pV).2.2.1:=by
 have e:l=l.take i++l.getD i pV::l.drop (i+1):=by
  rw[List.getD_eq_getElem?_getD,List.getElem?_eq_getElem hi,Option.getD_some,←List.drop_eq_getElem_cons hi,List.take_append_drop]
 have hp:∀p,p∈l.take i→Be p.2.2.1=0:=fun p hp=>by
  obtain⟨u,hu⟩:=List.getElem?_of_mem hp;have hlt:=(List.getElem?_eq_some_iff.1 hu).1;rw[List.length_take]at hlt;rw[List.getElem?_take,if_pos om]at hu;have:=h u om;rwa[List.getD_eq_getElem?_getD,hu]at this
 have h3:=EF (l.take i) (l.getD i pV::l.drop (i+1)) hp;rw[←e]at h3;rw[h3,Oc,if_neg hn]
theorem XR{l:List (Bool×List Nat×Int×Bool)}(h:∀u,u<l.length→Be (l.getD u pV).2.2.1=0):Oc l=0:=by
 have hp:∀p,p∈l→Be p.2.2.1=0:=fun p hp=>by
  obtain⟨u,hu⟩:=List.getElem?_of_mem hp;have hlt:=(List.getElem?_eq_some_iff.1 hu).1;have:=h u hlt;rwa[List.getD_eq_getElem?_getD,hu]at this
 have:=EF l [] hp;rwa[List.append_nil]at this
def hiN(z:Int)(p:Bool):Int:=if p then z else z+1
theorem zB{z:Int}{p:Bool}{m:Nat}(h:z.natAbs<B^m):(hiN z p).natAbs<B^(m+1):=by
 have h1:(hiN z p).natAbs≤z.natAbs+1:=by
  unfold hiN;split
  ·omega
  ·exact Int.natAbs_add_le z 1
 have h2:B^m<B^(m+1):=Nat.pow_lt_pow_right B2 (Nat.lt_succ_self m);omega
theorem yI(s:Bool)(a:List Nat)(n:Nat)(hn:n≤1048576)(ha:Wd a)(la:a.length≤1000000000):ah Tryz.prog J0 36 [zL s a,.i .i64 (n:Int)] (zN (zv s a*2^n)):=by
 have h1:=NP s a (n:Int) ha la;rw[show zlV (zv s a) (n:Int)=zv s a*2^n from if_neg om,show zlE (n:Int)=0 from if_neg om]at h1;generalize zv s a*2^n=z at*
 refine ja aX bV Tryz.func36 [.c 4 true 2] ?_;exact vM @Bd
theorem Bf(n:Nat){m:Nat}(h:n/64+1≤m):2^n<B^m:=Ja (Jo n) h
theorem Og{z:Int}{m n:Nat}(h:z.natAbs<B^m)(hn:n≤1048576):(z*2^n).natAbs<B^(m+16384):=by
 rw[Int.natAbs_mul,Int.natAbs_pow];exact zy h hn
theorem Bg(s:Bool)(a:List Nat)(k e:Nat)(p:Bool)(hk:k≤e)(he:e≤1048576)(ha:Wd a)(la:a.length≤100000000):ah Tryz.prog J0 39 [cL s a (k:Int) p,.i .i64 (e:Int)] (.t [zN (zv s a*2^(e-k)),zN (hiN (zv s a) p*2^(e-k))]):=by
 have w1:IntKind.i64.wrap ((e:Int)-(k:Int))=((e-k:Nat):Int):=by rw[wi om];omega
 have h1:=yI s a (e-k) om ha om;cases p with
 |true=>
  show ah Tryz.prog J0 39 [cL s a (k:Int) true,.i .i64 (e:Int)] (.t [zN (zv s a*2^(e-k)),zN (zv s a*2^(e-k))]);generalize zv s a*2^(e-k)=z at*
  generalize ((e-k:Nat):Int)=n at*
  refine ja aX bV Tryz.func39 [.c 4 true 2,.c 5 true 2] ?_;exact vM (ai @w1 @Bd)
 |false=>
  show ah Tryz.prog J0 39 [cL s a (k:Int) false,.i .i64 (e:Int)] (.t [zN (zv s a*2^(e-k)),zN ((zv s a+1)*2^(e-k))]);have o1:=tY 1 dc dc;have h2:=NM s (decide ((1:Int)<0)) a (dg B (1:Int).natAbs) ha (az _) om (Nat.le_trans (bC (k:=1) dc) dc);rw[dJ]at h2;obtain⟨M,hM⟩:∃M:Nat,M=100000000:=⟨_,rfl⟩;have hb:(zv s a+1).natAbs<B^(M+1):=zB (p:=false) (dD ha om);generalize zv s a+1=y at*
  have h3:=yI (decide (y<0)) (dg B y.natAbs) (e-k) om (az _) (Nat.le_trans (bC hb) om);rw[dJ]at h3;generalize zv s a*2^(e-k)=z at*
  generalize y*2^(e-k)=w at*
  generalize ((e-k:Nat):Int)=n at*
  refine ja aX bV Tryz.func39 [.c 4 true 2,.c 5 true 2] ?_;exact vM (ai @w1 @Bd)
abbrev aU(z:Int)(k:Nat):Rat:=mkRat z (2^k)
theorem fH(k:Nat):2^k≠0:=Nat.pos_iff_ne_zero.1 (Nat.two_pow_pos k)
structure CIn(a:List Nat)(k:Int)(m n:Nat):Prop where
 w:Wd a
 l:a.length≤m
 k:k=(n:Int)
 n:n≤1048576
theorem Y8{x y:Int}{k j e:Nat}(hk:k≤e)(hj:j≤e):cz (x*2^(e-k)) (y*2^(e-j))=cq (aU x k) (aU y j):=by
 have h:=cz_q (z:=x) (w:=y) (d:=2^k) (e:=2^j) (fH k) (fH j);rw[←h];have key:∀u v:Int,∀c:Nat,cz (u*2^c) (v*2^c)=cz u v:=fun u v c=>by
  have hp:(0:Int)<2^c:=Int.pow_pos dc;have h1:(u*2^c<v*2^c)=(u<v):=propext (Int.mul_lt_mul_right hp);have h2:(u*2^c=v*2^c)=(u=v):=propext ⟨fun h=>Int.eq_of_mul_eq_mul_right om h,fun h=>by rw[h]⟩;unfold cz;simp only[h1,h2]
 have e1:((2^j:Nat):Int)=2^j:=Int.natCast_pow 2 j;have e2:((2^k:Nat):Int)=2^k:=Int.natCast_pow 2 k;rw[e1,e2];rcases Nat.le_total k j with h1|h1
 ·obtain⟨c,rfl⟩:∃c,e=j+c:=⟨e-j,om⟩;rw[←key (x*2^(j+c-k)) (y*2^(j+c-j)) k,←key (x*2^j) (y*2^k) c];simp only[Int.mul_assoc,←Int.pow_add];rw[show j+c-k+k=j+c from om,show j+c-j+k=k+c from om]
 ·obtain⟨c,rfl⟩:∃c,e=k+c:=⟨e-k,om⟩;rw[←key (x*2^(k+c-k)) (y*2^(k+c-j)) j,←key (x*2^j) (y*2^k) c];simp only[Int.mul_assoc,←Int.pow_add];rw[show k+c-k+j=j+c from om,show k+c-j+j=k+c from om]
def OA(bel abo:Int)(opn:Bool):Int:=if bel<0∨(bel=0∧opn=true)then-1 else if 0<abo∨(abo=0∧opn=true)then 1 else 0
theorem cp_1(x:Int)(o:Bool):OA (-1) x o= -1:=rfl
theorem cp_2(x:Int):OA 0 x true= -1:=rfl
theorem cp_3:OA 0 1 false=1:=rfl
theorem cp_4:OA 0 0 false=0:=rfl
theorem cp_5:OA 0 (-1) false=0:=rfl
theorem cp_6(o:Bool):OA 1 1 o=1:=rfl
theorem cp_7:OA 1 0 true=1:=rfl
theorem cp_8:OA 1 0 false=0:=rfl
theorem cp_9(o:Bool):OA 1 (-1) o=0:=by cases o<;>rfl
theorem JG(p q:Rat):cq p q= -1∨cq p q=0∨cq p q=1:=by unfold cq;split;exact .inl rfl;split;exact .inr (.inl rfl);exact .inr (.inr rfl)
theorem mxn(k j:Nat):max (k:Int) (j:Int)=((max k j:Nat):Int):=om
theorem BK(s t:Bool)(a b:List Nat)(k j m:Nat)(p q:Bool)(hk:k≤1048576)(hj:j≤1048576)(ha:Wd a)(hb:Wd b)(la:a.length≤m)(lb:b.length≤m)(hm:m≤2000000):
 ah Tryz.prog J0 48 [cL s a (k:Int) p,cL t b (j:Int) q] (.t [.i .i64 (OA (cq (aU (hiN (zv s a) p) k) (aU (zv t b) j)) (cq (aU (zv s a) k) (aU (hiN (zv t b) q) j)) (!p||!q)),.b (decide (0≤cq (aU (hiN (zv s a) p) k) (aU (zv t b) j))&&decide (cq (aU (zv s a) k) (aU (hiN (zv t b) q) j)≤0))]):=by
 have h1:=Bg s a k (max k j) p om om ha om
 have h2:=Bg t b j (max k j) q om om hb om
 have b1:=Og (n:=max k j-k) (Ja (dD (s:=s) ha la) (Nat.le_succ m)) om
 have b2:=Og (n:=max k j-k) (zB (p:=p) (dD (s:=s) ha la)) om
 have b3:=Og (n:=max k j-j) (Ja (dD (s:=t) hb lb) (Nat.le_succ m)) om
 have b4:=Og (n:=max k j-j) (zB (p:=q) (dD (s:=t) hb lb)) om
 have e1:=Y8 (x:=hiN (zv s a) p) (y:=zv t b) (k:=k) (j:=j) (e:=max k j) om om
 have e2:=Y8 (x:=zv s a) (y:=hiN (zv t b) q) (k:=k) (j:=j) (e:=max k j) om om
 have mx:=mxn k j
 generalize max k j=e at*
 generalize zv s a*2^(e-k)=alo at*
 generalize hiN (zv s a) p*2^(e-k)=ahi at*
 generalize zv t b*2^(e-j)=blo at*
 generalize hiN (zv t b) q*2^(e-j)=bhi at*
 have h3:=tZ (decide (ahi<0)) (decide (blo<0)) (dg B ahi.natAbs) (dg B blo.natAbs) (az _) (az _) (Nat.le_trans (bC b2) om) (Nat.le_trans (bC b3) om)
 have h4:=tZ (decide (alo<0)) (decide (bhi<0)) (dg B alo.natAbs) (dg B bhi.natAbs) (az _) (az _) (Nat.le_trans (bC b1) om) (Nat.le_trans (bC b4) om)
 rw[dJ,dJ,e1]at h3
 rw[dJ,dJ,e2]at h4
 have v1:=JG (aU (hiN (zv s a) p) k) (aU (zv t b) j)
 have v2:=JG (aU (zv s a) k) (aU (hiN (zv t b) q) j)
 generalize cq (aU (hiN (zv s a) p) k) (aU (zv t b) j)=bel at*
 generalize cq (aU (zv s a) k) (aU (hiN (zv t b) q) j)=abo at*
 generalize (e:Int)=ee at*
 clear e1 e2 b1 b2 b3 b4 ha hb la lb
 rcases v1 with rfl|rfl|rfl<;>rcases v2 with rfl|rfl|rfl<;>cases p<;>cases q
 all_goals
  simp only[cp_1,cp_2,cp_3,cp_4,cp_5,cp_6,cp_7,cp_8,cp_9,Bool.not_true,Bool.not_false,Bool.or_true,Bool.or_false,Int.reduceLE,decide_true,decide_false,Bool.and_true,Bool.and_false,Bool.and_self]
  refine d_ aX bV Tryz.func48 ?_
  exact jR (ai @mx @Bd)
end
section
open Go Go.RowKit Ab
def pW:=an @aH (an @fV (an @Nat.div_one (an @Nat.mul_one (an @aO (an @eY (an @oD (an @dF (an @jm (an @wi (an @lX (an @Bool.false_and @dh)))))))))))
theorem Y9(p q:Rat):(cq p q=0)=(p=q):=by unfold cq;grind
theorem BL(l:List (Bool×List Nat×Int×Bool))(ll:l.length≤1000000000):ah Tryz.prog J0 47 [.l 4 (CC l)] (.i .i64 (Oc l)):=by
 have hz:=TK l;have hd:l.length*4/4=l.length:=om;obtain⟨r,hr0⟩:∃r,r=Oc l:=⟨_,rfl⟩;rw[←hr0];refine d_ aX bV Tryz.func47 ?_;repeat first
  |(refine hK _ ?_;clear hK K)
  |((first|refine ay (fun K hK=>?_)|refine aB (fun K hK=>?_)|refine au (fun K hK=>?_));simp(disch:=(first|omega|assumption)) only[S1,seval,-Int.reduceToNat,-List.reduceReplicate,a_.sb,a_.mut,bZ,↓Bool.false_eq_true,beq_self_eq_true,ite_self,pW,hz,hd];refine hK _ ?_;clear hK K)
  |simp only[Sv,↓reduceIte,Nat.reduceEqDiff]
 refine aF [] Nat (fun i=>⟨[(6,.l 4 (CC l)),(7,.i .i64 (l.length:Int)),(8,.i .i64 (i:Int))],[],0⟩)
  (fun i=>i≤l.length∧∀u,u<i→Be (l.getD u pV).2.2.1=0) (fun i=>l.length-i) 0 ⟨Nat.zero_le _,fun u hu=>om⟩ (by exact mF) (by
  exact jO) ?_
 intro i ⟨hi,hall⟩ Q' hQ he hr;by_cases h:(i:Int)<(l.length:Int)
 ·have row:=TL l i om;have hc:=GU (l.getD i pV).1 (l.getD i pV).2.1 (l.getD i pV).2.2.1 (l.getD i pV).2.2.2;by_cases h0:Be (l.getD i pV).2.2.1=0
  ·rw[h0]at hc;have AL:∀u,u<i+1→Be (l.getD u pV).2.2.1=0:=fun u hu=>by
    by_cases e:u=i
    ·subst e;exact h0
    ·exact hall u om
   generalize l.getD i pV=x at*
   repeat first|(refine hK _ ?_;clear hK K)|simp only[Sv,↓reduceIte,Nat.reduceEqDiff]|((first|refine ay (fun K hK=>?_)|refine aB (fun K hK=>?_)|refine au (fun K hK=>?_)|refine kL ?_|refine iL (by assumption) ?_|refine kM ?_|(apply iM;assumption)|(apply iP;assumption));simp(disch:=(first|omega|assumption)) only[S1,seval,-Int.reduceToNat,-List.reduceReplicate,a_.sb,a_.mut,bZ,↓Bool.false_eq_true,beq_self_eq_true,ite_self,pW,h,hz,row])
   refine hQ _ (i+1) ⟨om,AL⟩ om ?_;exact jO
  ·have hr1:r=Be (l.getD i pV).2.2.1:=hr0.trans (Oe om hall h0);generalize l.getD i pV=x at*
   generalize Be x.2.2.1=e at*
   repeat first|(refine hK _ ?_;clear hK K)|simp only[Sv,↓reduceIte,Nat.reduceEqDiff]|((first|refine ay (fun K hK=>?_)|refine aB (fun K hK=>?_)|refine au (fun K hK=>?_)|refine kL ?_|refine iL (by assumption) ?_|refine kM ?_|(apply iM;assumption)|(apply iP;assumption));simp(disch:=(first|omega|assumption)) only[S1,seval,-Int.reduceToNat,-List.reduceReplicate,a_.sb,a_.mut,bZ,↓Bool.false_eq_true,beq_self_eq_true,ite_self,pW,h,hz,row,h0])
   refine hr _ ?_;refine aJ @pW ?_;exact jX (ai @hr1 @pW)
 ·obtain rfl:i=l.length:=om;have hr1:r=0:=hr0.trans (XR hall);refine aJ (ai @h @pW) ?_;refine he _ _ ?_;refine aJ @pW ?_;exact jX (ai @hr1 @pW)
def ck2(k j:Int):Int:=if Be k=0 then Be j else Be k
theorem cchk2(s t:Bool)(a b:List Nat)(k j:Int)(p q:Bool):ah Tryz.prog J0 47 [.l 4 [.b s,.l 1 (W a),.i .i64 k,.b p,.b t,.l 1 (W b),.i .i64 j,.b q]] (.i .i64 (ck2 k j)):=by
 have h:=BL [(s,a,k,p),(t,b,j,q)] (show 2≤1000000000 by decide);have e:Oc [(s,a,k,p),(t,b,j,q)]=ck2 k j:=by
  unfold Oc Oc Oc ck2;split
  ·split
   ·rename_i h;exact h.symm
   ·rfl
  ·rfl
 rw[e]at h;exact h
theorem ck2_0{k j:Nat}(hk:k≤1048576)(hj:j≤1048576):ck2 (k:Int) (j:Int)=0:=by unfold ck2;rw[TI om om,if_pos rfl,TI om om]
theorem Oh{z w:Int}{k j:Nat}:(aU z k=aU w j∧aU (z+1) k=aU (w+1) j)↔(k=j∧z=w):=by
 constructor
 ·rintro⟨h1,h2⟩;rw[Rat.mkRat_eq_iff (fH k) (fH j)]at h1 h2;have h3:((2^j:Nat):Int)=((2^k:Nat):Int):=by
   rw[Int.add_mul,Int.add_mul]at h2;omega
  have h4:k=j:=((Nat.pow_right_inj (by decide:1<2)).1 (Int.ofNat_inj.1 h3)).symm;subst h4;exact⟨rfl,Int.eq_of_mul_eq_mul_right (by have:=fH k;omega) h1⟩
 ·rintro⟨rfl,rfl⟩;exact⟨rfl,rfl⟩
theorem cz_0(x y:Int):(cz x y=0)=(x=y):=by
 unfold cz;by_cases h:x<y
 ·rw[if_pos h];exact propext ⟨fun h=>absurd h dc,fun h=>om⟩
 ·rw[if_neg h];by_cases h2:x=y
  ·rw[if_pos h2];exact propext ⟨fun _=>h2,fun _=>rfl⟩
  ·rw[if_neg h2];exact propext ⟨fun h=>absurd h dc,fun h=>absurd h h2⟩
def eqV(p q:Bool)(La Ha Lb Hb:Rat):Bool:=(p==q)&&(decide (cq La Lb=0)&&decide (cq Ha Hb=0))
theorem JH(s t:Bool)(a b:List Nat)(k j m:Nat)(p q:Bool)(hk:k≤1048576)(hj:j≤1048576)(ha:Wd a)(hb:Wd b)(la:a.length≤m)(lb:b.length≤m)(hm:m≤2000000):
 ah Tryz.prog J0 15 [cL s a (k:Int) p,cL t b (j:Int) q] (.t [.b (eqV p q (aU (zv s a) k) (aU (hiN (zv s a) p) k) (aU (zv t b) j) (aU (hiN (zv t b) q) j)),.i .i64 0]):=by
 have h1:=cchk2 s t a b (k:Int) (j:Int) p q
 rw[ck2_0 hk hj]at h1
 have h2:=BK s t a b k j m p q hk hj ha hb la lb hm
 have h3:=tZ s t a b ha hb om om
 have e3:=cz_0 (zv s a) (zv t b)
 have os:=Oh (z:=zv s a) (w:=zv t b) (k:=k) (j:=j)
 obtain⟨r,hr⟩:∃r,r=eqV p q (aU (zv s a) k) (aU (hiN (zv s a) p) k) (aU (zv t b) j) (aU (hiN (zv t b) q) j):=⟨_,rfl⟩
 rw[←hr]
 unfold eqV at hr
 have bft:(false==true)=false:=rfl
 have btf:(true==false)=false:=rfl
 cases p
 ·cases q
  ·simp only[BEq.rfl,Bool.true_and,Y9,←Bool.decide_and]at hr;have hr2:r=(decide (k=j)&&decide (cz (zv s a) (zv t b)=0)):=by
    rw[hr,←Bool.decide_and];refine decide_eq_decide.2 ?_;rw[e3];exact os
   clear h2 hr os e3;generalize cz (zv s a) (zv t b)=c at*
   by_cases g1:k=j
   ·subst g1;rw[decide_eq_true rfl,Bool.true_and]at hr2;refine d_ aX bV Tryz.func15 ?_;exact jR (ai @hr2 (ai @I7 @pW))
   ·rw[decide_eq_false g1,Bool.false_and]at hr2;have g2:¬(k:Int)=(j:Int):=om;refine d_ aX bV Tryz.func15 ?_;exact jR (ai @hr2 (ai @g2 @pW))
  ·have hr2:r=false:=by rw[hr];rfl
   clear h2 h3 hr;refine d_ aX bV Tryz.func15 ?_;exact jR (ai @hr2 (ai @btf (ai @bft @pW)))
 ·cases q
  ·have hr2:r=false:=by rw[hr];rfl
   clear h2 h3 hr;refine d_ aX bV Tryz.func15 ?_;exact jR (ai @hr2 (ai @btf (ai @bft @pW)))
  ·simp only[BEq.rfl,Bool.true_and]at hr;have e4:OA (cq (aU (hiN (zv s a) true) k) (aU (zv t b) j)) (cq (aU (zv s a) k) (aU (hiN (zv t b) true) j)) (!true||!true)=cq (aU (zv s a) k) (aU (zv t b) j):=by
    show OA (cq (aU (zv s a) k) (aU (zv t b) j)) (cq (aU (zv s a) k) (aU (zv t b) j)) false=_;rcases JG (aU (zv s a) k) (aU (zv t b) j)with h|h|h<;>rw[h]<;>rfl
   have hr2:r=decide (cq (aU (zv s a) k) (aU (zv t b) j)=0):=by
    rw[hr];show(decide (cq (aU (zv s a) k) (aU (zv t b) j)=0)&&decide (cq (aU (zv s a) k) (aU (zv t b) j)=0))=_;rw[Bool.and_self]
   rw[e4]at h2;generalize cq (aU (zv s a) k) (aU (zv t b) j)=c at*
   generalize (decide (0≤cq (aU (hiN (zv s a) true) k) (aU (zv t b) j))&&decide (cq (aU (zv s a) k) (aU (hiN (zv t b) true) j)≤0))=d at*
   refine d_ aX bV Tryz.func15 ?_;exact jR (ai @hr2 @pW)
end
section
open Go Go.RowKit Ab
theorem XT(z:Int){d:Nat}(hd:d≠0):(z.fdiv (d:Int)= -((-z).fdiv (d:Int)))=(z.fdiv (d:Int)*(d:Int)=z):=by
 rw[Int.fdiv_eq_ediv_of_nonneg z (Int.natCast_nonneg d),Int.fdiv_eq_ediv_of_nonneg (-z) (Int.natCast_nonneg d)];have h1:=Int.ediv_mul_le z (show(d:Int)≠0 by omega);have h2:=Int.lt_ediv_add_one_mul_self z (show(0:Int)<(d:Int) by omega);have h3:=Int.ediv_mul_le (-z) (show(d:Int)≠0 by omega);have h4:=Int.lt_ediv_add_one_mul_self (-z) (show(0:Int)<(d:Int) by omega);generalize z/(d:Int)=x at*
 generalize-z/(d:Int)=y at*
 have hp:(0:Int)<(d:Int):=om;refine propext ⟨fun h=>?_,fun h=>?_⟩
 ·have:x*(d:Int)= -(y*(d:Int)):=by rw[h,Int.neg_mul]
  omega
 ·have e:(x+y)*(d:Int)=x*(d:Int)+y*(d:Int):=Int.add_mul _ _ _;have e2:(y+1)*(d:Int)=y*(d:Int)+(d:Int):=by rw[Int.add_mul,Int.one_mul]
  have a1:(x+y)*(d:Int)≤0:=om;have a2: -(d:Int)<(x+y)*(d:Int):=om;have a3:x+y≤0:=by
   rcases(by omega:0<x+y∨x+y≤0)with g|g
   ·have:=Int.mul_pos g hp;omega
   ·exact g
  have a4: -1<x+y:=by
   rcases(by omega: -1<x+y∨x+y≤ -1)with g|g
   ·exact g
   ·have:=Int.mul_le_mul_of_nonneg_right g (Int.le_of_lt hp);omega
  omega
def EG(z:Int)(d k:Nat):Int:=(z*2^k).fdiv (d:Int)
def XU(z:Int)(d k:Nat):Bool:=decide (EG z d k*(d:Int)=z*2^k)
end
section
open Go Go.RowKit Ab
def GV:=an @aH (an @fV (an @Nat.div_one (an @Nat.mul_one (an @aO (an @eY (an @oD (an @dF (an @jm (an @wi (an @lX (an @Bool.false_and @dh)))))))))))
theorem rPlusR{v w:V}{p q:Rat}{m:Nat}(hv:Rr v p m)(hw:Rr w q m)(hm:m≤3000000):ah Tryz.prog J0 59 [v,w] (rN (p+q).num (p+q).den)∧Rr (rN (p+q).num (p+q).den) (p+q) (m+m+1):=by
 obtain⟨s,a,d,rfl,ha,hd,la,ld,h0,rfl⟩:=hv;obtain⟨t,b,e,rfl,hb,he,lb,le,k0,rfl⟩:=hw;have h:=Jm s t a b d e m om ha hb hd he la lb ld le (Nat.mul_ne_zero h0 k0);obtain⟨e1,e2,e3⟩:=XN (m:=m+m+1) (Nat.mul_ne_zero h0 k0) (Rat.mkRat_add_mkRat (zv s a) (zv t b) h0 k0).symm (Nat.lt_of_le_of_lt (Int.natAbs_add_le _ _) (zJ (mul_lt (dD ha la) (fO he le)) (mul_lt (dD hb lb) (fO hd ld)))) (Ja (wM (fO hd ld) (fO he le)) om);rw[Sr _ (Nat.mul_ne_zero h0 k0)]at e1;rw[e1]at h;exact⟨h,e3⟩
theorem XV{v w:V}{p q:Rat}{m:Nat}(hv:Rr v p m)(hw:Rr w q m)(hm:m≤4000000):ah Tryz.prog J0 58 [v,w] (rN (p*q).num (p*q).den)∧Rr (rN (p*q).num (p*q).den) (p*q) (m+m):=by
 obtain⟨s,a,d,rfl,ha,hd,la,ld,h0,rfl⟩:=hv;obtain⟨t,b,e,rfl,hb,he,lb,le,k0,rfl⟩:=hw;have h:=Gt s t a b d e m om ha hb hd he la lb ld le (Nat.mul_ne_zero h0 k0);obtain⟨e1,e2,e3⟩:=XN (m:=m+m) (Nat.mul_ne_zero h0 k0) (Rat.mkRat_mul_mkRat (zv s a) (zv t b) (nv B d) (nv B e)).symm (mul_lt (dD ha la) (dD hb lb)) (wM (fO hd ld) (fO he le));rw[Sr _ (Nat.mul_ne_zero h0 k0)]at e1;rw[e1]at h;exact⟨h,e3⟩
theorem JI(s:Bool)(a:List Nat)(k:Int)(p:Bool)(ha:Wd a)(la:a.length≤1000000000):ah Tryz.prog J0 17 [cL s a k p] (cN (zv s a) k p):=by
 have h:=nV s a ha la;generalize zv s a=z at*
 refine ja aX bV Tryz.func17 [.c 2 true 4] ?_;exact vM @GV
theorem sS(s:Bool)(a:List Nat)(k:Int)(p:Bool)(la:a.length≤1000000000):ah Tryz.prog J0 22 [cL s a k p,cL s a k p] (.b true):=by
 have h1:=yj s s a a la la;rw[show(s==s)=true from by cases s<;>rfl,Bool.true_and,decide_eq_true rfl]at h1;have hp:(p==p)=true:=by cases p<;>rfl
 refine d_ aX bV Tryz.func22 ?_;exact jR (ai @hp (ai @I7 @GV))
theorem t_(s:Bool)(a:List Nat)(k m:Nat)(p:Bool)(hk:k≤1048576)(ha:Wd a)(la:a.length≤m)(hm:20000≤m)(hm1:m≤3000000):
 ah Tryz.prog J0 18 [cL s a (k:Int) p] (rN (aU (zv s a) k).num (aU (zv s a) k).den)∧Rr (rN (aU (zv s a) k).num (aU (zv s a) k).den) (aU (zv s a) k) m:=by
 have t1:=(yc k om).frozen
 have r1:=wK s a (dg B (2^k)) m om ha (az _) la (bC (Bf k om)) (by rw[aS];exact fH k)
 rw[aS]at r1
 obtain⟨e1,e2,e3⟩:=XN (z:=zv s a) (d:=2^k) (m:=m) (p:=aU (zv s a) k) (fH k) rfl (dD ha la) (Bf k om)
 rw[Sr _ (fH k)]at e1
 rw[e1]at r1
 refine⟨?_,e3⟩
 clear e1 e2 e3
 generalize dg B (2^k)=t at*
 generalize aU (zv s a) k=L at*
 generalize (k:Int)=kk at*
 refine ja aX bV Tryz.func18 [.c 2 true 3] ?_
 exact vM @GV
theorem u_(s:Bool)(a:List Nat)(k m:Nat)(p:Bool)(hk:k≤1048576)(ha:Wd a)(la:a.length≤m)(hm:20000≤m)(hm1:m≤2500000):
 ah Tryz.prog J0 19 [cL s a (k:Int) p] (rN (aU (hiN (zv s a) p) k).num (aU (hiN (zv s a) p) k).den)∧Rr (rN (aU (hiN (zv s a) p) k).num (aU (hiN (zv s a) p) k).den) (aU (hiN (zv s a) p) k) (m+1):=by
 cases p with
 |true=>
  obtain⟨h1,g1⟩:=t_ s a k m true hk ha la hm om;refine⟨?_,TF g1 (Nat.le_succ m)⟩;show ah Tryz.prog J0 19 [cL s a (k:Int) true] (rN (aU (zv s a) k).num (aU (zv s a) k).den);clear g1;generalize aU (zv s a) k=L at*
  generalize (k:Int)=kk at*
  refine ja aX bV Tryz.func19 [.c 2 true 3] ?_;exact vM @GV
 |false=>
  show ah Tryz.prog J0 19 [cL s a (k:Int) false] (rN (aU (zv s a+1) k).num (aU (zv s a+1) k).den)∧Rr (rN (aU (zv s a+1) k).num (aU (zv s a+1) k).den) (aU (zv s a+1) k) (m+1);have z1:=yZ 1 dc dc;have a1:=uO s (decide ((1:Int)<0)) a (dg B (1:Int).natAbs) m om ha (az _) la (Nat.le_trans (bC (k:=1) dc) om);rw[dJ]at a1;have b1:(zv s a+1).natAbs<B^(m+1):=zB (p:=false) (dD ha la);generalize zv s a+1=z at*
  have t1:=(yc k om).frozen;have r1:=wK (decide (z<0)) (dg B z.natAbs) (dg B (2^k)) (m+1) om (az _) (az _) (bC b1) (bC (Bf k om)) (by rw[aS];exact fH k);rw[dJ,aS]at r1;obtain⟨e1,e2,e3⟩:=XN (z:=z) (d:=2^k) (m:=m+1) (p:=aU z k) (fH k) rfl b1 (Bf k om);rw[Sr _ (fH k)]at e1;rw[e1]at r1;refine⟨?_,e3⟩;clear e1 e2 e3;generalize dg B (2^k)=t at*
  generalize aU z k=L at*
  generalize (k:Int)=kk at*
  refine ja aX bV Tryz.func19 [.c 2 true 3] ?_;exact vM @GV
end
section
open Go Go.RowKit Ab
def Y_:=an @aH (an @fV (an @Nat.div_one (an @Nat.mul_one (an @aO (an @eY (an @oD (an @dF (an @jm (an @wi (an @lX (an @Bool.false_and @dh)))))))))))
theorem GX(s:Bool)(a d:List Nat)(k m:Nat)(hk:k≤1048576)(ha:Wd a)(hd:Wd d)(la:a.length≤m)(ld:d.length≤m)(h0:nv B d≠0)(hm:20000≤m)(hm1:m≤2000000):
 ah Tryz.prog J0 20 [rL s a d,.i .i64 (k:Int)] (cN (EG (zv s a) (nv B d) k) (k:Int) (XU (zv s a) (nv B d) k)):=by
 have t1:=(yc k om).frozen
 have hbt:2^k<B^m:=Bf k om
 have i1:=U7 false hbt om
 rw[show zI false (2^k)=((2^k:Nat):Int)from rfl]at i1
 have m1:=mX s (decide (((2^k:Nat):Int)<0)) a (dg B (((2^k:Nat):Int)).natAbs) m om ha (az _) la (bC hbt)
 rw[dJ]at m1
 have i2:=nV false d hd om
 rw[zv_f]at i2
 have hb:(zv s a*((2^k:Nat):Int)).natAbs<B^(m+m):=mul_lt (dD ha la) hbt
 unfold XU EG
 rw[show zv s a*2^k=zv s a*((2^k:Nat):Int)from by rw[Int.natCast_pow];rfl]
 generalize zv s a*((2^k:Nat):Int)=z at*
 have hdm:nv B d<B^(m+m):=Ja (fO hd ld) om
 have f1:=XP hb hdm om h0
 have bq:(z.fdiv (nv B d:Int)).natAbs<B^(m+m+1):=EE hb
 generalize z.fdiv (nv B d:Int)=q at*
 have m2:=mX (decide (q<0)) (decide ((nv B d:Int)<0)) (dg B q.natAbs) (dg B ((nv B d:Int)).natAbs) (m+m+1) om (az _) (az _) (bC bq) (bC (Ja hdm (Nat.le_succ _)))
 rw[dJ,dJ]at m2
 have bw:(q*(nv B d:Int)).natAbs<B^(m+m+1+(m+m+1)):=mul_lt bq (Ja hdm (Nat.le_succ _))
 generalize q*(nv B d:Int)=w at*
 have o1:=GM (decide (w<0)) (decide (z<0)) (dg B w.natAbs) (dg B z.natAbs) (m+m+1+(m+m+1)) om (az _) (az _) (bC bw) (bC (Ja hb om))
 rw[dJ,dJ]at o1
 have hP:decide (w=z)=decide (cz w z=0):=decide_eq_decide.2 (by rw[cz_0])
 rw[hP]
 clear hP
 generalize cz w z=c at*
 generalize 2^k=tt at*
 generalize (nv B d:Int)=dd at*
 generalize (tt:Int)=ti at*
 generalize (k:Int)=kk at*
 refine ja aX bV Tryz.func20 [.c 4 true 4] ?_
 exact vM @Y_
theorem wV(s:Bool)(a:List Nat)(k m:Nat)(p:Bool)(hk:k≤1048576)(ha:Wd a)(la:a.length≤m)(hm:20000≤m)(hm1:m≤1100000):
 ah Tryz.prog J0 24 [cL s a (k:Int) p] (rN ((aU (zv s a) k+aU (hiN (zv s a) p) k)/2).num ((aU (zv s a) k+aU (hiN (zv s a) p) k)/2).den)∧Rr (rN ((aU (zv s a) k+aU (hiN (zv s a) p) k)/2).num ((aU (zv s a) k+aU (hiN (zv s a) p) k)/2).den) ((aU (zv s a) k+aU (hiN (zv s a) p) k)/2) 5000000:=by
 obtain⟨h1,g1⟩:=t_ s a k m p hk ha la hm om
 obtain⟨h2,g2⟩:=u_ s a k m p hk ha la hm om
 obtain⟨h3,g3⟩:=rPlusR (TF g1 (Nat.le_succ m)) g2 om
 have p1:=Ee 1 2 dc dc dc dc
 have g4:Rr (rN (mkRat 1 2).num (mkRat 1 2).den) (mkRat 1 2) (m+1+(m+1)+1):=Rr_c (Nat.lt_of_lt_of_le (by decide:(mkRat 1 2).num.natAbs<B^1) (Nat.pow_le_pow_right B0 om)) (Nat.lt_of_lt_of_le (by decide:(mkRat 1 2).den<B^1) (Nat.pow_le_pow_right B0 om))
 rw[show rz 1 2=(mkRat 1 2).num from by decide+kernel,show dC 1 2=(mkRat 1 2).den from by decide+kernel]at p1
 obtain⟨h4,g5⟩:=XV g4 g3 om
 have e:mkRat 1 2*(aU (zv s a) k+aU (hiN (zv s a) p) k)=(aU (zv s a) k+aU (hiN (zv s a) p) k)/2:=by
  have:(mkRat 1 2:Rat)*2=1:=by decide+kernel
  grind
 rw[e]at h4 g5
 refine⟨?_,TF g5 om⟩
 replace p1:ah Tryz.prog J0 6 [.i .i64 1,.i .i64 2] (.g [.b false,.l 1 (W (dg B 1)),.l 1 (W (dg B 2))]):=p1
 replace h4:ah Tryz.prog J0 58 [.g [.b false,.l 1 (W (dg B 1)),.l 1 (W (dg B 2))],rN (aU (zv s a) k+aU (hiN (zv s a) p) k).num (aU (zv s a) k+aU (hiN (zv s a) p) k).den] _:=h4
 clear g1 g2 g3 g4 g5 e
 generalize (aU (zv s a) k+aU (hiN (zv s a) p) k)/2=M at*
 generalize aU (zv s a) k+aU (hiN (zv s a) p) k=S at*
 generalize aU (zv s a) k=L at*
 generalize aU (hiN (zv s a) p) k=H at*
 generalize dg B 1=o1 at*
 generalize dg B 2=o2 at*
 generalize (k:Int)=kk at*
 refine ja aX bV Tryz.func24 [.c 2 true 3] ?_
 have U6:=h3
 have zc2:=h4
 exact vM @Y_
end
section
open Go Go.RowKit Go.Proofs Ab
theorem Bh{p q:Nat→Bool}:∀(l:List Nat) (x:Nat),(∀y,q y=true→p y=true)→x∈l→p x=true→q x=false→(l.filter q).length<(l.filter p).length
 |[],x,_,hx,_,_=>by simp at hx
 |y::l,x,h,hx,hp,hq=>by
  have hle:∀l:List Nat,(l.filter q).length≤(l.filter p).length:=fun l=>by
   induction l with
   |nil=>exact Nat.le_refl _
   |cons z l ih=>
    simp only[List.filter_cons];by_cases h1:q z=true
    ·rw[if_pos h1,if_pos (h z h1)];simp only[List.length_cons];omega
    ·rw[if_neg h1];split
     ·simp only[List.length_cons];omega
     ·exact ih
  simp only[List.filter_cons];rcases List.mem_cons.1 hx with rfl|hx
  ·rw[if_pos hp,hq];have:=hle l;simp only[Bool.false_eq_true,if_false,List.length_cons];omega
  ·have ih:=Bh l x h hx hp hq;by_cases h1:q y=true
   ·rw[if_pos h1,if_pos (h y h1)];simp only[List.length_cons];omega
   ·rw[if_neg h1];split
    ·simp only[List.length_cons];omega
    ·exact ih
theorem EH{listed:Array Bool}{i j:Nat}(d:Bool):(listed.setIfInBounds i true).getD j d=if i=j∧i<listed.size then true else listed.getD j d:=by
 by_cases hij:i=j
 ·subst hij;by_cases hs:i<listed.size
  ·simp[hs]
  ·simp[hs]
 ·rw[if_neg (fun h=>hij h.1)];simp only[Array.getD_eq_getD_getElem?,Array.getElem?_setIfInBounds_ne hij]
def TM(md:Region.Mode)(ops:Array Oper):Bool:=(List.range ops.size).all fun j=>((ops[j]?).map fun o=>o.after.all fun e=>!Region.binds md e||decide (e.on<j)).getD true
theorem JJ{md:Region.Mode}{ops:Array Oper}(h:TM md ops=true){j:Nat}{o:Oper}(ho:ops[j]? =some o):∀e,e∈o.after→Region.binds md e=true→e.on<j:=fun e he hb=>by
 have hj:j<ops.size:=(Array.getElem?_eq_some_iff.1 ho).1;have h1:=List.all_eq_true.1 h j (List.mem_range.2 hj);rw[ho]at h1;simp only[Option.map_some,Option.getD_some]at h1;have h2:=Array.all_eq_true_iff_forall_mem.1 h1 e he;rw[hb]at h2;simpa using h2
theorem JK{P:Program}{ops:Array Oper}{Q:Exit→Act→World→Prop}{md:Region.Mode}(I:Array Bool→Act→World→Prop)(hB:TM md ops=true)
 (hstep:∀listed a w i o,I listed a w→ops[i]? =some o→listed.getD i true=false→(∀e,e∈o.after→Region.binds md e=true→listed.getD e.on false=true)→wpOp P ops Q i (I (listed.setIfInBounds i true)) a w)
 (hfin:∀listed a w,I listed a w→(∀j,j<ops.size→listed.getD j true=true)→Q .normal a w):
 ∀(f:Nat) (listed:Array Bool) (a:Act) (w:World),listed.size=ops.size→((List.range ops.size).filter fun i=>!listed.getD i true).length≤f→I listed a w→wpAny P md ops Q f listed a w:=by
 have all:∀listed:Array Bool,listed.size=ops.size→Region.ready md ops listed=[]→∀j,j<ops.size→listed.getD j true=true:=fun listed hs hr j=>by
  induction j using Nat.strongRecOn with
  |_ j ih=>
   intro hj;cases hl:listed.getD j true with
   |true=>rfl
   |false=>
    have hm:j∈Region.ready md ops listed:=by
     have hg:ops[j]? =some ops[j]:=Array.getElem?_eq_getElem hj;refine mem_ready.2 ⟨hl,ops[j],hg,fun e he hbn=>?_⟩;have h1:=JJ hB hg e he hbn;have h2:=ih e.on h1 om;simp only[Array.getD_eq_getD_getElem?,Array.getElem?_eq_getElem (show e.on<listed.size by omega),Option.getD_some]at h2 ⊢;exact h2
    rw[hr]at hm;cases hm
 intro f
 induction f with
 |zero=>
  intro listed a w hs hc hI;have h0:∀j,j<ops.size→listed.getD j true=true:=fun j hj=>by
   cases hl:listed.getD j true with
   |true=>rfl
   |false=>
    have hm:j∈(List.range ops.size).filter fun i=>!listed.getD i true:=List.mem_filter.2 ⟨List.mem_range.2 hj,by rw[hl];rfl⟩
    rw[List.eq_nil_of_length_eq_zero (Nat.le_zero.1 hc)]at hm;cases hm
  refine⟨?_,hfin _ _ _ hI h0⟩;refine List.eq_nil_iff_forall_not_mem.2 fun j hj=>?_
  obtain⟨h1,o,h2,_⟩:=mem_ready.1 hj;rw[h0 j (Array.getElem?_eq_some_iff.1 h2).1]at h1;cases h1
 |succ f ih=>
  intro listed a w hs hc hI;refine⟨fun hr=>hfin _ _ _ hI (all listed hs hr),fun i hi=>?_⟩;obtain⟨h1,o,h2,h3⟩:=mem_ready.1 hi;have hin:i<ops.size:=(Array.getElem?_eq_some_iff.1 h2).1;refine wpOp_mono (fun a' w' hI'=>ih _ a' w' (by simp[hs]) ?_ hI') (hstep listed a w i o hI h2 h1 h3);have:=Bh (p:=fun i=>!listed.getD i true) (q:=fun j=>!(listed.setIfInBounds i true).getD j true) (List.range ops.size) i (fun y hy=>?_) (List.mem_range.2 hin) (by show(!listed.getD i true)=true;rw[h1];rfl) (by show(!(listed.setIfInBounds i true).getD i true)=false;rw[EH,if_pos ⟨rfl,om⟩];rfl)
  ·omega
  ·have hy':(!(listed.setIfInBounds i true).getD y true)=true:=hy;rw[EH]at hy';split at hy'
   ·cases hy'
   ·exact hy'
theorem XW{P:Program}{ops:Array Oper}{Q:Exit→Act→World→Prop}{i:Nat}{o:Oper}{K:Act→World→Prop}{a:Act}{w:World}(ho:ops[i]? =some o)(hg:Region.wanted o (yielded ops a.tmps)=true)(h:o.wp P a w K Q):wpOp P ops Q i K a w:=by
 unfold wpOp;simp only[ho];rw[if_pos hg];exact .inl h
inductive Sp where
 |v (d:Δ) (nb:Option (TypeId×List Δ))
 |st (j:Nat) (b:TypeId×List Δ)
def Sp.d:Sp→Δ
 | .v d _=>d
 | .st _ _=> .k undef
structure OkS(P:Program)(w0:World)(N:Nat)(o:Oper)(R:Nat→Option Δ)(j:Nat)(b:TypeId×List Δ):Prop where
 ok:∀(Q:Exit→Act→World→Prop) (γ:Gh) (a:Act) (w:World) (F:Nat→Prop) (K:Act→World→Prop),a.tmps.size=N→Wi w0 γ w F→(∀t d,R t=some d→s2 w0 γ w d (a.tmps.getD t undef))→(∃b0,bx w0 γ w j b0∧b0.1=b.1∧b0.2.length=b.2.length)→
  (∀w',St γ w γ w'→(∀q,γ.β j≠some q→w'.heap[q]? =w.heap[q]?)→Wi w0 γ w' F→bx w0 γ w' j b→K a w')→o.wp P a w K Q
variable {w0 w w':World} {γ:Gh} {N c:Nat} {E:En} {Bx:Bs} {a:Act} {P:Program}
theorem ok_st{dst:Option Tmp}{ty t:TypeId}{x y:Operand}{p:String}{e:Array Edge}{gd:Option (Nat×Bool)}{R:Nat→Option Δ}{j:Nat}{bt:TypeId}{es:List Δ}(hx:bI R x (.p j 0))(hy:bI R y (.g es))(hi:(P.info? ty).map (·.size)=some es.length)(h1:es.all Δ.c1=true)(hd:dst=none):OkS P w0 N ⟨dst,.store ty x y,t,p,e,gd⟩ R j (bt,es):=⟨fun Q γ a w F K hz hW hR hb hK=>by
 obtain⟨q,hq,ex⟩:=hx.ev hR;obtain⟨b0,⟨q',xs,hq',hg,hds⟩,e1,e2⟩:=hb;obtain rfl:q=q':=Option.some.inj (hq.symm.trans hq');obtain⟨ys,ey,hys⟩:=hy.ev hR;have hlx:xs.length=b0.2.length:=hds.len;have Hg:ys.length=es.length:=hys.len;have e2':b0.2.length=es.length:=e2;have e1':b0.1=bt:=e1;rw[e1']at hg;refine wp_store_row ty x y rfl q ys.toArray ex ey bt xs.toArray hg (by rw[hi];simp[Hg]) (by simp;omega) (by
  have:=hys.one h1;simpa using this) ?_
 subst hd;have hnq:=hW.bn j q hq;have hst:aI w (fun k=>k=q) (w.setRow q ys.toArray):=⟨rfl,rfl,rfl,sy,fun k _ hne=>setRow_other w q k _ hne⟩;have hs:St γ w γ (w.setRow q ys.toArray):=⟨hst.size,fun k hk hn=>hst.block k hk fun e=>hn j (e▸hq),fun _ _ h=>h,fun _ _ h=>h,fun _ _ h=> .inl h⟩;exact hK _ hs (fun k hk=>setRow_other w q k _ fun e=>hk (e▸hq)) (hW.Ep (w':=w.setRow q ys.toArray) ⟨rfl,rfl,rfl,hst.size,fun k hk=>hst.block k (Nat.lt_of_lt_of_le hk hW.bel.size) om⟩) ⟨q,ys,hq,setRow_heap w q xs.toArray _ _ _ hg,l0.up hW hs hys⟩⟩
def XX(Ss:List Sp)(Bx:Bs):Bs:=Bx.filter fun p=>Ss.all fun s=>match s with| .st j _=>!Nat.beq j p.1|_=>true
def bxAt(c:Nat)(Bx:Bs)(Ss:List Sp)(o:Oper)(j:Nat)(b:TypeId×List Δ):Prop:=∃ds:List Δ,(lk Bx j=some (b.1,ds)∨∃k d,j=c+k∧Ss[k]? =some (.v d (some (b.1,ds)))∧(o.after.any fun e=>Region.binds .any e&&e.on==k)=true)∧ds.length=b.2.length
def JL(P:Program)(w0:World)(N c:Nat)(E:En)(Bx:Bs)(S0:List Sp):Nat→List Oper→List Rl→List Sp→Prop
 |j,o::os,r::rs,s::ss=>(match s with
  | .v d b=>Ok P w0 N o (c+j) (dep E (S0.map Sp.d) r) (XX S0 Bx) d b
  | .st k b=>OkS P w0 N o (dep E (S0.map Sp.d) r) k b∧bxAt c Bx S0 o k b)∧JL P w0 N c E Bx S0 (j+1) os rs ss
 |_,[],[],[]=>True
 |_,_,_,_=>False
def spB(l:List Oper)(n N:Nat):Bool:=decide (l.length=n)&&TM .any l.toArray&&((List.range n).all fun i=>match l[i]? with
 |some o=>(match o.dst with
  |some k=>decide (k<N)&&(List.range n).all fun j=>decide (i=j)||(match l[j]? with|some p=>p.dst != some k|none=>false)
  |none=>true)
 |none=>false)
def ssB(l:List Oper)(Ss:List Sp):Bool:=(List.range Ss.length).all fun i=>match l[i]?,Ss[i]? with
 |some o,some (.v _ _)=>o.dst.isSome
 |some o,some (.st j _)=>o.dst.isNone&&(List.range Ss.length).all fun k=>decide (i=k)||(match Ss[k]? with|some (.st m _)=>!Nat.beq j m|_=>true)
 |_,_=>false
def gB(l:List Oper)(Ss:List Sp):Bool:=(List.range Ss.length).all fun i=>match l[i]? with
 |some o=>(match o.guard with
  |none=>true
  |some (j,want)=>match l[j]?,Ss[j]? with
   |some p,some (.v (.k (.bool b)) _)=>p.dst.isSome&&(b==want)&&(o.after.any fun e=>Region.binds .any e&&e.on==j)
   |_,_=>false)
 |none=>true
def sL:List Oper→List Sp→En
 |o::os,.v d _::ss=>match o.dst with|some k=>(k,d)::sL os ss|none=>sL os ss
 |_::os,.st _ _::ss=>sL os ss
 |_,_=>[]
def Sp.n:Sp→Option (TypeId×List Δ)
 | .v _ nb=>nb
 | .st _ _=>none
def stL:List Sp→Bs
 |[]=>[]
 | .st j b::ss=>(j,b)::stL ss
 | .v _ _::ss=>stL ss
def rM(l:List Oper)(n:Nat)(rs:List Rl):Bool:=(List.range n).all fun j=>(rs.getD j []).all fun p=>match p.2 with
 |some k=>decide (k<n)&&(match l[k]? with|some o=>o.dst==some p.1|none=>false)&&(match l[j]? with|some o=>o.after.any fun e=>Region.binds .any e&&e.on==k|none=>false)
 |none=>(List.range n).all fun m=>match l[m]? with|some o=>o.dst != some p.1|none=>true
theorem JM{α:Type}:∀{r:List (Nat×α)} {t:Nat} {x:α},lk r t=some x→(t,x)∈r
 |[],_,_,h=>by cases h
 |p::r,t,x,h=>by
  rcases aG h with ⟨rfl,rfl⟩|⟨_,h⟩
  ·exact List.mem_cons_self
  ·exact List.mem_cons_of_mem _ (JM h)
theorem EI{Ss:List Sp}:∀{Bx:Bs} {j:Nat} {b:TypeId×List Δ},lk (XX Ss Bx) j=some b→lk Bx j=some b∧∀(k:Nat) (b':TypeId×List Δ),Ss[k]? ≠some (.st j b')
 |[],_,_,h=>by cases h
 |(i,x)::r,j,b,h=>by
  unfold XX at h;rw[List.filter_cons]at h;split at h
  ·rename_i hc;have hno:∀(k:Nat) (b':TypeId×List Δ),Ss[k]? ≠some (Sp.st i b'):=fun k b' hk=>by
    have:=List.all_eq_true.1 hc _ (List.mem_of_getElem? hk);simp at this
   rcases aG h with ⟨rfl,rfl⟩|⟨hne,h⟩
   ·exact⟨by unfold lk;rw[Nat.beq_refl];rfl,hno⟩
   ·obtain⟨h1,h2⟩:=EI h;exact⟨by unfold lk;rw[Ba hne];exact h1,h2⟩
  ·rename_i hc;obtain⟨h1,h2⟩:=EI (Bx:=r) h;refine⟨?_,h2⟩;by_cases e:i=j
   ·subst e;exfalso;refine hc (List.all_eq_true.2 fun s hs=>?_);cases s with
    |v _ _=>rfl
    |st m b'=>
     obtain⟨k,hk⟩:=List.getElem?_of_mem hs;simp only[Bool.not_eq_true'];by_cases e:m=i
     ·subst e;exact absurd hk (h2 k b')
     ·exact Ba e
   ·unfold lk;rw[Ba e];exact h1
theorem JL.get{S0:List Sp}:∀{m:Nat} {l:List Oper} {rs:List Rl} {ss:List Sp} {j:Nat} {o:Oper},JL P w0 N c E Bx S0 m l rs ss→l[j]? =some o→∃s,ss[j]? =some s∧(match s with
 | .v d b=>Ok P w0 N o (c+(m+j)) (dep E (S0.map Sp.d) (rs.getD j [])) (XX S0 Bx) d b
 | .st k b=>OkS P w0 N o (dep E (S0.map Sp.d) (rs.getD j [])) k b∧bxAt c Bx S0 o k b)
 |m,o1::os,r::rs,s::ss,0,o,h,ho=>by
  simp at ho;subst ho;exact⟨s,rfl,h.1⟩
 |m,o1::os,r::rs,s::ss,j+1,o,h,ho=>by
  obtain⟨s',h1,h3⟩:=JL.get (j:=j) h.2 (by simpa using ho);refine⟨s',by simpa using h1,?_⟩;rw[show c+(m+(j+1))=c+(m+1+j)from om];exact h3
 |_,[],_,_,_,_,_,ho=>by simp at ho
 |_,_::_,[],_,_,_,h,_=>by simp[JL]at h
 |_,_::_,_::_,[],_,_,h,_=>by simp[JL]at h
def cbx(c:Nat)(Bx:Bs)(Ss:List Sp)(listed:Array Bool)(i:Nat)(b:TypeId×List Δ):Prop:=
 (∃k:Nat,Ss[k]? =some (Sp.st i b)∧listed.getD k true=true)∨((∀(k:Nat) (b':TypeId×List Δ),Ss[k]? =some (Sp.st i b')→listed.getD k true=false)∧((∃k d,i=c+k∧Ss[k]? =some (.v d (some b))∧listed.getD k true=true)∨lk Bx i=some b))
theorem JO:∀{l:List Oper} {ss:List Sp} {t:Nat} {d:Δ},lk (sL l ss) t=some d→∃(j:Nat) (o:Oper) (nb:Option (TypeId×List Δ)),l[j]? =some o∧o.dst=some t∧ss[j]? =some (.v d nb)
 |[],_,_,_,h=>by simp[sL,lk]at h
 |o::os,[],_,_,h=>by simp[sL,lk]at h
 |o::os,.st _ _::ss,t,d,h=>by
  obtain⟨j,o',nb,h1,h2,h3⟩:=JO (l:=os) (ss:=ss) (by simpa[sL]using h);exact⟨j+1,o',nb,by simpa using h1,h2,by simpa using h3⟩
 |o::os,.v d1 nb1::ss,t,d,h=>by
  have rec':lk (sL os ss) t=some d→∃(j:Nat) (o':Oper) (nb:Option (TypeId×List Δ)),(o::os)[j]? =some o'∧o'.dst=some t∧(Sp.v d1 nb1::ss)[j]? =some (.v d nb):=fun h=>by
   obtain⟨j,o',nb,h1,h2,h3⟩:=JO (l:=os) (ss:=ss) h;exact⟨j+1,o',nb,by simpa using h1,h2,by simpa using h3⟩
  unfold sL at h;split at h
  ·rename_i k hk;rcases aG h with ⟨rfl,rfl⟩|⟨_,h⟩
   ·exact⟨0,o,nb1,rfl,hk,rfl⟩
   ·exact rec' h
  ·exact rec' h
theorem TN:∀{l:List Oper} {ss:List Sp} {j t:Nat} {o:Oper} {d:Δ} {nb:Option (TypeId×List Δ)},l[j]? =some o→o.dst=some t→ss[j]? =some (.v d nb)→(t,d)∈sL l ss
 |o::os,s::ss,0,t,o',d,nb,h1,h2,h3=>by
  simp at h1 h3;subst h1 h3;simp[sL,h2]
 |o::os,s::ss,j+1,t,o',d,nb,h1,h2,h3=>by
  have ih:=TN (l:=os) (ss:=ss) (j:=j) (by simpa using h1) h2 (by simpa using h3);cases s with
  |st _ _=>simpa[sL]using ih
  |v d1 nb1=>
   unfold sL;split
   ·exact List.mem_cons_of_mem _ ih
   ·exact ih
 |[],_,_,_,_,_,_,h,_,_=>by simp at h
 |_::_,[],_,_,_,_,_,_,_,h=>by simp at h
theorem EJ:∀{ss:List Sp} {i:Nat} {b:TypeId×List Δ},lk (stL ss) i=some b→∃k:Nat,ss[k]? =some (Sp.st i b)
 |[],_,_,h=>by cases h
 | .v _ _::ss,i,b,h=>by
   obtain⟨k,hk⟩:=EJ (ss:=ss) h;exact⟨k+1,by simpa using hk⟩
 | .st j b1::ss,i,b,h=>by
   rcases aG h with ⟨rfl,rfl⟩|⟨_,h⟩
   ·exact⟨0,rfl⟩
   ·obtain⟨k,hk⟩:=EJ (ss:=ss) h;exact⟨k+1,by simpa using hk⟩
theorem Le:∀{ss:List Sp} {k i:Nat} {b:TypeId×List Δ},ss[k]? =some (.st i b)→(i,b)∈stL ss
 |s::ss,0,i,b,h=>by simp at h;subst h;simp[stL]
 |s::ss,k+1,i,b,h=>by
  have ih:=Le (ss:=ss) (k:=k) (by simpa using h);cases s with
  |v _ _=>simpa[stL]using ih
  |st _ _=>exact List.mem_cons_of_mem _ ih
 |[],_,_,_,h=>by simp at h
end
section
open Go Go.RowKit Go.Proofs Ab
variable {w0 w w':World} {γ:Gh} {N c:Nat} {E:En} {Bx:Bs} {a:Act} {P:Program}
structure OI(w0:World)(N c n:Nat)(E:En)(Bx:Bs)(l:List Oper)(Ss:List Sp)(listed:Array Bool)(a:Act)(w:World)(γ:Gh):Prop where
 W:Wi w0 γ w (fun i=>c≤i∧(i<c+n→listed.getD (i-c) true=false))
 sz:a.tmps.size=N
 df:a.defers=[]
 ls:listed.size=n
 old:∀t d,lk E t=some d→(∀(k:Nat) (o:Oper),l[k]? =some o→o.dst≠some t)→s2 w0 γ w d (a.tmps.getD t undef)
 val:∀(k:Nat) (o:Oper) (t:Nat) (d:Δ) (nb:Option (TypeId×List Δ)),l[k]? =some o→o.dst=some t→Ss[k]? =some (.v d nb)→listed.getD k true=true→s2 w0 γ w d (a.tmps.getD t undef)
 box:∀i b,cbx c Bx Ss listed i b→bx w0 γ w i b
theorem yJ{id:Nat}{l:List Oper}{Q:Exit→Act→World→Prop}(n:Nat)(Ss:List Sp)(rs:List Rl)(hSn:Ss.length=n)(S:PS w0 N c E Bx γ a w)(hm:P.follows .mixedOrders=true)(hB:spB l n N=true)(hr:rM l n rs=true)
 (ops:JL P w0 N c E Bx Ss 0 l rs Ss) (hs:ssB l Ss=true) (hgB:gB l Ss=true)
 (fin:∀γ' a' w',PS w0 N (c+n) (sL l Ss++E) (stL Ss++(bL c 0 (Ss.map Sp.n)++Bx)) γ' a' w'→Q .normal a' w'):(Code.region id l.toArray true).wp P Q a w:=by
 subst hSn
 simp only[spB,Bool.and_eq_true,decide_eq_true_eq]at hB
 obtain⟨⟨hll,hbk⟩,hop⟩:=hB
 have op:∀(i:Nat) (o:Oper),l[i]? =some o→i<Ss.length∧∀k,o.dst=some k→k<N∧∀(j:Nat) (p:Oper),i≠j→l[j]? =some p→p.dst≠some k:=fun i o ho=>by
  have hi:i<Ss.length:=by have:=(List.getElem?_eq_some_iff.1 ho).1;omega
  have h1:=List.all_eq_true.1 hop i (List.mem_range.2 hi);rw[ho]at h1;refine⟨hi,fun k hk=>?_⟩;have h2:=h1;simp only[hk,Bool.and_eq_true,decide_eq_true_eq]at h2;refine⟨h2.1,fun j p hij hp=>?_⟩;have hj:j<Ss.length:=by have:=(List.getElem?_eq_some_iff.1 hp).1;omega
  have h3:=List.all_eq_true.1 h2.2 j (List.mem_range.2 hj);rw[hp]at h3;simp only[Bool.or_eq_true,decide_eq_true_eq,bne_iff_ne,ne_eq]at h3;exact h3.resolve_left hij
 have ss:∀(i:Nat) (o:Oper) (s:Sp),l[i]? =some o→Ss[i]? =some s→match s with|Sp.v _ _=>o.dst.isSome=true|Sp.st j _=>o.dst=none∧∀(k:Nat) (b':TypeId×List Δ),k≠i→Ss[k]? ≠some (Sp.st j b'):=fun i o s ho hsp=>by
  have hi:=(List.getElem?_eq_some_iff.1 hsp).1;have h1:=List.all_eq_true.1 hs i (List.mem_range.2 hi);rw[ho,hsp]at h1;cases s with
  |v _ _=>exact h1
  |st j b=>
   simp only[Bool.and_eq_true,Option.isNone_iff_eq_none]at h1;refine⟨h1.1,fun k b' hk hks=>?_⟩;have h2:=List.all_eq_true.1 h1.2 k (List.mem_range.2 (List.getElem?_eq_some_iff.1 hks).1);rw[hks]at h2;simp only[Bool.or_eq_true,decide_eq_true_eq,Nat.beq_refl,Bool.not_true,Bool.false_eq_true,or_false]at h2;exact hk h2.symm
 refine wp_region_any hm ?_
 have hb0:Below w.heap.size w {w with drawn:=w.drawn+1}:=⟨rfl,rfl,rfl,Nat.le_refl _,fun _ _=>rfl⟩
 have e0:∀j,j<Ss.length→(Array.replicate l.toArray.size false).getD j true=false:=fun j hj=>by simp[show j<l.length from om]
 refine JK (fun listed a w=>∃γ,OI w0 N c Ss.length E Bx l Ss listed a w γ) hbk ?_ ?_ _ _ a {w with drawn:=w.drawn+1} sy (by rw[show l.toArray.size=Ss.length from by simp;omega];exact Nat.le_trans (List.length_filter_le _ _) sy) ⟨γ,⟨(S.W.Ep (below_le S.W hb0)).sub fun i hi=>hi.1,S.sz,S.df,by simp;omega,fun t d h _=>s2.up S.W (.of hb0) (S.env t d h),fun k o t d nb h1 _ h3 h4=>?_,fun i b h=>?_⟩⟩
 ·rintro listed a w1 i o ⟨γ1,I⟩ ho Y0 Df;rw[List.getElem?_toArray]at ho;obtain⟨hi,hdst⟩:=op i o ho;obtain⟨s,hsp,hok⟩:=ops.get ho;rw[Nat.zero_add]at hok;have hil:i<listed.size:=by rw[I.ls];exact hi
  have hset:∀j,(listed.setIfInBounds i true).getD j true=if i=j then true else listed.getD j true:=fun j=>by
   rw[EH];by_cases e:i=j
   ·rw[if_pos ⟨e,hil⟩,if_pos e]
   ·rw[if_neg (fun h=>e h.1),if_neg e]
  have hdp:∀e,e∈o.after→Region.binds .any e=true→listed.getD e.on true=true:=fun e he hb=>Ei (Df e he hb)
  have hR:∀t d,dep E (Ss.map Sp.d) (rs.getD i []) t=some d→s2 w0 γ1 w1 d (a.tmps.getD t undef):=fun t d ht=>by
   have h1:=List.all_eq_true.1 hr i (List.mem_range.2 hi);unfold dep at ht;split at ht
   ·rename_i k hk;have h2:=List.all_eq_true.1 h1 _ (JM hk);simp only[Bool.and_eq_true,decide_eq_true_eq,ho,Array.any_eq_true']at h2;obtain⟨⟨h3,h4⟩,e,he,h5,h6⟩:=h2;split at h4
    ·rename_i o2 ho2;have h4':o2.dst=some t:=by simpa using h4
     have h7:=hdp e he h5;rw[show e.on=k from by simpa using h6]at h7;rw[List.getElem?_map]at ht;obtain⟨s2',hs2,hd2⟩:=Option.map_eq_some_iff.1 ht;have h8:=ss k o2 s2' ho2 hs2;cases s2' with
     |v d' nb=>exact I.val k o2 t d nb ho2 h4' (hd2▸hs2) h7
     |st j b=>rw[h8.1]at h4';cases h4'
    ·cases h4
   ·rename_i hk;have h2:=List.all_eq_true.1 h1 _ (JM hk);refine I.old t d ht fun k o2 ho2=>?_
    have hk2:k<Ss.length:=by have:=(List.getElem?_eq_some_iff.1 ho2).1;omega
    have h3:=List.all_eq_true.1 h2 k (List.mem_range.2 hk2);rw[ho2]at h3;simpa using h3
   ·cases ht
  have hwt:Region.wanted o (yielded l.toArray a.tmps)=true:=by
   have h1:=List.all_eq_true.1 hgB i (List.mem_range.2 hi);rw[ho]at h1;cases hg:o.guard with
   |none=>unfold Region.wanted;rw[hg]
   |some jw=>
    obtain⟨j,want⟩:=jw;simp only[hg]at h1;split at h1
    ·rename_i p b nb hp hsj;simp only[Bool.and_eq_true,Array.any_eq_true']at h1;obtain⟨⟨h2,h3⟩,e,he,h5,h6⟩:=h1;obtain⟨u,hu⟩:=Option.isSome_iff_exists.1 h2;have h7:=hdp e he h5;rw[show e.on=j from by simpa using h6]at h7;have h8:=I.val j p u _ nb hp hu hsj h7;have h9:a.tmps.getD u undef= .bool b:=h8;exact(pU hg (by rw[List.getElem?_toArray,hp];exact hu) I.sz h9 ((op j p hp).2 u hu).1).trans h3
    ·cases h1
  refine XW (by rw[List.getElem?_toArray];exact ho) hwt ?_;cases s with
  |v d nb=>
   have hds:=ss i o _ ho hsp;obtain⟨t,ht⟩:=Option.isSome_iff_exists.1 hds;obtain⟨htN,htd⟩:=hdst t ht;refine hok.ok Q γ1 a w1 _ _ I.sz I.W ⟨om,fun _=>by rw[show c+i-c=i from om];exact Y0⟩ hR (fun j b hj=>?_) fun γ' v w' hst hbw hW' hv hn=>⟨γ',hW'.sub fun j hj=>⟨⟨hj.1,fun h=>?_⟩,fun e=>?_⟩,?_,?_,by simpa using I.ls,fun u d1 hu hn1=>?_,fun k o2 u d1 nb1 h1 h2 h3 h4=>?_,fun j b1 hj=>?_⟩
   ·obtain⟨h1,h2⟩:=EI hj;exact I.box j b (.inr ⟨fun k b' hk=>absurd hk (h2 k b'),.inr h1⟩)
   ·have h2:=hj.2 h;rw[hset]at h2;split at h2
    ·cases h2
    ·exact h2
   ·have h2:=hj.2 om;rw[hset,if_pos om]at h2;cases h2
   ·rw[ht];show(a.tmps.setIfInBounds t v).size=N;simp[I.sz]
   ·rw[ht];exact I.df
   ·rw[ht,gG (fun e=>hn1 i o ho (by rw[ht,e]))];exact s2.up I.W hst (I.old u d1 hu hn1)
   ·by_cases e:k=i
    ·subst e;rw[ho]at h1;cases h1;rw[hsp]at h3;cases h3;rw[ht]at h2;cases h2;rw[ht,put_eq (by rw[I.sz];exact htN)];exact hv
    ·rw[hset,if_neg (Ne.symm e)]at h4;rw[ht,gG (fun e2=>htd k o2 (Ne.symm e) h1 (by rw[h2,e2]))];exact s2.up I.W hst (I.val k o2 u d1 nb1 h1 h2 h3 h4)
   ·have same:∀b2,cbx c Bx Ss listed j b2→bx w0 γ' w' j b2:=fun b2 h=>(I.box j b2 h).up I.W hst fun q hq=>hbw.block q (I.W.bn j q hq).2
    rcases hj with ⟨k,hk,hkl⟩|⟨hno,hj⟩
    ·have e:k≠i:=fun e=>by subst e;rw[hsp]at hk;cases hk
     rw[hset,if_neg (Ne.symm e)]at hkl;exact same b1 (.inl ⟨k,hk,hkl⟩)
    ·have hno':∀(k:Nat) (b':TypeId×List Δ),Ss[k]? =some (Sp.st j b')→listed.getD k true=false:=fun k b' hk=>by
      have:=hno k b' hk;rw[hset]at this;split at this
      ·cases this
      ·exact this
     rcases hj with ⟨k,d2,hjk,hk,hkl⟩|hj
     ·by_cases e:k=i
      ·subst e;rw[hsp]at hk;cases hk;rw[hjk];exact hn _ rfl
      ·rw[hset,if_neg (Ne.symm e)]at hkl;exact same b1 (.inr ⟨hno',.inl ⟨k,d2,hjk,hk,hkl⟩⟩)
     ·exact same b1 (.inr ⟨hno',.inr hj⟩)
  |st j b=>
   obtain⟨hok,ds,hat,hlen⟩:=hok;obtain⟨hdn,huni⟩:=ss i o _ ho hsp;have hold:∃b0,bx w0 γ1 w1 j b0∧b0.1=b.1∧b0.2.length=b.2.length:=by
    have hno:∀(k:Nat) (b':TypeId×List Δ),Ss[k]? =some (Sp.st j b')→listed.getD k true=false:=fun k b' hk=>by
     by_cases e:k=i
     ·rw[e];exact Y0
     ·exact absurd hk (huni k b' e)
    rcases hat with h1|⟨k,d,hjk,hk,iK⟩
    ·exact⟨(b.1,ds),I.box j _ (.inr ⟨hno,.inr h1⟩),rfl,hlen⟩
    ·obtain⟨e,he,h5⟩:=Array.any_eq_true'.1 iK;simp only[Bool.and_eq_true,beq_iff_eq]at h5;have:=hdp e he h5.1;rw[h5.2]at this;exact⟨(b.1,ds),I.box j _ (.inr ⟨hno,.inl ⟨k,d,hjk,hk,this⟩⟩),rfl,hlen⟩
   have hput:∀v,a.put o.dst v=a:=fun v=>by rw[hdn];rfl
   refine hok.ok Q γ1 a w1 _ _ I.sz I.W hR hold fun w' hst hbl hW' hbx=>⟨γ1,hW'.sub fun k hk=>⟨hk.1,fun h=>?_⟩,I.sz,I.df,by simpa using I.ls,fun u d1 hu hn1=>s2.up I.W hst (I.old u d1 hu hn1),fun k o2 u d1 nb1 h1 h2 h3 h4=>?_,fun m b1 hj=>?_⟩
   ·have h2:=hk.2 h;rw[hset]at h2;split at h2
    ·cases h2
    ·exact h2
   ·have e:k≠i:=fun e=>by subst e;rw[hsp]at h3;cases h3
    rw[hset,if_neg (Ne.symm e)]at h4;exact s2.up I.W hst (I.val k o2 u d1 nb1 h1 h2 h3 h4)
   ·have same:m≠j→∀b2,cbx c Bx Ss listed m b2→bx w0 γ1 w' m b2:=fun hne b2 h=>(I.box m b2 h).up I.W hst fun q hq=>hbl q fun h2=>hne (I.W.bi m j q hq h2)
    rcases hj with ⟨k,hk,hkl⟩|⟨hno,hj⟩
    ·by_cases e:k=i
     ·subst e;rw[hsp]at hk;cases hk;exact hbx
     ·rw[hset,if_neg (Ne.symm e)]at hkl;exact same (fun e2=>huni k b1 e (e2▸hk)) b1 (.inl ⟨k,hk,hkl⟩)
    ·have hmj:m≠j:=fun e=>by
      have:=hno i b (e▸hsp);rw[hset,if_pos rfl]at this;cases this
     have hno':∀(k:Nat) (b':TypeId×List Δ),Ss[k]? =some (Sp.st m b')→listed.getD k true=false:=fun k b' hk=>by
      have:=hno k b' hk;rw[hset]at this;split at this
      ·cases this
      ·exact this
     rcases hj with ⟨k,d2,hjk,hk,hkl⟩|hj
     ·have e:k≠i:=fun e=>by subst e;rw[hsp]at hk;cases hk
      rw[hset,if_neg (Ne.symm e)]at hkl;exact same hmj b1 (.inr ⟨hno',.inl ⟨k,d2,hjk,hk,hkl⟩⟩)
     ·exact same hmj b1 (.inr ⟨hno',.inr hj⟩)
 ·rintro listed a w1 ⟨γ1,I⟩ hall;have hall':∀j,j<Ss.length→listed.getD j true=true:=fun j hj=>hall j (by simp;omega)
  refine fin γ1 a w1 ⟨I.W.sub fun i hi=>⟨om,fun h=>om⟩,I.sz,I.df,fun t d ht=>?_,fun i b hi=>?_⟩
  ·rcases sQ ht with ht|⟨hn,ht⟩
   ·obtain⟨j,o,nb,h1,h2,h3⟩:=JO ht;exact I.val j o t d nb h1 h2 h3 (hall' j (List.getElem?_eq_some_iff.1 h3).1)
   ·refine I.old t d ht fun k o ho hd=>?_
    obtain⟨hk,_⟩:=op k o ho;have h4:=ss k o Ss[k] ho (List.getElem?_eq_getElem hk);have h5:Ss[k]? =some Ss[k]:=List.getElem?_eq_getElem hk;generalize Ss[k]=s at h4 h5;cases s with
    |v d' nb=>exact hn _ (TN ho hd h5) rfl
    |st j b'=>rw[h4.1]at hd;cases hd
  ·refine I.box i b ?_;rcases sQ hi with hi|⟨hn,hi⟩
   ·obtain⟨k,hk⟩:=EJ hi;exact .inl ⟨k,hk,hall' k (List.getElem?_eq_some_iff.1 hk).1⟩
   ·refine .inr ⟨fun k b' hk=>absurd rfl (hn _ (Le hk)),?_⟩;rcases sQ hi with hi|⟨_,hi⟩
    ·obtain⟨j,h1,h2⟩:=Bc hi;rw[List.getElem?_map]at h1;obtain⟨s,hs1,hs2⟩:=Option.map_eq_some_iff.1 h1;cases s with
     |v d nb=>
      have e:nb=some b:=hs2;subst e;exact .inl ⟨j,d,om,hs1,hall' j (List.getElem?_eq_some_iff.1 hs1).1⟩
     |st _ _=>cases hs2
    ·exact .inr hi
 ·rw[e0 k (List.getElem?_eq_some_iff.1 h3).1]at h4;cases h4
 ·rcases h with ⟨k,hk,hkl⟩|⟨_,⟨k,d,_,hk,hkl⟩|h⟩
  ·rw[e0 k (List.getElem?_eq_some_iff.1 hk).1]at hkl;cases hkl
  ·rw[e0 k (List.getElem?_eq_some_iff.1 hk).1]at hkl;cases hkl
  ·exact(S.box i b h).up S.W (.of hb0) fun q hq=>rfl
def PS.tg(_:PS w0 N c E Bx γ a w)(t:Nat):Nat:=match lk E t with
 |some (.p j _)=>j
 |_=>0
theorem UK{p:Prop}(h:p:=by exact⟨ok_st rfl rfl kf rfl rfl,_,.inl rfl,rfl⟩):p:=h
end
section
open Go Go.RowKit Go.Proofs Ab
variable {w0 w w':World} {γ:Gh} {N c:Nat} {E:En} {Bx:Bs} {a:Act} {P:Program}
theorem ps_s2{ops:Array Oper}{rest:List Oper}{Q:Exit→Act→World→Prop}{dst:Option Tmp}{ty t:TypeId}{x y:Operand}{p:String}{e:Array Edge}{j:Nat}{bt:TypeId}{d1 d2 e1 e2:Δ}{ds:List Δ}(S:PS w0 N c E Bx γ a w)(hx:bI (lk E) x (.p j 0))(hb:lk Bx j=some (bt,d1::d2::ds))(hy:bI (lk E) y (.g [e1,e2]))(hi:(P.info? ty).map (·.size)=some 2)(h1:(e1.c1&&e2.c1)=true)(hd:dst=none)
 (next:∀a' w',PS w0 N c E ((j,bt,e1::e2::ds)::Bx) γ a' w'→wpList P ops Q rest a' w'):wpList P ops Q (⟨dst,.store ty x y,t,p,e,none⟩::rest) a w:=by
 obtain⟨q,hq,ex⟩:=hx.ev S.env
 obtain⟨q',xs,hq',hg,hds⟩:=S.box j _ hb
 obtain rfl:q=q':=Option.some.inj (hq.symm.trans hq')
 obtain⟨ys,ey,hys⟩:=hy.ev S.env
 simp only[Bool.and_eq_true]at h1
 match ys,hys,xs,hds with
 |[u,v],hys,x0::x1::xr,hds=>
  have hu:=hys.1.one h1.1;have hv:=hys.2.1.one h1.2;have g1:=heap_setCell_same w q 0 (x0::x1::xr).toArray bt u hg;have g2:=heap_setCell_same (w.setCell ⟨q,0,none⟩ u) q 1 _ bt v g1;have e0:(((x0::x1::xr).toArray.setIfInBounds 0 u).setIfInBounds 1 v)=(u::v::xr).toArray:=sy;rw[e0]at g2;refine wpList_store_mid rfl ty x y rfl q 0 #[u,v] ex ey (fun k hk=>?_) (by rw[hi];rfl) (by simp[hu,hv]) ?_
  ·have hk':k<(x0::x1::xr).length:=by simp at hk ⊢;omega
   rw[Nat.zero_add];exact⟨by rw[jM hg (List.getElem?_eq_getElem hk')];rfl,by simp[World.frozen?,hg]⟩
  subst hd;show wpList P ops Q rest (a.put none undef) ((w.setCell ⟨q,0,none⟩ u).setCell ⟨q,1,none⟩ v);have hnq:=S.W.bn j q hq;have ho:∀k,k≠q→((w.setCell ⟨q,0,none⟩ u).setCell ⟨q,1,none⟩ v).heap[k]? =w.heap[k]? :=fun k hk=>(heap_setCell_other _ _ k v hk).trans (heap_setCell_other _ _ k u hk)
  have hsz:((w.setCell ⟨q,0,none⟩ u).setCell ⟨q,1,none⟩ v).heap.size=w.heap.size:=by rw[World.size_setCell,World.size_setCell]
  refine next _ _ ?_
  have hs:St γ w γ ((w.setCell ⟨q,0,none⟩ u).setCell ⟨q,1,none⟩ v):=⟨by rw[hsz];exact Nat.le_refl _,fun k hk hn=>ho k fun e=>hn j (e▸hq),fun _ _ h=>h,fun _ _ h=>h,fun _ _ h=> .inl h⟩;refine⟨S.W.Ep (w':=(w.setCell ⟨q,0,none⟩ u).setCell ⟨q,1,none⟩ v) ⟨rfl,rfl,rfl,by rw[hsz];exact Nat.le_refl _,fun k hk=>ho k om⟩,S.sz,S.df,fun t d h=>s2.up S.W hs (S.env t d h),fun i b h=>?_⟩;rcases aG h with ⟨rfl,rfl⟩|⟨hne,h⟩
  ·exact⟨q,u::v::xr,hq,g2,s0.up S.W hs hys.1,s0.up S.W hs hys.2.1,l0.up S.W hs hds.2.2⟩
  ·exact(S.box i b h).up S.W hs fun k hk=>ho k fun e=>hne (S.W.bi i j q (e▸hk) hq).symm
end
section
open Go Go.RowKit Go.Proofs Ab
variable {w0 w w':World} {γ:Gh} {N i c:Nat} {R:Nat→Option Δ} {Bx:Bs} {F:Nat→Prop} {P:Program}
theorem JP(hW:Wi w0 γ w F){v:Value}{A:List Nat}(h:Rep0 w0 (fun q=>q<w0.heap.size) v (.l 1 (W A))):s0 w0 γ w (.rd A) v:=
 ⟨fun q=>q<w0.heap.size,fun q hq=>⟨Nat.lt_of_lt_of_le hq hW.bel.size,fun i hi=>by have:=(hW.bn i q hi).1;omega⟩,h.mono (fun _ h=>h) fun q hq=>hW.bel.block q hq⟩
theorem TP(hW:Wi w0 γ w F){v:Value}{A:List Nat}{Z H:Nat→Prop}(hH:∀q,H q→q<w0.heap.size∧¬Z q)(h:Rep0 w0 H v (.l 1 (W A))):s0 w0 γ w (.rz Z A) v:=
 ⟨H,fun q hq=>⟨⟨Nat.lt_of_lt_of_le (hH q hq).1 hW.bel.size,fun i hi=>by have:=(hW.bn i q hi).1;have:=(hH q hq).1;omega⟩,(hH q hq).2⟩,h.mono (fun _ h=>h) fun q hq=>hW.bel.block q (hH q hq).1⟩
section
variable {dst:Option Tmp} {x:Operand} {ty t:TypeId} {p:String} {e:Array Edge} {gd:Option (Nat×Bool)} {q k:Nat}
theorem uF{f off:Nat}(h:bI R x (.k (.pointer (some ⟨q,k,none⟩))))(hf:XI P ty f=some off):Ok P w0 N ⟨dst,.fieldAddr ty x f,t,p,e,gd⟩ i R Bx (.k (.pointer (some ⟨q,k+off,none⟩))) none:=
 mD fun γ w a hR _=>by
  have h2:a.eval x= .pointer (some ⟨q,k,none⟩):=h.ev hR;unfold XI at hf;split at hf
  ·rename_i fs hs;split at hf
   ·rename_i fd hfd;split at hf
    ·rename_i ti hti;cases hz:Nat.beq ti.size 0 with
     |true=>rw[hz]at hf;cases hf
     |false=>
      rw[hz]at hf;have hz':¬ti.size=0:=fun e=>by rw[e]at hz;cases hz
      obtain rfl:=Option.some.inj hf;exact⟨_,by simp[execOp,h2,Instr.fieldAt,run_underlying hs,hfd,Instr.sureAddr,fieldPlace,sizeOf,typeInfo,hti,hz',Addr.add_lit],rfl⟩
    ·cases hf
   ·cases hf
  ·cases hf
theorem Za{ad:Addr}(h:bI R x (.k (.pointer (some ad)))):Ok P w0 N ⟨dst,.nilCheck x,t,p,e,gd⟩ i R Bx (.k (.pointer (some ad))) none:=
 mD fun γ w a hR _=>by
  have h2:a.eval x= .pointer (some ad):=h.ev hR;exact⟨_,by simp[execOp,h2],rfl⟩
def Old(w0:World)(q:Nat)(ds:List Δ):Prop:=∃(xs:List Value) (bt:TypeId),w0.heap[q]? =some (.cells xs.toArray bt (0,0))∧∀γ w F,Wi w0 γ w F→l0 w0 γ w ds xs
theorem ok_w{o:Oper}{d:Δ}(h:∀(γ:Gh) (w:World) (a:Act) (F:Nat→Prop),Wi w0 γ w F→(∀t d,R t=some d→s2 w0 γ w d (a.tmps.getD t undef))→∃v,(execOp a.eval o).run P w= .ok (.value v) w∧s2 w0 γ w d v):Ok P w0 N o i R Bx d none:=⟨fun Q γ a w F K hz hW hF hR hB hK=>by
 obtain⟨v,h1,h2⟩:=h γ w a F hW hR;unfold Oper.wp;rw[h1];exact hK γ v w (.rf _ _) (dE w) (hW.sub fun _ h=>h.1) h2 fun b hb=>by cases hb⟩
theorem TQ{n:Nat}{ds:List Δ}(ho:Old w0 q ds)(h:bI R x (.k (.pointer (some ⟨q,k,none⟩))))(hi:(P.info? ty).map (·.size)=some n)(hag:j_ P ty=true)(hn:Nat.ble (k+n) ds.length=true):Ok P w0 N ⟨dst,.load ty x,t,p,e,gd⟩ i R Bx (.g ((ds.drop k).take n)) none:=
 ok_w fun γ w a F hW hR=>by
  have h2:a.eval x= .pointer (some ⟨q,k,none⟩):=h.ev hR;obtain⟨xs,bt,h4,h5⟩:=ho;have h5:=h5 γ w F hW;have hq:q<w0.heap.size:=(Array.getElem?_eq_some_iff.1 h4).1;replace h4:=(hW.bel.block q hq).trans h4;have hl:xs.length=ds.length:=h5.len;have hn:=Nat.le_of_ble_eq_true hn;obtain⟨ti,hti,hs⟩:=Option.map_eq_some_iff.1 hi;obtain⟨dd,hd⟩:∃dd,P.underlying ty=some dd:=by
   unfold j_ at hag;cases hu:P.underlying ty with
   |some dd=>exact⟨dd,rfl⟩
   |none=>rw[hu]at hag;cases hag
  have:=(rX (P:=P) (w:=w) ty q k n ((xs.drop k).take n) (by simp;omega) (fun m u hu=>jM h4 (by
   rw[List.getElem?_take]at hu;split at hu
   ·rwa[List.getElem?_drop]at hu
   ·cases hu)) hti hs hd).1 hag
  exact⟨_,by simp[execOp,h2,this],_,rfl,h5.cut k n⟩
theorem Dh{ds:List Δ}{d:Δ}(ho:Old w0 q ds)(h:bI R x (.k (.pointer (some ⟨q,k,none⟩))))(hag:j_ P ty=false)(hu:(P.underlying ty).isSome=true)(hd:ds[k]? =some d):Ok P w0 N ⟨dst,.load ty x,t,p,e,gd⟩ i R Bx d none:=
 ok_w fun γ w a F hW hR=>by
  have h2:a.eval x= .pointer (some ⟨q,k,none⟩):=h.ev hR;obtain⟨xs,bt,h4,h5⟩:=ho;have h5:=h5 γ w F hW;have hq:q<w0.heap.size:=(Array.getElem?_eq_some_iff.1 h4).1;replace h4:=(hW.bel.block q hq).trans h4;obtain⟨u,hk,hs⟩:=h5.get hd;obtain⟨dd,hdd⟩:=Option.isSome_iff_exists.1 hu;have hc:=jM h4 hk;have hag':(isAgg ty).run P w= .ok false w:=by
   rw[←hag];simp only[isAgg,j_,Sem.run_bind,run_underlying hdd,Result.andThen_ok,hdd];cases dd<;>rfl
  refine⟨u,by simp[execOp,h2,Instr.loadAt,Instr.sureAddr,loadVar,hag',hc],?_⟩;cases d<;>first|exact hs|exact hs.elim
theorem Zb{f:FuncId}{s:Nat}{BC:Array TypeId}{u y:Value}(h:∀w,Below w0.heap.size w0 w→Calls Tryz.prog f #[u] w (fun e w'=>e= .returned y∧Below w.heap.size w w'))(hx:R s=some (.k u))(hf:Oz Tryz.prog f=true):Ok Tryz.prog w0 N ⟨dst,.call ⟨.value (.func f),#[.tmp s],BC⟩,t,p,e,gd⟩ i R Bx (.k y) none:=⟨fun Q γ a w F K _ hW Tt hR hB hK=>by
 have e1:a.eval (.tmp s)=u:=hR s _ hx;have hc:=h w hW.bel;unfold Oper.wp;rw[kX hf,Oper.upon_enter];simp only[List.map_cons,List.map_nil,e1];refine hc.mono ?_;rintro e w' ⟨rfl,hb⟩;exact hK γ _ w' (.of hb) hb ((hW.Ep (below_le hW hb)).sub fun _ h=>h.1) rfl fun b h=>by cases h⟩
end
def zzl(Z:Nat→Prop):List Δ→Prop
 |[]=>True
 |d::ds=>(match d with| .k _=>True| .rz Z' _=>Z'=Z|_=>False)∧zzl Z ds
def Δ.zz(Z:Nat→Prop):Δ→Prop
 | .k _=>True
 | .rz Z' _=>Z'=Z
 | .g ds=>zzl Z ds
 |_=>False
def Hz(γ:Gh)(w:World)(Z:Nat→Prop)(q:Nat):Prop:=Hn γ w q∧¬Z q
theorem s0.vz{Z:Nat→Prop}:∀{d:Δ} {x:Value},s0 w0 γ w d x→d.zz Z→Rep0 w (Hz γ w Z) x d.v0
 | .k v,x,h,_=>by
   have e:x=v:=h;subst e;exact JF _
 | .rz Z' A,x,⟨H,h1,h2⟩,hz=>by
   have hz:Z'=Z:=hz;subst hz;exact h2.mono (fun q hq=>⟨(h1 q hq).1,(h1 q hq).2⟩) fun _ _=>rfl
 | .ow _ _,_,_,h=>h.elim
 | .rd _,_,_,h=>h.elim
 | .p _ _,_,_,h=>h.elim
 | .sl _ _ _,_,_,h=>h.elim
 | .f _,_,_,h=>h.elim
 | .t _,_,_,h=>h.elim
 | .g _,_,h,_=>h.elim
theorem l0.vz{Z:Nat→Prop}:∀{ds:List Δ} {xs:List Value},l0 w0 γ w ds xs→zzl Z ds→aj w (Hz γ w Z) xs (ds.map Δ.v0)
 |[],[],_,_=>⟨rfl,fun j v x h=>by simp at h⟩
 |d::ds,x::xs,h,hz=>by
  have ih:=l0.vz h.2 hz.2;have h0:=hz.1;refine⟨by simpa using ih.1,fun j v y h1 h2=>?_⟩;cases j with
  |zero=>simp at h1 h2;subst h1;subst h2;exact s0.vz h.1 (by cases d<;>first|exact h0|exact h0.elim)
  |succ j=>exact ih.2 j v y (by simpa using h1) (by simpa using h2)
 |[],_::_,h,_=>h.elim
 |_::_,[],h,_=>h.elim
theorem s2.vz{Z:Nat→Prop}:∀{d:Δ} {x:Value},s2 w0 γ w d x→d.zz Z→Rep0 w (Hz γ w Z) x d.v1
 | .g _,_,⟨xs,e,h⟩,hz=>by subst e;exact .g xs _ (l0.vz h hz).1 (l0.vz h hz).2
 | .k _,_,h,hz=>s0.vz (w0:=w0) (d:= .k _) h hz
 | .rz _ _,_,h,hz=>s0.vz (w0:=w0) (d:= .rz _ _) h hz
 | .ow _ _,_,_,h=>h.elim
 | .rd _,_,_,h=>h.elim
 | .p _ _,_,_,h=>h.elim
 | .sl _ _ _,_,_,h=>h.elim
 | .f _,_,_,h=>h.elim
 | .t _,_,_,h=>h.elim
def Δ.zs(Z:Nat→Prop):Δ→Prop
 | .k (.bool _)| .k (.int _ _)=>True
 | .rz Z' _=>Z'=Z
 |_=>False
def zsl(Z:Nat→Prop):List Δ→Prop
 |[]=>True
 |d::ds=>d.zs Z∧zsl Z ds
theorem v0z{H Z:Nat→Prop}(hH:∀q,H q→(q<w.heap.size∧∀i,γ.β i≠some q)∧¬Z q){d:Δ}{x:Value}(h:Rep0 w H x d.v0)(hq:d.zs Z):s0 w0 γ w d x:=by
 unfold Δ.zs at hq;split at hq
 ·exact(Rep.up (ov:=fun _=>none) h).lK
 ·exact(Rep.up (ov:=fun _=>none) h).bP
 ·subst hq;exact⟨H,hH,h⟩
 ·exact hq.elim
theorem v0zl{H Z:Nat→Prop}(hH:∀q,H q→(q<w.heap.size∧∀i,γ.β i≠some q)∧¬Z q):∀{ds:List Δ} {xs:List Value},aj w H xs (ds.map Δ.v0)→zsl Z ds→l0 w0 γ w ds xs
 |[],[],_,_=>trivial
 |d::ds,x::xs,h,hq=>⟨v0z (w0:=w0) hH (h.2 0 x _ rfl rfl) hq.1,v0zl hH ⟨by simpa using h.1,fun j v y h1 h2=>h.2 (j+1) v y (by simpa using h1) (by simpa using h2)⟩ hq.2⟩
 |[],_::_,h,_=>absurd h.1 sy
 |_::_,[],h,_=>absurd h.1 sy
theorem pz{dst:Option Tmp}{f:FuncId}{s:Nat}{args:Array Operand}{BC:Array TypeId}{t:TypeId}{p:String}{e:Array Edge}{gd:Option (Nat×Bool)}{d1:Δ}{ds:List Δ}{rest:List Value}{Z:Nat→Prop}{vs:List V}{r:V}(c:ah Tryz.prog J0 f vs r)(hZ:∀q,Z q→q<w0.heap.size)(ha:args=(Operand.tmp s::rest.map .const).toArray:=by rfl)(hx:R s=some d1:=by exact rfl)(hz:d1.zz Z:=by(first|exact⟨trivial,rfl,trivial,trivial,trivial⟩|exact⟨trivial,rfl,rfl,trivial⟩))(hv:d1.v1::rest.map kV=vs:=by rfl)(hr:(V.g (ds.map Δ.v0))=r:=by rfl)(hq:zsl Z ds:=by(first|exact⟨trivial,rfl,trivial,trivial,trivial⟩|exact⟨trivial,rfl,rfl,trivial⟩))(hf:Oz Tryz.prog f=true:=by kernel_rfl):Ok Tryz.prog w0 N ⟨dst,.call ⟨.value (.func f),args,BC⟩,t,p,e,gd⟩ i R Bx (.g ds) none:=⟨fun Q γ a w F K _ hW Tt hR hB hK=>by
 subst hr;have h1:=s2.vz (hR s _ hx) hz;have hra:aj w (Hz γ w Z) (a.eval (.tmp s)::rest) vs:=by
  rw[←hv];refine⟨sy,fun j v y h2 h3=>?_⟩;cases j with
  |zero=>simp at h2 h3;subst h2;subst h3;exact h1
  |succ j=>
   simp at h2 h3;obtain⟨u,h4,rfl⟩:=h3;rw[h2]at h4;cases h4;exact JF _
 have hc:=(c.Vf rfl) w (Hz γ w Z) _ trivial (NI _ _) (fun q h=>h.1.1) hra;have hargs:(args.toList.map a.eval).toArray=(a.eval (.tmp s)::rest).toArray:=by
  subst ha;simp only[List.map_cons,List.map_map];congr 2;exact List.map_id'' (f:=a.eval∘Operand.const) (fun _=>rfl) rest
 unfold Oper.wp;rw[kX hf,Oper.upon_enter,hargs];refine hc.mono ?_;rintro e w' ⟨v,rfl,hb,NN,hN,h⟩;rcases h with h|⟨e,sz,cs,n,xs,he,_⟩|⟨r',he,_⟩
 ·obtain⟨xs,rfl,hv2⟩:=(Rep.up (ov:=fun _=>none) h).B_;refine hK γ _ w' (.of hb) hb ((hW.Ep (below_le hW hb)).sub fun _ h=>h.1) ⟨xs,rfl,v0zl (fun q hq=>?_) hv2 hq⟩ fun b h=>by cases h
  rcases hq with hq|hq
  ·exact⟨⟨Nat.lt_of_lt_of_le hq.1.1 hb.size,hq.1.2⟩,hq.2⟩
  ·have:=hN q hq;exact⟨⟨this.2,fun i hi=>by have:=(hW.bn i q hi).2;omega⟩,fun h=>by have:=hZ q h;have:=hW.bel.size;omega⟩
 ·cases he
 ·cases he⟩
def Δ.sf0(Z:Nat→Prop):Δ→Prop
 | .k _| .ow _ _| .p _ _| .sl _ _ _=>True
 | .rz Z' _=>Z'=Z
 |_=>False
def sfl(Z:Nat→Prop):List Δ→Prop
 |[]=>True
 |d::ds=>d.sf0 Z∧sfl Z ds
variable {w0':World} {γ':Gh}
theorem s0.nw{Z:Nat→Prop}(hW:Wi w0 γ w F)(hs:w0'.heap.size=w0.heap.size)(hsz:w.heap.size≤w'.heap.size)(hb:∀q,q<w.heap.size→¬Z q→w'.heap[q]? =w.heap[q]?)(hZ:∀q,Z q→q<w0.heap.size):∀{d:Δ} {x:Value},s0 w0 γ w d x→d.sf0 Z→s0 w0' γ w' d x
 | .k _,_,h,_=>h
 | .ow A t,x,⟨⟨m,hm,ho⟩,hk⟩,_=>⟨⟨m,hm,dX (aP ho fun q hq=>by
    have:=hW.kn t q (by rw[hk,hq]);exact hb q this.2.1 fun h=>by have:=hZ q h;omega) (Nat.le_of_eq hs)⟩,hk⟩
 | .p _ _,_,h,_=>h
 | .sl _ _ _,_,h,_=>h
 | .f _,_,_,h=>h.elim
 | .rz Z' A,x,⟨H,h1,h2⟩,hz=>by
   have hz:Z'=Z:=hz;subst hz;exact⟨H,fun q hq=>⟨⟨Nat.lt_of_lt_of_le (h1 q hq).1.1 hsz,(h1 q hq).1.2⟩,(h1 q hq).2⟩,h2.mono (fun _ h=>h) fun q hq=>hb q (h1 q hq).1.1 (h1 q hq).2⟩
 | .rd _,_,_,h=>h.elim
 | .g _,_,h,_=>h.elim
 | .t _,_,h,_=>h.elim
theorem l0.nw{Z:Nat→Prop}(hW:Wi w0 γ w F)(hs:w0'.heap.size=w0.heap.size)(hsz:w.heap.size≤w'.heap.size)(hb:∀q,q<w.heap.size→¬Z q→w'.heap[q]? =w.heap[q]?)(hZ:∀q,Z q→q<w0.heap.size):∀{ds:List Δ} {xs:List Value},l0 w0 γ w ds xs→sfl Z ds→l0 w0' γ w' ds xs
 |[],[],h,_=>h
 |_::_,_::_,h,hf=>⟨s0.nw hW hs hsz hb hZ h.1 hf.1,l0.nw hW hs hsz hb hZ h.2 hf.2⟩
 |[],_::_,h,_=>h.elim
 |_::_,[],h,_=>h.elim
def UL(E:En):List Nat→En
 |[]=>[]
 |t::ts=>match lk E t with
  |some d=>(t,d)::UL E ts
  |none=>UL E ts
def XY(E:En)(Bx:Bs):List Nat→Bs
 |[]=>[]
 |t::ts=>match lk E t with
  |some (.p j _)=>(match lk Bx j with
   |some b=>(j,b)::XY E Bx ts
   |none=>XY E Bx ts)
  |_=>XY E Bx ts
theorem JQ{E:En}:∀{ts:List Nat} {t:Nat} {d:Δ},lk (UL E ts) t=some d→lk E t=some d
 |[],_,_,h=>by cases h
 |u::ts,t,d,h=>by
  unfold UL at h;split at h
  ·rename_i d' hd;rcases aG h with ⟨rfl,rfl⟩|⟨_,h⟩
   ·exact hd
   ·exact JQ h
  ·exact JQ h
theorem EK{E:En}{Bx:Bs}:∀{ts:List Nat} {j:Nat} {b:TypeId×List Δ},lk (XY E Bx ts) j=some b→lk Bx j=some b
 |[],_,_,h=>by cases h
 |u::ts,j,b,h=>by
  unfold XY at h;split at h
  ·split at h
   ·rename_i hb;rcases aG h with ⟨rfl,rfl⟩|⟨_,h⟩
    ·exact hb
    ·exact EK h
   ·exact EK h
  ·exact EK h
def sfE(Z:Nat→Prop):En→Prop
 |[]=>True
 |p::E=>(match p.2 with| .k _| .p _ _=>True|_=>False)∧sfE Z E
def sfB(Z:Nat→Prop):Bs→Prop
 |[]=>True
 |b::Bx=>sfl Z b.2.2∧sfB Z Bx
theorem Lh{Z:Nat→Prop}:∀{E:En} {t:Nat} {d:Δ},sfE Z E→lk E t=some d→match d with| .k _| .p _ _=>True|_=>False
 |[],_,_,_,h=>by cases h
 |p::E,t,d,hf,h=>by
  rcases aG h with ⟨_,rfl⟩|⟨_,h⟩
  ·exact hf.1
  ·exact Lh hf.2 h
theorem Lj{Z:Nat→Prop}:∀{Bx:Bs} {j:Nat} {b:TypeId×List Δ},sfB Z Bx→lk Bx j=some b→sfl Z b.2
 |[],_,_,_,h=>by cases h
 |p::Bx,t,d,hf,h=>by
  rcases aG h with ⟨_,rfl⟩|⟨_,h⟩
  ·exact hf.1
  ·exact Lj hf.2 h
theorem PS.nw{Z:Nat→Prop}{E:En}{a:Act}{c:Nat}(ts bs:List Nat)(S:PS w0 N c E Bx γ a w)(hs:w0'.heap.size=w0.heap.size)(hj:Jw w0')(hbl:Below w0'.heap.size w0' w')(hsz:w.heap.size≤w'.heap.size)(hb:∀q,q<w.heap.size→¬Z q→w'.heap[q]? =w.heap[q]?)(hZ:∀q,Z q→q<w0.heap.size)(hE:sfE Z (UL E ts))(hB:sfB Z (XY E Bx bs)):PS w0' N c (UL E ts) (XY E Bx bs) γ a w':=by
 refine⟨⟨hj,hbl,fun i b h=>⟨by rw[hs];exact(S.W.bn i b h).1,Nat.lt_of_lt_of_le (S.W.bn i b h).2 hsz⟩,S.W.bi,fun t q h=>⟨by rw[hs];exact(S.W.kn t q h).1,Nat.lt_of_lt_of_le (S.W.kn t q h).2.1 hsz,(S.W.kn t q h).2.2⟩,S.W.ki,S.W.fr⟩,S.sz,S.df,fun t d h=>?_,fun i b h=>?_⟩
 ·have h1:=S.env t d (JQ h);have h2:=Lh hE h;cases d<;>first|exact h1|exact h2.elim
 ·obtain⟨q,xs,h1,h2,h3⟩:=S.box i b (EK h);exact⟨q,xs,h1,(hb q (S.W.bn i q h1).2 fun h=>by have:=hZ q h;have:=(S.W.bn i q h1).1;omega).trans h2,l0.nw S.W hs hsz hb hZ h3 (Lj hB h)⟩
def JR(w0 w':World):World:={w' with heap:=w'.heap.extract 0 w0.heap.size}
theorem oL{w0 w':World}(h:w0.heap.size≤w'.heap.size):(JR w0 w').heap.size=w0.heap.size:=by
 show(w'.heap.extract 0 w0.heap.size).size=_;simp;omega
theorem qJ{w0 w':World}{q:Nat}(hq:q<w0.heap.size):(JR w0 w').heap[q]? =w'.heap[q]? :=by
 show(w'.heap.extract 0 w0.heap.size)[q]? =_;rw[Array.getElem?_extract];by_cases h:q<w'.heap.size
 ·simp[hq];omega
 ·simp[h]
theorem Ll{w0 w':World}(h:w0.heap.size≤w'.heap.size):Below (JR w0 w').heap.size (JR w0 w') w':=
 ⟨rfl,rfl,rfl,by rw[oL h];exact h,fun q hq=>by rw[oL h]at hq;exact(qJ hq).symm⟩
theorem Jw.eq{w w':World}(h:Jw w)(h0:w'.heap[1]? =w.heap[1]?)(h1:w'.heap[0]? =w.heap[0]?):Jw w':=by
 have key:∀g,g<w.heap.size→w'.heap[g]? =w.heap[g]? →g<w'.heap.size:=fun g hg he=>by
  rw[Array.getElem?_eq_getElem hg]at he;exact(Array.getElem?_eq_some_iff.1 he).1
 exact⟨⟨key _ h.1.1 h0,fun k hk=>(aN h0).trans (h.1.2 k hk)⟩,key _ h.2.1 h1,fun k hk=>(aN h1).trans (h.2.2 k hk)⟩
theorem ps_wr{Z:Nat→Prop}{E:En}{a:Act}{c:Nat}{ops:Array Oper}{Q:Exit→Act→World→Prop}{k s:Nat}{f:FuncId}{BC:Array TypeId}{t:TypeId}{p:String}{e:Array Edge}{u y:Value}{rest:List Oper}{Ξ:World→Prop}(ts bs:List Nat)(S:PS w0 N c E Bx γ a w)(hx:lk E s=some (.k u))(h:Calls Tryz.prog f #[u] w (fun e w'=>e= .returned y∧aI w Z w'∧Ξ w'))(hZ:∀q,Z q→q<w0.heap.size)(hg1:¬Z 1)(hg2:¬Z 0)(hE:sfE Z (UL E ts))(hB:sfB Z (XY E Bx bs))(hk:ts.contains k=false)
 (next:∀w',aI w Z w'→Ξ w'→Jw (JR w0 w')→PS (JR w0 w') N c (UL E ts) (XY E Bx bs) γ (a.put (some k) y) w'→wpList Tryz.prog ops Q rest (a.put (some k) y) w') (hf:Oz Tryz.prog f=true:=by kernel_rfl):wpList Tryz.prog ops Q (⟨some k,.call ⟨.value (.func f),#[.tmp s],BC⟩,t,p,e,none⟩::rest) a w:=by
 refine BigFrame.wpList_want rfl fun K hK=>?_
 have e1:a.eval (.tmp s)=u:=S.env s _ hx
 unfold Oper.wp
 rw[kX hf,Oper.upon_enter]
 simp only[List.map_cons,List.map_nil,e1]
 refine h.mono ?_
 rintro e w' ⟨rfl,hb,hx⟩
 refine hK _ _ ?_
 have hs:=S.W.bel.size
 have hs':=hb.size
 have hle:w0.heap.size≤w'.heap.size:=Nat.le_trans hs hs'
 have hbl:∀q,q<w.heap.size→¬Z q→w'.heap[q]? =w.heap[q]? :=fun q hq hn=>hb.block q hq hn
 have hg:∀g,g<w0.heap.size→¬Z g→(JR w0 w').heap[g]? =w0.heap[g]? :=fun g hg hn=>(qJ hg).trans ((hbl g (Nat.lt_of_lt_of_le hg hs) hn).trans (S.W.bel.block g hg))
 have hj:Jw (JR w0 w'):=S.W.j.eq (hg _ S.W.j.1.1 hg1) (hg _ S.W.j.2.1 hg2)
 have S':=S.nw (Z:=Z) ts bs (oL hle) hj (Ll hle) hs' hbl hZ hE hB
 have hts:∀{ts:List Nat} {t:Nat} {d:Δ},lk (UL E ts) t=some d→t∈ts:=fun {ts}=>by
  induction ts with
  |nil=>intro t d h;cases h
  |cons u ts ih=>
   intro t d h;unfold UL at h;split at h
   ·rcases aG h with ⟨rfl,_⟩|⟨_,h⟩
    ·exact List.mem_cons_self
    ·exact List.mem_cons_of_mem _ (ih h)
   ·exact List.mem_cons_of_mem _ (ih h)
 refine next w' hb hx hj ⟨S'.W,by show(a.tmps.setIfInBounds k y).size=N;simp[S'.sz],S'.df,fun t d ht=>?_,S'.box⟩
 rw[gG fun e=>by
  have:=hts ht;subst e;rw[List.contains_eq_mem,decide_eq_false_iff_not]at hk;exact hk this]
 exact S'.env t d ht
def subE(E:En):En→Prop
 |[]=>True
 |(t,d)::r=>lk E t=some d∧subE E r
def subB(E:En)(Bx:Bs):List Nat→Bs→Prop
 |[],[]=>True
 |t::ts,(j,b)::r=>(∃o,lk E t=some (.p j o))∧lk Bx j=some b∧subB E Bx ts r
 |_,_=>False
theorem Lp{E:En}:∀{E':En} {t:Nat} {d:Δ},subE E E'→lk E' t=some d→lk E t=some d
 |[],_,_,_,h=>by cases h
 |(u,e)::r,t,d,hs,h=>by
  rcases aG h with ⟨rfl,rfl⟩|⟨_,h⟩
  ·exact hs.1
  ·exact Lp hs.2 h
theorem Lr{E:En}{Bx:Bs}:∀{ts:List Nat} {B':Bs} {j:Nat} {b:TypeId×List Δ},subB E Bx ts B'→lk B' j=some b→lk Bx j=some b
 |[],[],_,_,_,h=>by cases h
 |t::ts,(i,c)::r,j,b,hs,h=>by
  rcases aG h with ⟨rfl,rfl⟩|⟨_,h⟩
  ·exact hs.2.1
  ·exact Lr hs.2.2 h
 |[],_::_,_,_,hs,_=>hs.elim
 |_::_,[],_,_,hs,_=>hs.elim
theorem PS.kp{E:En}{a:Act}{c:Nat}(S:PS w0 N c E Bx γ a w)(c':Nat)(E':En)(B':Bs)(ts:List Nat)(hc:c=c')(hE:subE E E')(hB:subB E Bx ts B'):PS w0 N c' E' B' γ a w:=by
 subst hc;exact⟨S.W,S.sz,S.df,fun t d h=>S.env t d (Lp hE h),fun i b h=>S.box i b (Lr hB h)⟩
section
variable {dst:Option Tmp} {x:Operand} {t:TypeId} {p:String} {e:Array Edge} {gd:Option (Nat×Bool)} {q k:Nat} {ds:List Δ} {d:Δ}
theorem lo_c(h:bI R x (.k (.pointer (some ⟨q,k,none⟩))))(ho:Old w0 q ds)(hn:Nat.ble (k+4) ds.length=true):Ok Tryz.prog w0 N ⟨dst,.load 27 x,t,p,e,gd⟩ i R Bx (.g ((ds.drop k).take 4)) none:=TQ ho h kf kf hn
theorem GY(h:bI R x (.k (.pointer (some ⟨q,k,none⟩))))(ho:Old w0 q ds)(hn:Nat.ble (k+3) ds.length=true):Ok Tryz.prog w0 N ⟨dst,.load 29 x,t,p,e,gd⟩ i R Bx (.g ((ds.drop k).take 3)) none:=TQ ho h kf kf hn
theorem lo_i(h:bI R x (.k (.pointer (some ⟨q,k,none⟩))))(ho:Old w0 q ds)(hn:Nat.ble (k+2) ds.length=true):Ok Tryz.prog w0 N ⟨dst,.load 25 x,t,p,e,gd⟩ i R Bx (.g ((ds.drop k).take 2)) none:=TQ ho h kf kf hn
theorem lo_z(h:bI R x (.k (.pointer (some ⟨q,k,none⟩))))(ho:Old w0 q ds)(hd:ds[k]? =some d):Ok Tryz.prog w0 N ⟨dst,.load 3 x,t,p,e,gd⟩ i R Bx d none:=Dh ho h kf kf hd
theorem Zc(h:bI R x (.k (.pointer (some ⟨q,k,none⟩)))):Ok Tryz.prog w0 N ⟨dst,.fieldAddr 27 x 0,t,p,e,gd⟩ i R Bx (.k (.pointer (some ⟨q,k+0,none⟩))) none:=uF h kf
theorem Zd(h:bI R x (.k (.pointer (some ⟨q,k,none⟩)))):Ok Tryz.prog w0 N ⟨dst,.fieldAddr 27 x 1,t,p,e,gd⟩ i R Bx (.k (.pointer (some ⟨q,k+2,none⟩))) none:=uF h kf
theorem fk_b(h:bI R x (.k (.pointer (some ⟨q,k,none⟩)))):Ok Tryz.prog w0 N ⟨dst,.fieldAddr 41 x 0,t,p,e,gd⟩ i R Bx (.k (.pointer (some ⟨q,k+0,none⟩))) none:=uF h kf
theorem pxx{p:Prop}(h:p:=by first|exact px|exact lo_c rfl (by assumption) rfl|exact GY rfl (by assumption) rfl):p:=h
theorem pxo{p:Prop}(h:p:=by first|exact lo_c rfl (by assumption) rfl|exact GY rfl (by assumption) rfl|exact lo_i rfl (by assumption) rfl|exact lo_z rfl (by assumption) rfl|exact Zc rfl|exact Zd rfl|exact fk_b rfl|exact Za rfl):p:=h
end
theorem goO{p:Prop}(h:p:=by first|exact GK pxo|exact GK px|exact KZ px rfl rfl rfl rfl|exact K_ rfl rfl rfl rfl|exact TD rfl rfl rfl kf rfl rfl rfl):p:=h
theorem UM{p q:Prop}(k:q)(h:PLift q→p:=by
 intro hq;(repeat (first|(show wpList _ _ _ (_::_) _ _;refine XM S goO ?_;intro x1 x2 x3 S)|refine wsr ?_|refine wsq ?_|refine b_ ?_));first|(revert x1 x2 x3;exact hq.down)|exact hq.down):p:=h ⟨k⟩
end
section
open Go Go.RowKit Go.Proofs Ab
variable {w0 w w':World} {γ:Gh} {F:Nat→Prop} {Z:Nat→Prop}
theorem wi_nil(hj:Jw w0):Wi w0 ⟨fun _=>none,fun _=>none⟩ w0 (fun _=>False):=
 ⟨hj,dE w0,fun i b h=>(by cases h),fun i j b h=>(by cases h),fun t q h=>(by cases h),fun t u q h=>(by cases h),fun i h=>h.elim⟩
theorem s0.zo(hb:∀g,g<w0.heap.size→¬Z g→w'.heap[g]? =w0.heap[g]?)(hs:w'.heap.size=w0.heap.size):∀{d:Δ} {x:Value},s0 w0 ⟨fun _=>none,fun _=>none⟩ w0 d x→(match d with| .k _=>True| .rz Z' _=>Z'=Z|_=>False)→∀{γ w F},Wi w' γ w F→s0 w' γ w d x
 | .k v,x,h,_,_,_,_,_=>h
 | .rz Z' A,x,⟨H,h1,h2⟩,hz,_,_,_,hW=>by
   have hz:Z'=Z:=hz;subst hz;exact TP (H:=H) hW (fun q hq=>⟨by rw[hs];exact(h1 q hq).1.1,(h1 q hq).2⟩) (h2.mono (fun _ h=>h) fun q hq=>hb q (h1 q hq).1.1 (h1 q hq).2)
 | .ow _ _,_,_,h,_,_,_,_=>h.elim
 | .rd _,_,_,h,_,_,_,_=>h.elim
 | .p _ _,_,_,h,_,_,_,_=>h.elim
 | .sl _ _ _,_,_,h,_,_,_,_=>h.elim
 | .f _,_,_,h,_,_,_,_=>h.elim
 | .t _,_,_,h,_,_,_,_=>h.elim
 | .g _,_,_,h,_,_,_,_=>h.elim
theorem l0.zo(hb:∀g,g<w0.heap.size→¬Z g→w'.heap[g]? =w0.heap[g]?)(hs:w'.heap.size=w0.heap.size):∀{ds:List Δ} {xs:List Value},l0 w0 ⟨fun _=>none,fun _=>none⟩ w0 ds xs→zzl Z ds→∀{γ w F},Wi w' γ w F→l0 w' γ w ds xs
 |[],[],h,_,_,_,_,_=>h
 |_::_,_::_,h,hz,_,_,_,hW=>⟨s0.zo hb hs h.1 hz.1 hW,l0.zo hb hs h.2 hz.2 hW⟩
 |[],_::_,h,_,_,_,_,_=>h.elim
 |_::_,[],h,_,_,_,_,_=>h.elim
theorem Old.nw{q:Nat}{ds:List Δ}(h:Old w0 q ds)(hj:Jw w0)(hz:zzl Z ds)(hq:¬Z q)(hb:∀g,g<w0.heap.size→¬Z g→w'.heap[g]? =w0.heap[g]?)(hs:w'.heap.size=w0.heap.size):Old w' q ds:=by
 obtain⟨xs,bt,h4,h5⟩:=h;exact⟨xs,bt,(hb q (Array.getElem?_eq_some_iff.1 h4).1 hq).trans h4,fun γ w F hW=>l0.zo hb hs (h5 _ _ _ (wi_nil hj)) hz hW⟩
end
