import Derived.Test.YtcgfgifjkkmmcaaGreatDoorGG
set_option linter.all false
set_option maxHeartbeats 10000000
set_option maxRecDepth 2000000
namespace Go.Proofs.YtcgfgifjkkmmcaaGreatDoor
open Go Go.RowKit Ab
theorem rJ{b:Nat}:∀(l:List Nat) (i x:Nat),i<l.length→nv b (l.set i x)+b^i*l.getD i 0=nv b l+b^i*x
 |[],i,x,h=>by simp at h
 |y::l,0,x,h=>by
  show nv b (x::l)+b^0*y=nv b (y::l)+b^0*x;rw[qB,qB,Nat.pow_zero];omega
 |y::l,i+1,x,h=>by
  have ih:=rJ (b:=b) l i x (by simpa using h);show nv b (y::l.set i x)+b^(i+1)*l.getD i 0=nv b (y::l)+b^(i+1)*x;rw[qB,qB,Nat.pow_succ,Nat.mul_comm (b^i) b,Nat.mul_assoc,Nat.mul_assoc];have:=congrArg (b*·) ih;simp only[Nat.mul_add]at this;omega
theorem getD_set_ne(l:List Nat)(i j x:Nat)(h:i≠j):(l.set i x).getD j 0=l.getD j 0:=by
 rw[List.getD_eq_getElem?_getD,List.getD_eq_getElem?_getD,List.getElem?_set_ne h]
theorem G9{S T c k w x:Nat}{l:List Nat}(hk:k<l.length)(hR:nv B l+B^k*c=S+T):
 nv B (l.set k ((x*w+c+l.getD k 0)%B))+B^(k+1)*((x*w+c+l.getD k 0)/B)=S+(T+B^k*(x*w)):=by
 have h1:=rJ (b:=B) l k ((x*w+c+l.getD k 0)%B) hk
 have h2:=Nat.mod_add_div (x*w+c+l.getD k 0) B
 have h3:B^k*((x*w+c+l.getD k 0)%B)+B^(k+1)*((x*w+c+l.getD k 0)/B)=B^k*(x*w)+B^k*c+B^k*l.getD k 0:=by
  rw[Nat.pow_succ,Nat.mul_assoc,←Nat.mul_add,h2,Nat.mul_add,Nat.mul_add]
 omega
theorem kar{n a1 a0 b1 b0:Nat}:(a0+B^n*a1)*(b0+B^n*b1)=a1*b1*B^(2*n)+((a1+a0)*(b1+b0)-(a1*b1+a0*b0))*B^n+a0*b0∧a1*b1+a0*b0≤(a1+a0)*(b1+b0):=by
 have e:(a1+a0)*(b1+b0)=a1*b1+a0*b0+(a1*b0+a0*b1):=by rw[Nat.add_mul,Nat.mul_add,Nat.mul_add];omega
 refine⟨?_,om⟩;rw[e,Nat.add_sub_cancel_left,Nat.two_mul,Nat.pow_add];generalize B^n=P;rw[Nat.add_mul,Nat.mul_add,Nat.mul_add,Nat.add_mul (a1*b0)];have h1:P*a1*(P*b1)=a1*b1*(P*P):=by rw[Nat.mul_comm P a1,Nat.mul_mul_mul_comm,Nat.mul_comm P b1,←Nat.mul_assoc,←Nat.mul_assoc,Nat.mul_right_comm a1 P b1,Nat.mul_assoc (a1*b1)]
 have h2:P*a1*b0=a1*b0*P:=by rw[Nat.mul_comm P a1,Nat.mul_right_comm]
 have h3:a0*(P*b1)=a0*b1*P:=by rw[Nat.mul_comm P b1,←Nat.mul_assoc]
 rw[h1,h2,h3];omega
def dK:=an @wi (an @aO (an @Nat.div_one (an @Nat.mul_one (an @aH (an @eY (an @dh (an @dF @cZ)))))))
theorem UD(n:Nat):(List.replicate n [V.i .u64 0]).flatten=W (List.replicate n 0):=DW n
theorem Dj(a b:Nat):((a:Int)+(b:Int)).toNat=a+b:=om
theorem mn'(a b:Nat):min (a:Int) (b:Int)=((min a b:Nat):Int):=om
theorem Dk(a:List Nat)(n:Nat)(ha:Wd a)(la:a.length≤1000000000):ah Tryz.prog J0 157 [.l 1 (W a),.i .i64 (n:Int)] (.t [.l 1 (W (dg B (nv B a/B^n))),.l 1 (W (dg B (nv B a%B^n)))]):=by
 have e1:nv B (a.drop (min n a.length))=nv B a/B^n:=by
  rcases Nat.le_total n a.length with h|h
  ·rw[Nat.min_eq_left h,rU dc ha]
  ·rw[Nat.min_eq_right h,List.drop_length,Nat.div_eq_of_lt (Nat.lt_of_lt_of_le (bY ha) (Nat.pow_le_pow_right dc h))];rfl
 have e2:nv B (a.take (min n a.length))=nv B a%B^n:=by
  rcases Nat.le_total n a.length with h|h
  ·rw[Nat.min_eq_left h,nv_mod dc ha]
  ·rw[Nat.min_eq_right h,List.take_length,Nat.mod_eq_of_lt (Nat.lt_of_lt_of_le (bY ha) (Nat.pow_le_pow_right dc h))]
 have hml:min n a.length≤a.length:=Nat.min_le_right _ _;generalize hm:min n a.length=m at e1 e2 hml;have h1:=lV (a.drop m) (Wj ha _) (by rw[List.length_drop];omega);have h2:=lV (a.take m) (Wh ha _) (by rw[List.length_take];omega);rw[e1]at h1;rw[e2]at h2;refine d_ aX bV Tryz.func157 ?_;exact jR (ai @nD (ai @Ah (ai @hm (ai @mn' (ai @bD @dK)))))
def lf(v n:Nat):List Nat:=if v=0 then[]else List.replicate n 0++dg B v
theorem Zz(v n:Nat):nv B (lf v n)=v*B^n:=by
 unfold lf;split
 ·rename_i h;rw[h,Nat.zero_mul];rfl
 ·rw[qj,qh,List.length_replicate,aS,Nat.zero_add,Nat.mul_comm]
theorem ZA(v n:Nat):Wd (lf v n):=by
 unfold lf;split
 ·exact I9
 ·exact QG (uM dc) (az v)
theorem UE{v n m:Nat}(h:v<B^m):(lf v n).length≤n+m:=by
 unfold lf;split
 ·exact Nat.zero_le _
 ·rw[List.length_append,List.length_replicate];have:=bC h;omega
theorem Dl(v n:Nat)(hn:n≤1000000000)(hl:(dg B v).length≤1000000000):ah Tryz.prog J0 158 [.l 1 (W (dg B v)),.i .i64 (n:Int)] (.l 1 (W (lf v n))):=by
 have hd0:(((dg B v).length:Int)=0)=(v=0):=propext ⟨fun h=>(rE B2).1 (List.eq_nil_of_length_eq_zero om),fun h=>by rw[h];rfl⟩;refine d_ aX bV Tryz.func158 ?_;by_cases h0:v=0
 ·subst h0;rw[show lf 0 n=[]from rfl];rw[nP];exact YI (ai @bD @dK)
 ·rw[show lf v n=List.replicate n 0++dg B v from if_neg h0];repeat first
   |(refine hK _ ?_;clear hK K)
   |((first|refine ay (fun K hK=>?_)|refine aB (fun K hK=>?_)|refine au (fun K hK=>?_));simp(disch:=(first|omega|assumption)) only[S1,seval,-Int.reduceToNat,-List.reduceReplicate,a_.sb,a_.mut,bZ,↓Bool.false_eq_true,beq_self_eq_true,ite_self,dK,List.length_nil,hd0,h0,UD,Ai,List.length_replicate];refine hK _ ?_;clear hK K)
   |simp only[Sv,↓reduceIte,Nat.reduceEqDiff]
  exact jX (ai @bD @dK)
theorem yN(k:Nat)(hk:k≤100000000)
 (IH:∀x y:List Nat,Wd x→Wd y→x.length≤k→y.length≤k→ah Tryz.prog J0 138 [.l 1 (W x),.l 1 (W y)] (.l 1 (W (dg B (nv B x*nv B y)))))
 (a b:List Nat) (ha:Wd a) (hb:Wd b) (hab:a.length≤b.length) (ZB:40≤b.length) (lb:b.length≤k+1):
 ah Tryz.prog J0 149 [.l 1 (W a),.l 1 (W b)] (.o 31 1 (W (dg B (nv B a*nv B b)))):=by
 obtain⟨n,hn⟩:∃n,n=(b.length+1)/2:=⟨_,rfl⟩
 have hni:((b.length:Int)+1).tdiv 2=(n:Int):=by rw[hn];exact rfl
 have ha2:nv B a<B^(n+n):=fO ha om
 have hb2:nv B b<B^(n+n):=fO hb om
 rw[Nat.pow_add]at ha2 hb2
 have hP:0<B^n:=Nat.pow_pos dc
 have a1:nv B a/B^n<B^n:=(Nat.div_lt_iff_lt_mul hP).2 ha2
 have b1:nv B b/B^n<B^n:=(Nat.div_lt_iff_lt_mul hP).2 hb2
 have a0:nv B a%B^n<B^n:=Nat.mod_lt _ hP
 have b0:nv B b%B^n<B^n:=Nat.mod_lt _ hP
 have hca:=Dk a n ha om
 have hcb:=Dk b n hb om
 obtain⟨kar1,kar2⟩:=kar (n:=n) (a1:=nv B a/B^n) (a0:=nv B a%B^n) (b1:=nv B b/B^n) (b0:=nv B b%B^n)
 rw[Nat.mod_add_div,Nat.mod_add_div]at kar1
 rw[kar1]
 generalize nv B a/B^n=A1 at*
 generalize nv B a%B^n=A0 at*
 generalize nv B b/B^n=B1 at*
 generalize nv B b%B^n=B0 at*
 have la1:=bC a1
 have la0:=bC a0
 have lb1:=bC b1
 have lb0:=bC b0
 have sa:=zJ a1 a0
 have sb:=zJ b1 b0
 have lsa:=bC sa
 have lsb:=bC sb
 have hi:=IH (dg B A1) (dg B B1) (az _) (az _) om om
 have lo:=IH (dg B A0) (dg B B0) (az _) (az _) om om
 have ada:=kP (dg B A1) (dg B A0) (az _) (az _) om om
 have adb:=kP (dg B B1) (dg B B0) (az _) (az _) om om
 have mi:=IH (dg B (A1+A0)) (dg B (B1+B0)) (az _) (az _) om om
 simp only[aS]at hi lo ada adb mi
 have phi:A1*B1<B^(n+n):=by rw[Nat.pow_add];exact Nat.mul_lt_mul_of_lt_of_lt a1 b1
 have plo:A0*B0<B^(n+n):=by rw[Nat.pow_add];exact Nat.mul_lt_mul_of_lt_of_lt a0 b0
 have pmi:(A1+A0)*(B1+B0)<B^(n+1+(n+1)):=by rw[Nat.pow_add B (n+1)];exact Nat.mul_lt_mul_of_lt_of_lt sa sb
 have lhi:=bC phi
 have llo:=bC plo
 have lmi:=bC pmi
 have phl:=zJ phi plo
 have lhl:=bC phl
 have adh:=kP (dg B (A1*B1)) (dg B (A0*B0)) (az _) (az _) om om
 have sbm:=Ap (dg B ((A1+A0)*(B1+B0))) (dg B (A1*B1+A0*B0)) (az _) (az _) om om
 simp only[aS]at adh sbm
 rw[if_neg (Nat.not_lt.2 kar2),if_neg (Nat.not_lt.2 kar2)]at sbm
 have pmd:(A1+A0)*(B1+B0)-(A1*B1+A0*B0)<B^(n+1+(n+1)):=Nat.lt_of_le_of_lt (Nat.sub_le _ _) pmi
 generalize (A1+A0)*(B1+B0)-(A1*B1+A0*B0)=M at*
 have lmd:=bC pmd
 have lh:=Dl (A1*B1) (2*n) om om
 have lm:=Dl M n om om
 have llh:=UE (n:=2*n) phi
 have llm:=UE (n:=n) pmd
 have ad1:=kP (lf (A1*B1) (2*n)) (lf M n) (ZA _ _) (ZA _ _) om om
 rw[Zz,Zz]at ad1
 have l1:(dg B (A1*B1*B^(2*n)+M*B^n)).length≤4*n+10:=by
  have q1:A1*B1*B^(2*n)<B^(4*n+9):=by
   have:=Nat.mul_lt_mul_of_pos_right phi (Nat.pow_pos (n:=2*n) (by decide:0<B));rw[←Nat.pow_add]at this;exact Ja this om
  have q2:M*B^n<B^(4*n+9):=by
   have:=Nat.mul_lt_mul_of_pos_right pmd hP;rw[←Nat.pow_add]at this;exact Ja this om
  exact bC (zJ q1 q2)
 have ad2:=kP (dg B (A1*B1*B^(2*n)+M*B^n)) (dg B (A0*B0)) (az _) (az _) om om
 simp only[aS]at ad2
 have h2n:(2:Int)*(n:Int)=((2*n:Nat):Int):=om
 have h20:¬(2:Int)=0:=dc
 refine d_ aX bV Tryz.func149 ?_
 exact jR (ai @h2n (ai @Int.natCast_zero (ai @h20 (ai @hni (ai @bD @dK)))))
theorem G_(k:Nat)(hk:k≤100000000):∀x y:List Nat,Wd x→Wd y→x.length≤k→y.length≤k→ah Tryz.prog J0 138 [.l 1 (W x),.l 1 (W y)] (.o 31 1 (W (dg B (nv B x*nv B y)))):=by
 induction k with
 |zero=>
  intro x y hx hy lx ly;have hx0:x=[]:=List.eq_nil_of_length_eq_zero om;have hy0:y=[]:=List.eq_nil_of_length_eq_zero om;subst hx0;subst hy0;rw[show nv B []*nv B []=0 from rfl,nP];refine d_ aX bV Tryz.func138 ?_;refine aJ (ai @bD @dK) ?_;exact jX (ai @bD @dK)
 |succ k ih=>
  have IH:=fun x y a b c d=>(ih om x y a b c d).frozen
  intro x y hx hy lx ly;refine d_ aX bV Tryz.func138 ?_;by_cases hsw:(y.length:Int)<(x.length:Int)
  ·rw[Nat.mul_comm];by_cases h0:((y).length:Int)=0
   ·have e:dg B (nv B (y)*nv B (x))=[]:=by rw[show y=[]from List.eq_nil_of_length_eq_zero om,show nv B []=0 from rfl,Nat.zero_mul];rfl
    rw[e];have q1:¬(((x).length:Int)<0):=om;have q2:=(show(0:Int)<(x.length:Int) by omega);repeat first
     |(refine hK _ ?_;clear hK K)
     |((first|refine ay (fun K hK=>?_)|refine aB (fun K hK=>?_)|refine au (fun K hK=>?_));simp(disch:=(first|omega|assumption)) only[S1,seval,-Int.reduceToNat,-List.reduceReplicate,a_.sb,a_.mut,bZ,↓Bool.false_eq_true,beq_self_eq_true,ite_self,dK,List.length_nil,q1,q2,h0];refine hK _ ?_;clear hK K)
     |simp only[Sv,↓reduceIte,Nat.reduceEqDiff]
    exact jX (ai @bD @dK)
   ·by_cases ZB:(40:Int)≤((y).length:Int)
    ·have hh:=yN k om IH (y) (x) hy hx om om om;exact jR (ai @ZB (ai @h0 (ai @hsw (ai @bD @dK))))
    ·obtain⟨la,hla⟩:∃la,la=(y).length:=⟨_,rfl⟩;obtain⟨lb,hlb⟩:∃lb,lb=(x).length:=⟨_,rfl⟩;have hs2:=hsw;rw[←hla,←hlb]at hs2;rw[←hla]at h0 ZB;refine aJ (ai (Eq.symm hlb) (ai (Eq.symm hla) (ai @Dj (ai @UD (ai @ZB (ai @h0 (ai @hs2 (ai @bD @dK)))))))) ?_;refine aF [] (Nat×List Nat) (fun s=>⟨[(1,.l 1 (W (x))),(5,.ow 1 0 (la+lb)),(35,.l 1 (W (y))),(36,.i .i64 (la:Int)),(37,.i .i64 (s.1:Int))],
      [(0,some ⟨31,1,W s.2,true,false⟩)],1⟩)
      (fun s=>s.1≤la∧s.2.length=la+lb∧Wd s.2∧nv B s.2=nv B ((y).take s.1)*nv B (x)∧∀k,s.1+lb≤k→s.2.getD k 0=0) (fun s=>la-s.1) (0,List.replicate (la+lb) 0)
      ⟨Nat.zero_le _,sy,uM dc,by rw[qh,List.take_zero,show nv B []=0 from rfl,Nat.zero_mul],fun k hk=>by simp only[List.getD_eq_getElem?_getD,List.getElem?_replicate];split<;>rfl⟩ (by exact mF) (by
      exact jO) ?_
     rintro⟨i,R⟩ ⟨hi,lR,wR,vR,zR⟩ Q' hQ he hr;simp only[]at hi lR wR vR zR ⊢;by_cases hil:(i:Int)<(la:Int)
     ·have hil':i<(y).length:=om;have hw:=dA hy i;refine aJ (ai (Eq.symm hlb) (ai (Eq.symm hla) (ai @hil (ai @bD @dK)))) ?_;refine aF [] (Nat×List Nat×Nat) (fun s=>⟨[(1,.l 1 (W (x))),(5,.ow 1 0 (la+lb)),(35,.l 1 (W (y))),(36,.i .i64 (la:Int)),(37,.i .i64 (i:Int)),(6,.i .i64 (i:Int)),(7,.i .u64 (((y).getD i 0:Nat):Int)),(8,.i .u64 (s.2.2:Int)),(42,.l 1 (W (x))),(43,.i .i64 (lb:Int)),(44,.i .i64 (s.1:Int))],
       [(0,some ⟨31,1,W s.2.1,true,false⟩)],1⟩)
       (fun s=>s.1≤lb∧s.2.1.length=la+lb∧Wd s.2.1∧s.2.2<18446744073709551616∧nv B s.2.1+B^(i+s.1)*s.2.2=nv B ((y).take i)*nv B (x)+B^i*((y).getD i 0*nv B ((x).take s.1))∧∀k,i+lb≤k→s.2.1.getD k 0=0) (fun s=>lb-s.1) (0,R,0)
       ⟨Nat.zero_le _,lR,wR,(show(0:Nat)<18446744073709551616 from dc),by simp only[List.take_zero,show nv B []=0 from rfl,Nat.mul_zero,Nat.add_zero];exact vR,zR⟩ (by exact mF) (by
       exact jO) ?_
      rintro⟨j,S,c⟩ ⟨hj,lS,wS,hc,vS,zS⟩ Q'' hQ' he' hr';simp only[]at hj lS wS hc vS zS ⊢;by_cases hjl:(j:Int)<(lb:Int)
      ·have hjl':j<(x).length:=om;have hx2:=dA hx j;have hs:=dA wS (i+j);have hmw:=tJ ((x).getD j 0) ((y).getD i 0) c (S.getD (i+j) 0) hx2 hw hc hs;have hcl:=zt hx2 hw hc hs;have hst:=G9 (l:=S) (k:=i+j) (w:=(y).getD i 0) (x:=(x).getD j 0) om vS;have htk:=dP (b:=B) (x) j hjl';refine qc (ai (Eq.symm hlb) (ai (Eq.symm hla) (ai @iQ (ai @lS (ai @Dj (ai @hjl (ai @bD @dK))))))) ?_;refine hQ' _ (j+1,S.set (i+j) (((x).getD j 0*(y).getD i 0+c+S.getD (i+j) 0)%18446744073709551616),((x).getD j 0*(y).getD i 0+c+S.getD (i+j) 0)/18446744073709551616)
        ⟨by simp only;omega,by simp only[List.length_set];exact lS,qi wS _ _ (Nat.mod_lt _ dc),hcl,?_,fun k hk=>by simp only;rw[getD_set_ne _ _ _ _ (by first|omega|(simp only at hk;omega))];exact zS k hk⟩ (by simp only;omega) ?_
       ·simp only[];rw[htk,Nat.mul_add,Nat.mul_add,show i+(j+1)=i+j+1 from rfl];rw[show B^i*((y).getD i 0*(B^j*(x).getD j 0))=B^(i+j)*((x).getD j 0*(y).getD i 0)from by rw[Nat.pow_add,Nat.mul_assoc,Nat.mul_left_comm ((y).getD i 0),Nat.mul_comm ((y).getD i 0)]];exact hst
       ·exact jO
      ·obtain rfl:j=lb:=om;have hz:=zS (i+j) (Nat.le_refl _);have hset:=rJ (b:=B) S (i+j) c om;rw[hz,Nat.mul_zero,Nat.add_zero]at hset;rw[show(x).take j=x from by rw[hlb,List.take_length]]at vS;refine aJ (ai (Eq.symm hlb) (ai (Eq.symm hla) (ai @hjl (ai @bD @dK)))) ?_;refine he' _ _ ?_;refine aJ (ai (Eq.symm hlb) (ai (Eq.symm hla) (ai @iQ (ai @lS (ai @Dj (ai @bD @dK)))))) ?_;refine hQ _ (i+1,S.set (i+j) c) ⟨by simp only;omega,by simp only[List.length_set];exact lS,qi wS _ _ hc,?_,fun k hk=>by simp only;rw[getD_set_ne _ _ _ _ (by first|omega|(simp only at hk;omega))];exact zS k (by first|omega|(simp only at hk;omega))⟩ (by simp only;omega) ?_
       ·simp only[];rw[hset,vS,dP (b:=B) (y) i hil',Nat.add_mul,Nat.mul_assoc]
       ·exact jO
     ·obtain rfl:i=la:=om;rw[show(y).take i=y from by rw[hla,List.take_length]]at vR;have htr:=mM R om;rw[yt B2 wR,vR]at htr;refine aJ (ai @hil (ai @bD @dK)) ?_;refine he _ _ ?_;exact jR (ai @bD @dK)
  ·by_cases h0:((x).length:Int)=0
   ·have e:dg B (nv B (x)*nv B (y))=[]:=by rw[show x=[]from List.eq_nil_of_length_eq_zero om,show nv B []=0 from rfl,Nat.zero_mul];rfl
    rw[e];have q1:¬(((y).length:Int)<0):=om;have q2:=q1;repeat first
     |(refine hK _ ?_;clear hK K)
     |((first|refine ay (fun K hK=>?_)|refine aB (fun K hK=>?_)|refine au (fun K hK=>?_));simp(disch:=(first|omega|assumption)) only[S1,seval,-Int.reduceToNat,-List.reduceReplicate,a_.sb,a_.mut,bZ,↓Bool.false_eq_true,beq_self_eq_true,ite_self,dK,List.length_nil,q1,q2,h0];refine hK _ ?_;clear hK K)
     |simp only[Sv,↓reduceIte,Nat.reduceEqDiff]
    exact jX (ai @bD @dK)
   ·by_cases ZB:(40:Int)≤((x).length:Int)
    ·have hh:=yN k om IH (x) (y) hx hy om om om;exact jR (ai @ZB (ai @h0 (ai @hsw (ai @bD @dK))))
    ·obtain⟨la,hla⟩:∃la,la=(x).length:=⟨_,rfl⟩;obtain⟨lb,hlb⟩:∃lb,lb=(y).length:=⟨_,rfl⟩;have hs2:=hsw;rw[←hla,←hlb]at hs2;rw[←hla]at h0 ZB;refine aJ (ai (Eq.symm hlb) (ai (Eq.symm hla) (ai @Dj (ai @UD (ai @ZB (ai @h0 (ai @hs2 (ai @bD @dK)))))))) ?_;refine aF [] (Nat×List Nat) (fun s=>⟨[(1,.l 1 (W (y))),(5,.ow 1 0 (la+lb)),(35,.l 1 (W (x))),(36,.i .i64 (la:Int)),(37,.i .i64 (s.1:Int))],
      [(0,some ⟨31,1,W s.2,true,false⟩)],1⟩)
      (fun s=>s.1≤la∧s.2.length=la+lb∧Wd s.2∧nv B s.2=nv B ((x).take s.1)*nv B (y)∧∀k,s.1+lb≤k→s.2.getD k 0=0) (fun s=>la-s.1) (0,List.replicate (la+lb) 0)
      ⟨Nat.zero_le _,sy,uM dc,by rw[qh,List.take_zero,show nv B []=0 from rfl,Nat.zero_mul],fun k hk=>by simp only[List.getD_eq_getElem?_getD,List.getElem?_replicate];split<;>rfl⟩ (by exact mF) (by
      exact jO) ?_
     rintro⟨i,R⟩ ⟨hi,lR,wR,vR,zR⟩ Q' hQ he hr;simp only[]at hi lR wR vR zR ⊢;by_cases hil:(i:Int)<(la:Int)
     ·have hil':i<(x).length:=om;have hw:=dA hx i;refine aJ (ai (Eq.symm hlb) (ai (Eq.symm hla) (ai @hil (ai @bD @dK)))) ?_;refine aF [] (Nat×List Nat×Nat) (fun s=>⟨[(1,.l 1 (W (y))),(5,.ow 1 0 (la+lb)),(35,.l 1 (W (x))),(36,.i .i64 (la:Int)),(37,.i .i64 (i:Int)),(6,.i .i64 (i:Int)),(7,.i .u64 (((x).getD i 0:Nat):Int)),(8,.i .u64 (s.2.2:Int)),(42,.l 1 (W (y))),(43,.i .i64 (lb:Int)),(44,.i .i64 (s.1:Int))],
       [(0,some ⟨31,1,W s.2.1,true,false⟩)],1⟩)
       (fun s=>s.1≤lb∧s.2.1.length=la+lb∧Wd s.2.1∧s.2.2<18446744073709551616∧nv B s.2.1+B^(i+s.1)*s.2.2=nv B ((x).take i)*nv B (y)+B^i*((x).getD i 0*nv B ((y).take s.1))∧∀k,i+lb≤k→s.2.1.getD k 0=0) (fun s=>lb-s.1) (0,R,0)
       ⟨Nat.zero_le _,lR,wR,(show(0:Nat)<18446744073709551616 from dc),by simp only[List.take_zero,show nv B []=0 from rfl,Nat.mul_zero,Nat.add_zero];exact vR,zR⟩ (by exact mF) (by
       exact jO) ?_
      rintro⟨j,S,c⟩ ⟨hj,lS,wS,hc,vS,zS⟩ Q'' hQ' he' hr';simp only[]at hj lS wS hc vS zS ⊢;by_cases hjl:(j:Int)<(lb:Int)
      ·have hjl':j<(y).length:=om;have hx2:=dA hy j;have hs:=dA wS (i+j);have hmw:=tJ ((y).getD j 0) ((x).getD i 0) c (S.getD (i+j) 0) hx2 hw hc hs;have hcl:=zt hx2 hw hc hs;have hst:=G9 (l:=S) (k:=i+j) (w:=(x).getD i 0) (x:=(y).getD j 0) om vS;have htk:=dP (b:=B) (y) j hjl';refine qc (ai (Eq.symm hlb) (ai (Eq.symm hla) (ai @iQ (ai @lS (ai @Dj (ai @hjl (ai @bD @dK))))))) ?_;refine hQ' _ (j+1,S.set (i+j) (((y).getD j 0*(x).getD i 0+c+S.getD (i+j) 0)%18446744073709551616),((y).getD j 0*(x).getD i 0+c+S.getD (i+j) 0)/18446744073709551616)
        ⟨by simp only;omega,by simp only[List.length_set];exact lS,qi wS _ _ (Nat.mod_lt _ dc),hcl,?_,fun k hk=>by simp only;rw[getD_set_ne _ _ _ _ (by first|omega|(simp only at hk;omega))];exact zS k hk⟩ (by simp only;omega) ?_
       ·simp only[];rw[htk,Nat.mul_add,Nat.mul_add,show i+(j+1)=i+j+1 from rfl];rw[show B^i*((x).getD i 0*(B^j*(y).getD j 0))=B^(i+j)*((y).getD j 0*(x).getD i 0)from by rw[Nat.pow_add,Nat.mul_assoc,Nat.mul_left_comm ((x).getD i 0),Nat.mul_comm ((x).getD i 0)]];exact hst
       ·exact jO
      ·obtain rfl:j=lb:=om;have hz:=zS (i+j) (Nat.le_refl _);have hset:=rJ (b:=B) S (i+j) c om;rw[hz,Nat.mul_zero,Nat.add_zero]at hset;rw[show(y).take j=y from by rw[hlb,List.take_length]]at vS;refine aJ (ai (Eq.symm hlb) (ai (Eq.symm hla) (ai @hjl (ai @bD @dK)))) ?_;refine he' _ _ ?_;refine aJ (ai (Eq.symm hlb) (ai (Eq.symm hla) (ai @iQ (ai @lS (ai @Dj (ai @bD @dK)))))) ?_;refine hQ _ (i+1,S.set (i+j) c) ⟨by simp only;omega,by simp only[List.length_set];exact lS,qi wS _ _ hc,?_,fun k hk=>by simp only;rw[getD_set_ne _ _ _ _ (by first|omega|(simp only at hk;omega))];exact zS k (by first|omega|(simp only at hk;omega))⟩ (by simp only;omega) ?_
       ·simp only[];rw[hset,vS,dP (b:=B) (x) i hil',Nat.add_mul,Nat.mul_assoc]
       ·exact jO
     ·obtain rfl:i=la:=om;rw[show(x).take i=x from by rw[hla,List.take_length]]at vR;have htr:=mM R om;rw[yt B2 wR,vR]at htr;refine aJ (ai @hil (ai @bD @dK)) ?_;refine he _ _ ?_;exact jR (ai @bD @dK)
theorem He(x y:List Nat)(hx:Wd x)(hy:Wd y)(lx:x.length≤100000000)(ly:y.length≤100000000):ah Tryz.prog J0 138 [.l 1 (W x),.l 1 (W y)] (.o 31 1 (W (dg B (nv B x*nv B y)))):=
 G_ 100000000 (Nat.le_refl _) x y hx hy lx ly
theorem XL(x y:List Nat)(hx:Wd x)(hy:Wd y)(lx:x.length≤100000000)(ly:y.length≤100000000):ah Tryz.prog J0 112 [.l 1 (W x),.l 1 (W y)] (.o 31 1 (W (dg B (nv B x*nv B y)))):=by
 have n1:=lV x hx om;have n2:=lV y hy om;have h:=He (dg B (nv B x)) (dg B (nv B y)) (az _) (az _) (Nat.le_trans (xx B2 (bY hx)) lx) (Nat.le_trans (xx B2 (bY hy)) ly);simp only[aS]at h;refine d_ aX bV Tryz.func112 ?_;exact jR (ai @bD @dK)
