import Derived.Test.YtoehbmlfnjlchaaGreatDoorGG
set_option linter.all false
set_option maxHeartbeats 10000000
namespace Go.Proofs.YtoehbmlfnjlchaaGreatDoor
open Go Go.RowKit Ab
theorem zK{b:Nat}:∀(l:List Nat) (i x:Nat),i<l.length→nv b (l.set i x)+b^i*l.getD i 0=nv b l+b^i*x
 |[],i,x,h=>by simp at h
 |y::l,0,x,h=>by
  show nv b (x::l)+b^0*y=nv b (y::l)+b^0*x;rw[pz,pz,Nat.pow_zero];omega
 |y::l,i+1,x,h=>by
  have ih:=zK (b:=b) l i x (by simpa using h);show nv b (y::l.set i x)+b^(i+1)*l.getD i 0=nv b (y::l)+b^(i+1)*x;rw[pz,pz,Nat.pow_succ,Nat.mul_comm (b^i) b,Nat.mul_assoc,Nat.mul_assoc];have:=congrArg (b*·) ih;simp only[Nat.mul_add]at this;omega
theorem getD_set_ne(l:List Nat)(i j x:Nat)(h:i≠j):(l.set i x).getD j 0=l.getD j 0:=by
 rw[List.getD_eq_getElem?_getD,List.getD_eq_getElem?_getD,List.getElem?_set_ne h]
theorem EK{S T c k w x:Nat}{l:List Nat}(hk:k<l.length)(hR:nv B l+B^k*c=S+T):
 nv B (l.set k ((x*w+c+l.getD k 0)%B))+B^(k+1)*((x*w+c+l.getD k 0)/B)=S+(T+B^k*(x*w)):=by
 have h1:=zK (b:=B) l k ((x*w+c+l.getD k 0)%B) hk
 have h2:=Nat.mod_add_div (x*w+c+l.getD k 0) B
 have h3:B^k*((x*w+c+l.getD k 0)%B)+B^(k+1)*((x*w+c+l.getD k 0)/B)=B^k*(x*w)+B^k*c+B^k*l.getD k 0:=by
  rw[Nat.pow_succ,Nat.mul_assoc,←Nat.mul_add,h2,Nat.mul_add,Nat.mul_add]
 omega
theorem kar{n a1 a0 b1 b0:Nat}:(a0+B^n*a1)*(b0+B^n*b1)=a1*b1*B^(2*n)+((a1+a0)*(b1+b0)-(a1*b1+a0*b0))*B^n+a0*b0∧a1*b1+a0*b0≤(a1+a0)*(b1+b0):=by
 have e:(a1+a0)*(b1+b0)=a1*b1+a0*b0+(a1*b0+a0*b1):=by rw[Nat.add_mul,Nat.mul_add,Nat.mul_add];omega
 refine⟨?_,om⟩;rw[e,Nat.add_sub_cancel_left,Nat.two_mul,Nat.pow_add];generalize B^n=P;rw[Nat.add_mul,Nat.mul_add,Nat.mul_add,Nat.add_mul (a1*b0)];have h1:P*a1*(P*b1)=a1*b1*(P*P):=by rw[Nat.mul_comm P a1,Nat.mul_mul_mul_comm,Nat.mul_comm P b1,←Nat.mul_assoc,←Nat.mul_assoc,Nat.mul_right_comm a1 P b1,Nat.mul_assoc (a1*b1)]
 have h2:P*a1*b0=a1*b0*P:=by rw[Nat.mul_comm P a1,Nat.mul_right_comm]
 have h3:a0*(P*b1)=a0*b1*P:=by rw[Nat.mul_comm P b1,←Nat.mul_assoc]
 rw[h1,h2,h3];omega
def dN:=an @wi (an @bI (an @Nat.div_one (an @Nat.mul_one (an @aU (an @gU (an @gQ (an @fK @dD)))))))
theorem Ri(n:Nat):(List.replicate n [V.i .u64 0]).flatten=W (List.replicate n 0):=Eh n
theorem BA(a b:Nat):((a:Int)+(b:Int)).toNat=a+b:=om
theorem mn'(a b:Nat):min (a:Int) (b:Int)=((min a b:Nat):Int):=om
def a110:AC:= .seq (.reg [qr 4 (.mv (.k .nl)),qr 5 (.mv (.k .nl))]) (.seq (.reg [qm 6 1,qm 7 0,qr 8 (.len (.t 7)),qr 9 (.mm false (.t 6) (.t 8)),qm 1 9]) (.seq (.gp [qm 10 0,qm 11 1,qr 12 (.sub 1 (.t 10) (some (.t 11)) none),qr 13 (.call 44 [(1,(.t 12))]),qm 14 0,qm 15 1,qr 16 (.sub 1 (.t 14) none (some (.t 15))),qr 17 (.call 44 [(1,(.t 16))]),qm 4 13,qm 5 17]) (.ret)))
theorem BB(a:List Nat)(n:Nat)(ha:Wd a)(la:a.length≤1000000000):aF Tryz.prog J0 110 [.l 1 (W a),.i .i64 (n:Int)] (.t [.l 1 (W (dg B (nv B a/B^n))),.l 1 (W (dg B (nv B a%B^n)))]):=by
 have e1:nv B (a.drop (min n a.length))=nv B a/B^n:=by
  rcases Nat.le_total n a.length with h|h
  ·rw[Nat.min_eq_left h,G5 dc ha]
  ·rw[Nat.min_eq_right h,List.drop_length,Nat.div_eq_of_lt (Nat.lt_of_lt_of_le (b_ ha) (Nat.pow_le_pow_right dc h))];rfl
 have e2:nv B (a.take (min n a.length))=nv B a%B^n:=by
  rcases Nat.le_total n a.length with h|h
  ·rw[Nat.min_eq_left h,Qb dc ha]
  ·rw[Nat.min_eq_right h,List.take_length,Nat.mod_eq_of_lt (Nat.lt_of_lt_of_le (b_ ha) (Nat.pow_le_pow_right dc h))]
 have hml:min n a.length≤a.length:=Nat.min_le_right _ _;generalize hm:min n a.length=m at e1 e2 hml;have h1:=jl (a.drop m) (Vk ha _) (by rw[List.length_drop];omega);have h2:=jl (a.take m) (Vj ha _) (by rw[List.length_take];omega);rw[e1]at h1;rw[e2]at h2;refine ja dB eY Tryz.func110 a110 ?_;unfold a110;simp only[ak,aH,qm,qr,qn];exact tC (ai @mJ (ai @yQ (ai @hm (ai @mn' (ai @aW @dN)))))
def lf(v n:Nat):List Nat:=if v=0 then[]else List.replicate n 0++dg B v
theorem XC(v n:Nat):nv B (lf v n)=v*B^n:=by
 unfold lf;split
 ·rename_i h;rw[h,Nat.zero_mul];rfl
 ·rw[mr,tH,List.length_replicate,dE,Nat.zero_add,Nat.mul_comm]
theorem XD(v n:Nat):Wd (lf v n):=by
 unfold lf;split
 ·exact Ce
 ·exact PT (yP dc) (bF v)
theorem Rj{v n m:Nat}(h:v<B^m):(lf v n).length≤n+m:=by
 unfold lf;split
 ·exact Nat.zero_le _
 ·rw[List.length_append,List.length_replicate];have:=dS h;omega
def a111:AC:= .seq (.reg [qr 4 (.mv (.k .nl))]) (.seq (.seq (.reg [qm 5 0,qr 6 (.len (.t 5)),qr 7 (.bin .eql (.t 6) (.k (.i .i64 0)))]) (.cond (.t 7) (.seq (.reg [qr 4 (.mv (.k .nl))]) (.ret)) (.skip))) (.seq (.reg [qm 8 1,qr 9 (.mk 54 1 8 [(.i .u64 0)] (.t 8) (.t 8)),qm 10 0,qr 11 (.app 54 1 8 (.t 9) (.t 10)),qm 4 11]) (.ret)))
theorem BC(v n:Nat)(hn:n≤1000000000)(hl:(dg B v).length≤1000000000):aF Tryz.prog J0 111 [.l 1 (W (dg B v)),.i .i64 (n:Int)] (.l 1 (W (lf v n))):=by
 have hd0:(((dg B v).length:Int)=0)=(v=0):=propext ⟨fun h=>(tJ B2).1 (List.eq_nil_of_length_eq_zero om),fun h=>by rw[h];rfl⟩;refine ja dB eY Tryz.func111 a111 ?_;unfold a111;simp only[ak,aH,qm,qr,qn];by_cases h0:v=0
 ·subst h0;rw[show lf 0 n=[]from rfl];rw[iq];exact Tu (ai @aW @dN)
 ·rw[show lf v n=List.replicate n 0++dg B v from if_neg h0];repeat first
   |(refine hK _ ?_;clear hK K)
   |((first|refine aI (fun K hK=>?_)|refine aT (fun K hK=>?_)|refine aK (fun K hK=>?_));simp(disch:=(first|omega|assumption)) only[S1,↓reduceIte,Nat.reduceEqDiff,Nat.reduceAdd,Nat.reduceMul,Nat.reduceDiv,bY.sb,bY.mut,dH,↓Bool.false_eq_true,beq_self_eq_true,ite_self,Nat.reduceLeDiff,Int.reduceEq,Int.reduceSub,Int.reduceAdd,Int.reduceNeg,Int.reduceLT,Int.reduceLE,Nat.reduceLT,dN,List.length_nil,hd0,h0,Ri,yR,List.length_replicate];refine hK _ ?_;clear hK K)
   |simp only[Sv,↓reduceIte,Nat.reduceEqDiff]
  exact oC (ai @aW @dN)
def a92:AC:= .seq (.reg [qr 4 (.mv (.k .nl))]) (.seq (.reg [qm 14 1,qr 15 (.len (.t 14)),qr 16 (.bin .add (.t 15) (.k (.i .i64 1))),qr 17 (.bin .quo (.t 16) (.k (.i .i64 2))),qm 5 17]) (.seq (.reg [qm 19 0,qm 20 5,qr 21 (.call 110 [(1,(.t 19)),(1,(.t 20))]),qm 18 21,qr 22 (.ext (.t 18) 0),qr 23 (.ext (.t 18) 1),qm 6 22,qm 7 23]) (.seq (.reg [qm 25 1,qm 26 5,qr 27 (.call 110 [(1,(.t 25)),(1,(.t 26))]),qm 24 27,qr 28 (.ext (.t 24) 0),qr 29 (.ext (.t 24) 1),qm 8 28,qm 9 29]) (.seq (.reg [qm 30 6,qm 31 8,qr 32 (.call 69 [(1,(.t 30)),(1,(.t 31))]),qm 33 7,qm 34 9,qr 35 (.call 69 [(1,(.t 33)),(1,(.t 34))]),qm 10 32,qm 11 35]) (.seq (.reg [qm 37 6,qm 38 7,qr 39 (.call 41 [(1,(.t 37)),(1,(.t 38))]),qm 40 8,qm 41 9,qr 42 (.call 41 [(1,(.t 40)),(1,(.t 41))]),qr 43 (.call 69 [(1,(.t 39)),(1,(.t 42))]),qm 44 10,qm 45 11,qr 46 (.call 41 [(1,(.t 44)),(1,(.t 45))]),qr 47 (.call 68 [(1,(.t 43)),(1,(.t 46))]),qm 36 47,qr 48 (.ext (.t 36) 0),qr 49 (.ext (.t 36) 1),qm 12 48,qm 13 49]) (.seq (.reg [qm 50 10,qm 51 5,qr 52 (.bin .mul (.k (.i .i64 2)) (.t 51)),qr 53 (.call 111 [(1,(.t 50)),(1,(.t 52))]),qm 54 12,qm 55 5,qr 56 (.call 111 [(1,(.t 54)),(1,(.t 55))]),qr 57 (.call 41 [(1,(.t 53)),(1,(.t 56))]),qm 58 11,qr 59 (.call 41 [(1,(.t 57)),(1,(.t 58))]),qm 4 59]) (.ret)))))))
theorem xm(k:Nat)(hk:k≤100000000)
 (IH:∀x y:List Nat,Wd x→Wd y→x.length≤k→y.length≤k→aF Tryz.prog J0 69 [.l 1 (W x),.l 1 (W y)] (.l 1 (W (dg B (nv B x*nv B y)))))
 (a b:List Nat) (ha:Wd a) (hb:Wd b) (hab:a.length≤b.length) (XE:40≤b.length) (lb:b.length≤k+1):
 aF Tryz.prog J0 92 [.l 1 (W a),.l 1 (W b)] (.o 54 1 (W (dg B (nv B a*nv B b)))):=by
 obtain⟨n,hn⟩:∃n,n=(b.length+1)/2:=⟨_,rfl⟩
 have hni:((b.length:Int)+1).tdiv 2=(n:Int):=by rw[hn];exact rfl
 have ha2:nv B a<B^(n+n):=G8 ha om
 have hb2:nv B b<B^(n+n):=G8 hb om
 rw[Nat.pow_add]at ha2 hb2
 have hP:0<B^n:=Nat.pow_pos dc
 have a1:nv B a/B^n<B^n:=(Nat.div_lt_iff_lt_mul hP).2 ha2
 have b1:nv B b/B^n<B^n:=(Nat.div_lt_iff_lt_mul hP).2 hb2
 have a0:nv B a%B^n<B^n:=Nat.mod_lt _ hP
 have b0:nv B b%B^n<B^n:=Nat.mod_lt _ hP
 have hca:=BB a n ha om
 have hcb:=BB b n hb om
 obtain⟨kar1,kar2⟩:=kar (n:=n) (a1:=nv B a/B^n) (a0:=nv B a%B^n) (b1:=nv B b/B^n) (b0:=nv B b%B^n)
 rw[Nat.mod_add_div,Nat.mod_add_div]at kar1
 rw[kar1]
 generalize nv B a/B^n=A1 at*
 generalize nv B a%B^n=A0 at*
 generalize nv B b/B^n=B1 at*
 generalize nv B b%B^n=B0 at*
 have CZ:=dS a1
 have la0:=dS a0
 have lb1:=dS b1
 have lb0:=dS b0
 have sa:=Qa a1 a0
 have sb:=Qa b1 b0
 have lsa:=dS sa
 have lsb:=dS sb
 have hi:=IH (dg B A1) (dg B B1) (bF _) (bF _) om om
 have lo:=IH (dg B A0) (dg B B0) (bF _) (bF _) om om
 have ada:=mO (dg B A1) (dg B A0) (bF _) (bF _) om om
 have adb:=mO (dg B B1) (dg B B0) (bF _) (bF _) om om
 have mi:=IH (dg B (A1+A0)) (dg B (B1+B0)) (bF _) (bF _) om om
 simp only[dE]at hi lo ada adb mi
 have phi:A1*B1<B^(n+n):=by rw[Nat.pow_add];exact Nat.mul_lt_mul_of_lt_of_lt a1 b1
 have plo:A0*B0<B^(n+n):=by rw[Nat.pow_add];exact Nat.mul_lt_mul_of_lt_of_lt a0 b0
 have pmi:(A1+A0)*(B1+B0)<B^(n+1+(n+1)):=by rw[Nat.pow_add B (n+1)];exact Nat.mul_lt_mul_of_lt_of_lt sa sb
 have lhi:=dS phi
 have llo:=dS plo
 have lmi:=dS pmi
 have phl:=Qa phi plo
 have lhl:=dS phl
 have adh:=mO (dg B (A1*B1)) (dg B (A0*B0)) (bF _) (bF _) om om
 have sbm:=P7 (dg B ((A1+A0)*(B1+B0))) (dg B (A1*B1+A0*B0)) (bF _) (bF _) om om
 simp only[dE]at adh sbm
 rw[if_neg (Nat.not_lt.2 kar2),if_neg (Nat.not_lt.2 kar2)]at sbm
 have pmd:(A1+A0)*(B1+B0)-(A1*B1+A0*B0)<B^(n+1+(n+1)):=Nat.lt_of_le_of_lt (Nat.sub_le _ _) pmi
 generalize (A1+A0)*(B1+B0)-(A1*B1+A0*B0)=M at*
 have lmd:=dS pmd
 have lh:=BC (A1*B1) (2*n) om om
 have lm:=BC M n om om
 have llh:=Rj (n:=2*n) phi
 have llm:=Rj (n:=n) pmd
 have ad1:=mO (lf (A1*B1) (2*n)) (lf M n) (XD _ _) (XD _ _) om om
 rw[XC,XC]at ad1
 have l1:(dg B (A1*B1*B^(2*n)+M*B^n)).length≤4*n+10:=by
  have q1:A1*B1*B^(2*n)<B^(4*n+9):=by
   have:=Nat.mul_lt_mul_of_pos_right phi (Nat.pow_pos (n:=2*n) (by decide:0<B));rw[←Nat.pow_add]at this;exact pup this om
  have q2:M*B^n<B^(4*n+9):=by
   have:=Nat.mul_lt_mul_of_pos_right pmd hP;rw[←Nat.pow_add]at this;exact pup this om
  exact dS (Qa q1 q2)
 have ad2:=mO (dg B (A1*B1*B^(2*n)+M*B^n)) (dg B (A0*B0)) (bF _) (bF _) om om
 simp only[dE]at ad2
 have h2n:(2:Int)*(n:Int)=((2*n:Nat):Int):=om
 have h20:¬(2:Int)=0:=dc
 refine ja dB eY Tryz.func92 a92 ?_
 unfold a92
 simp only[ak,aH,qm,qr,qn]
 exact tC (ai @h2n (ai @Int.natCast_zero (ai @h20 (ai @hni (ai @aW @dN)))))
def a69:AC:= .seq (.reg [qr 4 (.mv (.k .nl))]) (.seq (.seq (.reg [qm 11 0,qr 12 (.len (.t 11)),qm 13 1,qr 14 (.len (.t 13)),qr 15 (.bin .gtr (.t 12) (.t 14))]) (.cond (.t 15) (.reg [qm 16 1,qm 17 0,qm 0 16,qm 1 17]) (.skip))) (.seq (.blk 0 (.seq (.reg [qm 19 0,qr 20 (.len (.t 19)),qr 21 (.bin .eql (.t 20) (.k (.i .i64 0))),qm 18 21]) (.cond (.t 18) (.seq (.reg [qr 4 (.mv (.k .nl))]) (.ret)) (.seq (.reg [qm 23 0,qr 24 (.len (.t 23)),qr 25 (.bin .geq (.t 24) (.k (.i .i64 40))),qm 22 25]) (.cond (.t 22) (.seq (.reg [qm 26 0,qm 27 1,qr 28 (.call 92 [(1,(.t 26)),(1,(.t 27))]),qm 4 28]) (.ret)) (.skip)))))) (.seq (.reg [qm 29 0,qr 30 (.len (.t 29)),qm 31 1,qr 32 (.len (.t 31)),qr 33 (.bin .add (.t 30) (.t 32)),qr 34 (.mk 54 1 8 [(.i .u64 0)] (.t 33) (.t 33)),qm 5 34]) (.seq (.seq (.reg [qm 35 0,qr 36 (.len (.t 35)),qr 37 (.mv (.k (.i .i64 0)))]) (.blk 1 (.loop (.seq (.reg [qr 38 (.bin .lss (.t 37) (.t 36))]) (.seq (.cond (.t 38) (.skip) (.exit 1)) (.seq (.blk 2 (.seq (.reg [qm 39 37,qr 40 (.idx 1 (.t 35) (.t 37)),qr 41 (.ld false 1 (.t 40)),qm 6 39,qm 7 41]) (.seq (.reg [qr 8 (.mv (.k (.i .u64 0)))]) (.seq (.seq (.reg [qm 42 1,qr 43 (.len (.t 42)),qr 44 (.mv (.k (.i .i64 0)))]) (.blk 3 (.loop (.seq (.reg [qr 45 (.bin .lss (.t 44) (.t 43))]) (.seq (.cond (.t 45) (.skip) (.exit 3)) (.seq (.blk 4 (.seq (.reg [qm 46 44,qr 47 (.idx 1 (.t 42) (.t 44)),qr 48 (.ld false 1 (.t 47)),qm 9 46,qm 10 48]) (.reg [qm 50 5,qm 51 6,qm 52 9,qr 53 (.bin .add (.t 51) (.t 52)),qm 54 10,qm 55 7,qm 56 8,qm 57 5,qm 58 6,qm 59 9,qr 60 (.bin .add (.t 58) (.t 59)),qr 61 (.idx 1 (.t 57) (.t 60)),qr 62 (.ld false 1 (.t 61)),qr 63 (.call 93 [(1,(.t 54)),(1,(.t 55)),(1,(.t 56)),(1,(.t 62))]),qm 49 63,qr 64 (.ext (.t 49) 0),qr 65 (.ext (.t 49) 1),qm 8 64,qr 66 (.idx 1 (.t 50) (.t 53)),qn (.st 1 (.t 66) (.t 65))]))) (.reg [qr 67 (.bin .add (.t 44) (.k (.i .i64 1))),qm 44 67]))))))) (.reg [qm 68 5,qm 69 6,qm 70 1,qr 71 (.len (.t 70)),qr 72 (.bin .add (.t 69) (.t 71)),qm 73 8,qr 74 (.idx 1 (.t 68) (.t 72)),qn (.st 1 (.t 74) (.t 73))]))))) (.reg [qr 75 (.bin .add (.t 37) (.k (.i .i64 1))),qm 37 75]))))))) (.seq (.reg [qm 76 5,qr 77 (.call 74 [(1,(.t 76))]),qm 4 77]) (.ret))))))
theorem EL(k:Nat)(hk:k≤100000000):∀x y:List Nat,Wd x→Wd y→x.length≤k→y.length≤k→aF Tryz.prog J0 69 [.l 1 (W x),.l 1 (W y)] (.o 54 1 (W (dg B (nv B x*nv B y)))):=by
 induction k with
 |zero=>
  intro x y hx hy lx ly;have hx0:x=[]:=List.eq_nil_of_length_eq_zero om;have hy0:y=[]:=List.eq_nil_of_length_eq_zero om;subst hx0;subst hy0;rw[show nv B []*nv B []=0 from rfl,iq];refine ja dB eY Tryz.func69 a69 ?_;unfold a69;simp only[ak,aH,qm,qr,qn];refine aP (ai @aW @dN) ?_;exact oC (ai @aW @dN)
 |succ k ih=>
  have IH:=fun x y a b c d=>(ih om x y a b c d).frozen
  intro x y hx hy lx ly;refine ja dB eY Tryz.func69 a69 ?_;unfold a69;simp only[ak,aH,qm,qr,qn];by_cases hsw:(y.length:Int)<(x.length:Int)
  ·rw[Nat.mul_comm];by_cases h0:((y).length:Int)=0
   ·have e:dg B (nv B (y)*nv B (x))=[]:=by rw[show y=[]from List.eq_nil_of_length_eq_zero om,show nv B []=0 from rfl,Nat.zero_mul];rfl
    rw[e];have q1:¬(((x).length:Int)<0):=om;have q2:=(show(0:Int)<(x.length:Int) by omega);repeat first
     |(refine hK _ ?_;clear hK K)
     |((first|refine aI (fun K hK=>?_)|refine aT (fun K hK=>?_)|refine aK (fun K hK=>?_));simp(disch:=(first|omega|assumption)) only[S1,↓reduceIte,Nat.reduceEqDiff,Nat.reduceAdd,Nat.reduceMul,Nat.reduceDiv,bY.sb,bY.mut,dH,↓Bool.false_eq_true,beq_self_eq_true,ite_self,Nat.reduceLeDiff,Int.reduceEq,Int.reduceSub,Int.reduceAdd,Int.reduceNeg,Int.reduceLT,Int.reduceLE,Nat.reduceLT,dN,List.length_nil,q1,q2,h0];refine hK _ ?_;clear hK K)
     |simp only[Sv,↓reduceIte,Nat.reduceEqDiff]
    exact oC (ai @aW @dN)
   ·by_cases XE:(40:Int)≤((y).length:Int)
    ·have hh:=xm k om IH (y) (x) hy hx om om om;exact tC (ai @XE (ai @h0 (ai @hsw (ai @aW @dN))))
    ·obtain⟨la,hla⟩:∃la,la=(y).length:=⟨_,rfl⟩;obtain⟨lb,hlb⟩:∃lb,lb=(x).length:=⟨_,rfl⟩;have hs2:=hsw;rw[←hla,←hlb]at hs2;rw[←hla]at h0 XE;refine aP (ai (Eq.symm hlb) (ai (Eq.symm hla) (ai @BA (ai @Ri (ai @XE (ai @h0 (ai @hs2 (ai @aW @dN)))))))) ?_;refine bD [] (Nat×List Nat) (fun s=>⟨[(1,.l 1 (W (x))),(5,.ow 1 0 (la+lb)),(35,.l 1 (W (y))),(36,.i .i64 (la:Int)),(37,.i .i64 (s.1:Int))],
      [(0,some ⟨54,1,W s.2,true,false⟩)],1⟩)
      (fun s=>s.1≤la∧s.2.length=la+lb∧Wd s.2∧nv B s.2=nv B ((y).take s.1)*nv B (x)∧∀k,s.1+lb≤k→s.2.getD k 0=0) (fun s=>la-s.1) (0,List.replicate (la+lb) 0)
      ⟨Nat.zero_le _,sy,yP dc,by rw[tH,List.take_zero,show nv B []=0 from rfl,Nat.zero_mul],fun k hk=>by simp only[List.getD_eq_getElem?_getD,List.getElem?_replicate];split<;>rfl⟩ (by exact ni) (by
      exact qj) ?_
     rintro⟨i,R⟩ ⟨hi,lR,wR,vR,zR⟩ Q' hQ he hr;simp only[]at hi lR wR vR zR ⊢;by_cases hil:(i:Int)<(la:Int)
     ·have hil':i<(y).length:=om;have hw:=dI hy i;refine aP (ai (Eq.symm hlb) (ai (Eq.symm hla) (ai @hil (ai @aW @dN)))) ?_;refine bD [] (Nat×List Nat×Nat) (fun s=>⟨[(1,.l 1 (W (x))),(5,.ow 1 0 (la+lb)),(35,.l 1 (W (y))),(36,.i .i64 (la:Int)),(37,.i .i64 (i:Int)),(6,.i .i64 (i:Int)),(7,.i .u64 (((y).getD i 0:Nat):Int)),(8,.i .u64 (s.2.2:Int)),(42,.l 1 (W (x))),(43,.i .i64 (lb:Int)),(44,.i .i64 (s.1:Int))],
       [(0,some ⟨54,1,W s.2.1,true,false⟩)],1⟩)
       (fun s=>s.1≤lb∧s.2.1.length=la+lb∧Wd s.2.1∧s.2.2<18446744073709551616∧nv B s.2.1+B^(i+s.1)*s.2.2=nv B ((y).take i)*nv B (x)+B^i*((y).getD i 0*nv B ((x).take s.1))∧∀k,i+lb≤k→s.2.1.getD k 0=0) (fun s=>lb-s.1) (0,R,0)
       ⟨Nat.zero_le _,lR,wR,(show(0:Nat)<18446744073709551616 from dc),by simp only[List.take_zero,show nv B []=0 from rfl,Nat.mul_zero,Nat.add_zero];exact vR,zR⟩ (by exact ni) (by
       exact qj) ?_
      rintro⟨j,S,c⟩ ⟨hj,lS,wS,hc,vS,zS⟩ Q'' hQ' he' hr';simp only[]at hj lS wS hc vS zS ⊢;by_cases hjl:(j:Int)<(lb:Int)
      ·have hjl':j<(x).length:=om;have hx2:=dI hx j;have hs:=dI wS (i+j);have hmw:=wG ((x).getD j 0) ((y).getD i 0) c (S.getD (i+j) 0) hx2 hw hc hs;have hcl:=xU hx2 hw hc hs;have hst:=EK (l:=S) (k:=i+j) (w:=(y).getD i 0) (x:=(x).getD j 0) om vS;have htk:=fJ (b:=B) (x) j hjl';refine tu (ai (Eq.symm hlb) (ai (Eq.symm hla) (ai @je (ai @lS (ai @BA (ai @hjl (ai @aW @dN))))))) ?_;refine hQ' _ (j+1,S.set (i+j) (((x).getD j 0*(y).getD i 0+c+S.getD (i+j) 0)%18446744073709551616),((x).getD j 0*(y).getD i 0+c+S.getD (i+j) 0)/18446744073709551616)
        ⟨by simp only;omega,by simp only[List.length_set];exact lS,B_ wS _ _ (Nat.mod_lt _ dc),hcl,?_,fun k hk=>by simp only;rw[getD_set_ne _ _ _ _ (by first|omega|(simp only at hk;omega))];exact zS k hk⟩ (by simp only;omega) ?_
       ·simp only[];rw[htk,Nat.mul_add,Nat.mul_add,show i+(j+1)=i+j+1 from rfl];rw[show B^i*((y).getD i 0*(B^j*(x).getD j 0))=B^(i+j)*((x).getD j 0*(y).getD i 0)from by rw[Nat.pow_add,Nat.mul_assoc,Nat.mul_left_comm ((y).getD i 0),Nat.mul_comm ((y).getD i 0)]];exact hst
       ·refine iP trivial ?_;repeat' first|rfl|omega|(simp only[List.length_append,List.length_cons,List.length_nil];done)|apply And.intro
      ·obtain rfl:j=lb:=om;have hz:=zS (i+j) (Nat.le_refl _);have hset:=zK (b:=B) S (i+j) c om;rw[hz,Nat.mul_zero,Nat.add_zero]at hset;rw[show(x).take j=x from by rw[hlb,List.take_length]]at vS;refine aP (ai (Eq.symm hlb) (ai (Eq.symm hla) (ai @hjl (ai @aW @dN)))) ?_;refine he' _ _ ?_;refine aP (ai (Eq.symm hlb) (ai (Eq.symm hla) (ai @je (ai @lS (ai @BA (ai @aW @dN)))))) ?_;refine hQ _ (i+1,S.set (i+j) c) ⟨by simp only;omega,by simp only[List.length_set];exact lS,B_ wS _ _ hc,?_,fun k hk=>by simp only;rw[getD_set_ne _ _ _ _ (by first|omega|(simp only at hk;omega))];exact zS k (by first|omega|(simp only at hk;omega))⟩ (by simp only;omega) ?_
       ·simp only[];rw[hset,vS,fJ (b:=B) (y) i hil',Nat.add_mul,Nat.mul_assoc]
       ·refine iP trivial ?_;repeat' first|rfl|omega|(simp only[List.length_append,List.length_cons,List.length_nil];done)|apply And.intro
     ·obtain rfl:i=la:=om;rw[show(y).take i=y from by rw[hla,List.take_length]]at vR;have htr:=oH R om;rw[AA B2 wR,vR]at htr;refine aP (ai @hil (ai @aW @dN)) ?_;refine he _ _ ?_;exact tC (ai @aW @dN)
  ·by_cases h0:((x).length:Int)=0
   ·have e:dg B (nv B (x)*nv B (y))=[]:=by rw[show x=[]from List.eq_nil_of_length_eq_zero om,show nv B []=0 from rfl,Nat.zero_mul];rfl
    rw[e];have q1:¬(((y).length:Int)<0):=om;have q2:=q1;repeat first
     |(refine hK _ ?_;clear hK K)
     |((first|refine aI (fun K hK=>?_)|refine aT (fun K hK=>?_)|refine aK (fun K hK=>?_));simp(disch:=(first|omega|assumption)) only[S1,↓reduceIte,Nat.reduceEqDiff,Nat.reduceAdd,Nat.reduceMul,Nat.reduceDiv,bY.sb,bY.mut,dH,↓Bool.false_eq_true,beq_self_eq_true,ite_self,Nat.reduceLeDiff,Int.reduceEq,Int.reduceSub,Int.reduceAdd,Int.reduceNeg,Int.reduceLT,Int.reduceLE,Nat.reduceLT,dN,List.length_nil,q1,q2,h0];refine hK _ ?_;clear hK K)
     |simp only[Sv,↓reduceIte,Nat.reduceEqDiff]
    exact oC (ai @aW @dN)
   ·by_cases XE:(40:Int)≤((x).length:Int)
    ·have hh:=xm k om IH (x) (y) hx hy om om om;exact tC (ai @XE (ai @h0 (ai @hsw (ai @aW @dN))))
    ·obtain⟨la,hla⟩:∃la,la=(x).length:=⟨_,rfl⟩;obtain⟨lb,hlb⟩:∃lb,lb=(y).length:=⟨_,rfl⟩;have hs2:=hsw;rw[←hla,←hlb]at hs2;rw[←hla]at h0 XE;refine aP (ai (Eq.symm hlb) (ai (Eq.symm hla) (ai @BA (ai @Ri (ai @XE (ai @h0 (ai @hs2 (ai @aW @dN)))))))) ?_;refine bD [] (Nat×List Nat) (fun s=>⟨[(1,.l 1 (W (y))),(5,.ow 1 0 (la+lb)),(35,.l 1 (W (x))),(36,.i .i64 (la:Int)),(37,.i .i64 (s.1:Int))],
      [(0,some ⟨54,1,W s.2,true,false⟩)],1⟩)
      (fun s=>s.1≤la∧s.2.length=la+lb∧Wd s.2∧nv B s.2=nv B ((x).take s.1)*nv B (y)∧∀k,s.1+lb≤k→s.2.getD k 0=0) (fun s=>la-s.1) (0,List.replicate (la+lb) 0)
      ⟨Nat.zero_le _,sy,yP dc,by rw[tH,List.take_zero,show nv B []=0 from rfl,Nat.zero_mul],fun k hk=>by simp only[List.getD_eq_getElem?_getD,List.getElem?_replicate];split<;>rfl⟩ (by exact ni) (by
      exact qj) ?_
     rintro⟨i,R⟩ ⟨hi,lR,wR,vR,zR⟩ Q' hQ he hr;simp only[]at hi lR wR vR zR ⊢;by_cases hil:(i:Int)<(la:Int)
     ·have hil':i<(x).length:=om;have hw:=dI hx i;refine aP (ai (Eq.symm hlb) (ai (Eq.symm hla) (ai @hil (ai @aW @dN)))) ?_;refine bD [] (Nat×List Nat×Nat) (fun s=>⟨[(1,.l 1 (W (y))),(5,.ow 1 0 (la+lb)),(35,.l 1 (W (x))),(36,.i .i64 (la:Int)),(37,.i .i64 (i:Int)),(6,.i .i64 (i:Int)),(7,.i .u64 (((x).getD i 0:Nat):Int)),(8,.i .u64 (s.2.2:Int)),(42,.l 1 (W (y))),(43,.i .i64 (lb:Int)),(44,.i .i64 (s.1:Int))],
       [(0,some ⟨54,1,W s.2.1,true,false⟩)],1⟩)
       (fun s=>s.1≤lb∧s.2.1.length=la+lb∧Wd s.2.1∧s.2.2<18446744073709551616∧nv B s.2.1+B^(i+s.1)*s.2.2=nv B ((x).take i)*nv B (y)+B^i*((x).getD i 0*nv B ((y).take s.1))∧∀k,i+lb≤k→s.2.1.getD k 0=0) (fun s=>lb-s.1) (0,R,0)
       ⟨Nat.zero_le _,lR,wR,(show(0:Nat)<18446744073709551616 from dc),by simp only[List.take_zero,show nv B []=0 from rfl,Nat.mul_zero,Nat.add_zero];exact vR,zR⟩ (by exact ni) (by
       exact qj) ?_
      rintro⟨j,S,c⟩ ⟨hj,lS,wS,hc,vS,zS⟩ Q'' hQ' he' hr';simp only[]at hj lS wS hc vS zS ⊢;by_cases hjl:(j:Int)<(lb:Int)
      ·have hjl':j<(y).length:=om;have hx2:=dI hy j;have hs:=dI wS (i+j);have hmw:=wG ((y).getD j 0) ((x).getD i 0) c (S.getD (i+j) 0) hx2 hw hc hs;have hcl:=xU hx2 hw hc hs;have hst:=EK (l:=S) (k:=i+j) (w:=(x).getD i 0) (x:=(y).getD j 0) om vS;have htk:=fJ (b:=B) (y) j hjl';refine tu (ai (Eq.symm hlb) (ai (Eq.symm hla) (ai @je (ai @lS (ai @BA (ai @hjl (ai @aW @dN))))))) ?_;refine hQ' _ (j+1,S.set (i+j) (((y).getD j 0*(x).getD i 0+c+S.getD (i+j) 0)%18446744073709551616),((y).getD j 0*(x).getD i 0+c+S.getD (i+j) 0)/18446744073709551616)
        ⟨by simp only;omega,by simp only[List.length_set];exact lS,B_ wS _ _ (Nat.mod_lt _ dc),hcl,?_,fun k hk=>by simp only;rw[getD_set_ne _ _ _ _ (by first|omega|(simp only at hk;omega))];exact zS k hk⟩ (by simp only;omega) ?_
       ·simp only[];rw[htk,Nat.mul_add,Nat.mul_add,show i+(j+1)=i+j+1 from rfl];rw[show B^i*((x).getD i 0*(B^j*(y).getD j 0))=B^(i+j)*((y).getD j 0*(x).getD i 0)from by rw[Nat.pow_add,Nat.mul_assoc,Nat.mul_left_comm ((x).getD i 0),Nat.mul_comm ((x).getD i 0)]];exact hst
       ·refine iP trivial ?_;repeat' first|rfl|omega|(simp only[List.length_append,List.length_cons,List.length_nil];done)|apply And.intro
      ·obtain rfl:j=lb:=om;have hz:=zS (i+j) (Nat.le_refl _);have hset:=zK (b:=B) S (i+j) c om;rw[hz,Nat.mul_zero,Nat.add_zero]at hset;rw[show(y).take j=y from by rw[hlb,List.take_length]]at vS;refine aP (ai (Eq.symm hlb) (ai (Eq.symm hla) (ai @hjl (ai @aW @dN)))) ?_;refine he' _ _ ?_;refine aP (ai (Eq.symm hlb) (ai (Eq.symm hla) (ai @je (ai @lS (ai @BA (ai @aW @dN)))))) ?_;refine hQ _ (i+1,S.set (i+j) c) ⟨by simp only;omega,by simp only[List.length_set];exact lS,B_ wS _ _ hc,?_,fun k hk=>by simp only;rw[getD_set_ne _ _ _ _ (by first|omega|(simp only at hk;omega))];exact zS k (by first|omega|(simp only at hk;omega))⟩ (by simp only;omega) ?_
       ·simp only[];rw[hset,vS,fJ (b:=B) (x) i hil',Nat.add_mul,Nat.mul_assoc]
       ·refine iP trivial ?_;repeat' first|rfl|omega|(simp only[List.length_append,List.length_cons,List.length_nil];done)|apply And.intro
     ·obtain rfl:i=la:=om;rw[show(x).take i=x from by rw[hla,List.take_length]]at vR;have htr:=oH R om;rw[AA B2 wR,vR]at htr;refine aP (ai @hil (ai @aW @dN)) ?_;refine he _ _ ?_;exact tC (ai @aW @dN)
theorem EM(x y:List Nat)(hx:Wd x)(hy:Wd y)(lx:x.length≤100000000)(ly:y.length≤100000000):aF Tryz.prog J0 69 [.l 1 (W x),.l 1 (W y)] (.o 54 1 (W (dg B (nv B x*nv B y)))):=
 EL 100000000 (Nat.le_refl _) x y hx hy lx ly
def a43:AC:= .seq (.reg [qr 4 (.mv (.k .nl))]) (.seq (.reg [qm 5 0,qr 6 (.call 44 [(1,(.t 5))]),qm 7 1,qr 8 (.call 44 [(1,(.t 7))]),qr 9 (.call 69 [(1,(.t 6)),(1,(.t 8))]),qm 4 9]) (.ret))
theorem Jv(x y:List Nat)(hx:Wd x)(hy:Wd y)(lx:x.length≤100000000)(ly:y.length≤100000000):aF Tryz.prog J0 43 [.l 1 (W x),.l 1 (W y)] (.o 54 1 (W (dg B (nv B x*nv B y)))):=by
 have n1:=jl x hx om;have n2:=jl y hy om;have h:=EM (dg B (nv B x)) (dg B (nv B y)) (bF _) (bF _) (Nat.le_trans (vY B2 (b_ hx)) lx) (Nat.le_trans (vY B2 (b_ hy)) ly);simp only[dE]at h;refine ja dB eY Tryz.func43 a43 ?_;unfold a43;simp only[ak,aH,qm,qr,qn];exact tC (ai @aW @dN)
