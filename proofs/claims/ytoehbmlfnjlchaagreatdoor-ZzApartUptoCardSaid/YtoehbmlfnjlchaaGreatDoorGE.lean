import Derived.Test.YtoehbmlfnjlchaaGreatDoorGD
set_option linter.all false
set_option maxHeartbeats 10000000
namespace Go.Proofs.YtoehbmlfnjlchaaGreatDoor
open Go Go.RowKit Ab
def a_:=an @aU (an @qJ (an @Nat.div_one (an @Nat.mul_one (an @bI (an @gU (an @Af (an @fK @sK)))))))
def a105:AC:= .seq (.reg [qr 2 (.mv (.k .nl))]) (.seq (.reg [qm 4 0,qr 5 (.len (.t 4)),qm 3 5]) (.seq (.blk 0 (.loop (.seq (.seq (.reg [qm 6 3,qr 7 (.bin .gtr (.t 6) (.k (.i .i64 0))),qm 8 7,⟨some 9,some (8,true),.mv (.t 0)⟩,⟨some 10,some (8,true),.mv (.t 3)⟩,⟨some 11,some (8,true),.bin .sub (.t 10) (.k (.i .i64 1))⟩,⟨some 12,some (8,true),.idx 1 (.t 9) (.t 11)⟩,⟨some 13,some (8,true),.ld false 1 (.t 12)⟩,⟨some 14,some (8,true),.bin .eql (.t 13) (.k (.i .i64 0))⟩,qr 15 (.pick (.t 8) (.t 14) (.k (.b false)))]) (.cond (.t 15) (.skip) (.exit 0))) (.blk 1 (.reg [qm 16 3,qr 17 (.bin .sub (.t 16) (.k (.i .i64 1))),qm 3 17]))))) (.seq (.reg [qm 18 0,qm 19 3,qr 20 (.sub 1 (.t 18) none (some (.t 19))),qm 2 20]) (.ret))))
theorem AZ(a:List Nat)(ha:a.length≤9223372036854775807):aF Tryz.prog J0 105 [.l 1 (D a)] (.l 1 (D (tz a))):=by
 refine ja dB eY Tryz.func105 a105 ?_;unfold a105;simp only[ak,aH,qm,qr,qn];refine aP @a_ ?_;refine kH Nat (fun n=>⟨[(0,.l 1 (D a)),(3,.i .i64 (n:Int))],[],0⟩) (fun n=>n≤a.length∧tz a=tz (a.take n)) (fun n=>n) a.length [] ⟨om,by rw[List.take_length]⟩ (by exact ni) ?_;intro n ⟨hn,ht⟩ Q' hQ he hr;by_cases h0:0<(n:Int)
 ·obtain⟨m,rfl⟩:∃m,n=m+1:=⟨n-1,om⟩;by_cases h1:((a.getD m 0:Nat):Int)=0
  ·refine aP (ai @Nat.add_sub_cancel (ai @rP (ai @wi (ai @mG (ai @h1 (ai @h0 @a_)))))) ?_;refine hQ _ m [] ⟨om,?_⟩ om ?_
   ·rw[ht];exact uM a m om om
   ·refine iP trivial ?_;omega
  ·refine aP (ai @Nat.add_sub_cancel (ai @rP (ai @wi (ai @mG (ai @h1 (ai @h0 @a_)))))) ?_;refine he _ _ ?_;refine aP (ai @PS @a_) ?_;have e:=xQ a;rw[ht,GZ a m om om]at e;refine rO @a_ ?_;rw[e,ht]
 ·refine aP (ai @h0 @a_) ?_;refine he _ _ ?_;obtain rfl:n=0:=om;refine aP (ai @PS @a_) ?_;refine rO (ai @ht @a_) ?_;rfl
theorem tK(a:List Nat)(x:Nat):D a++[V.i .i64 (x:Int)]=D (a++[x]):=by simp[D]
theorem mP(a:Nat):(a:Int).tmod 256=((a%256:Nat):Int):=rfl
theorem mQ(a:Nat):(a:Int).tdiv 256=((a/256:Nat):Int):=rfl
theorem yY(i:Nat):B^i=256^(8*i):=by rw[Nat.pow_mul];rfl
def a81:AC:= .seq (.reg [qr 2 (.mv (.k .nl))]) (.seq (.reg [qr 3 (.mv (.k .nl))]) (.seq (.seq (.reg [qr 4 (.mv (.k (.i .i64 0)))]) (.blk 0 (.loop (.seq (.seq (.reg [qm 7 4,qm 8 0,qr 9 (.len (.t 8)),qr 10 (.bin .lss (.t 7) (.t 9))]) (.cond (.t 10) (.skip) (.exit 0))) (.seq (.blk 1 (.seq (.reg [qm 13 0,qm 14 4,qr 15 (.idx 1 (.t 13) (.t 14)),qr 16 (.ld false 1 (.t 15)),qm 5 16]) (.seq (.reg [qr 6 (.mv (.k (.i .i64 0)))]) (.blk 2 (.loop (.seq (.seq (.reg [qm 17 6,qr 18 (.bin .lss (.t 17) (.k (.i .i64 8)))]) (.cond (.t 18) (.skip) (.exit 2))) (.seq (.blk 3 (.seq (.reg [qm 21 3,qm 22 5,qr 23 (.bin .rem (.t 22) (.k (.i .u64 256))),qr 24 (.Ad .i64 (.t 23)),qr 25 (.nz 3 1 1 [(.i .i64 0)] [(0,(.t 24))]),qr 26 (.app 3 1 8 (.t 21) (.t 25)),qm 3 26]) (.reg [qm 27 5,qr 28 (.bin .quo (.t 27) (.k (.i .u64 256))),qm 5 28]))) (.reg [qm 19 6,qr 20 (.bin .add (.t 19) (.k (.i .i64 1))),qm 6 20])))))))) (.reg [qm 11 4,qr 12 (.bin .add (.t 11) (.k (.i .i64 1))),qm 4 12])))))) (.seq (.reg [qm 29 3,qr 30 (.call 105 [(1,(.t 29))]),qm 2 30]) (.ret))))
theorem dG(a:List Nat)(ha:Wd a)(la:a.length≤100000000000):aF Tryz.prog J0 81 [.l 1 (W a)] (.l 1 (D (dg 256 (nv B a)))):=by
 refine ja dB eY Tryz.func81 a81 ?_;unfold a81;simp only[ak,aH,qm,qr,qn];refine aP @a_ ?_;refine og [(3,3,1)] Nat (fun i=>⟨[(0,.l 1 (W a)),(3,.ow 1 0 (8*i)),(4,.i .i64 (i:Int))],[(0,some ⟨3,1,D (fl 256 (8*i) (nv B (a.take i))),true,false⟩)],1⟩)
  (fun i=>i≤a.length) (fun i=>a.length-i) 0 [(0,3)] (Nat.zero_le _) (by exact ni) (by
  refine iP trivial ?_
  exact⟨rfl,rfl⟩) ?_
 intro i hi Q' hQ he hr;by_cases h:(i:Int)<a.length
 ·refine aP (ai @dD (ai @h @a_)) ?_;refine kH Nat (fun k=>⟨[(0,.l 1 (W a)),(3,.ow 1 0 (8*i+k)),(4,.i .i64 (i:Int)),(5,.i .u64 ((a.getD i 0/256^k:Nat):Int)),(6,.i .i64 (k:Int))],[(0,some ⟨3,1,D (fl 256 (8*i) (nv B (a.take i))++fl 256 k (a.getD i 0)),true,false⟩)],1⟩)
   (fun k=>k≤8) (fun k=>8-k) 0 [] (Nat.zero_le _) (by
   refine iP trivial ?_
   exact⟨⟨rfl,sy,rfl⟩,by simp[fl]⟩) ?_
  intro k hk Q'' hQ' he' hr';by_cases h1:(k:Int)<8
  ·have hq:a.getD i 0/256^k<18446744073709551616:=Nat.lt_of_le_of_lt (Nat.div_le_self _ _) (dI ha i);have hw:IntKind.u64.wrap ((a.getD i 0/256^k/256:Nat):Int)=((a.getD i 0/256^k/256:Nat):Int):=by
    generalize a.getD i 0/256^k=q at hq ⊢;exact wu om
   refine aP (ai @tK (ai @hw (ai @wi (ai @mQ (ai @mP (ai @h1 @a_)))))) ?_;refine hQ' _ (k+1) [(0,8)] om om ?_;refine iP trivial ?_;exact⟨⟨om,by rw[Nat.div_div_eq_div_mul,←Nat.pow_succ],rfl⟩,by rw[dP,List.append_assoc]⟩
  ·obtain rfl:k=8:=om;refine aP (ai @h1 @a_) ?_;refine he' _ _ ?_;refine aP (ai @wi @a_) ?_;refine hQ _ (i+1) [] om om ?_;refine iP trivial ?_;refine⟨⟨om,rfl⟩,?_⟩;rw[show 8*(i+1)=8*i+8 from om,vX,au,yY];have hlt:=bV (b:=B) dc ha i;rw[yY]at hlt;rw[Nat.add_mul_div_left _ _ (Nat.pow_pos dc),Nat.div_eq_of_lt hlt,Nat.zero_add,dZ (b:=256) dc (n:=8*i) (v:=nv B (a.take i)+256^(8*i)*a.getD i 0) (u:=nv B (a.take i)) (by rw[Nat.add_mul_mod_self_left])]
 ·obtain rfl:i=a.length:=om;refine aP (ai @h @a_) ?_;refine he _ _ ?_;refine aP @a_ ?_;try simp only[Sv,↓reduceIte,Nat.reduceEqDiff]
  refine aI (fun K hK=>?_);refine dn @a_ ?_;refine jh @a_ (AZ (fl 256 (8*a.length) (nv B (a.take a.length))) (by rw[bC];omega)) ?_;refine dn @a_ ?_;refine hK _ ?_;clear hK K;try (refine hK _ ?_;clear hK K)
  refine aP @a_ ?_;have e:tz (fl 256 (8*a.length) (nv B (a.take a.length)))=dg 256 (nv B a):=by
   rw[List.take_length];exact sJ dc (by rw[←yY];exact b_ ha)
  exact oC (ai @e @a_)
def a106:AC:= .seq (.reg [qr 4 (.mv (.k (.i .i64 0)))]) (.seq (.seq (.reg [qm 5 1,qm 6 0,qr 7 (.len (.t 6)),qr 8 (.bin .lss (.t 5) (.t 7))]) (.cond (.t 8) (.seq (.reg [qm 9 0,qm 10 1,qr 11 (.idx 1 (.t 9) (.t 10)),qr 12 (.ld false 1 (.t 11)),qm 4 12]) (.ret)) (.skip))) (.seq (.reg [qr 4 (.mv (.k (.i .i64 0)))]) (.ret)))
theorem iR(a:List Nat)(i:Nat):aF Tryz.prog J0 106 [.l 1 (D a),.i .i64 i] (.i .i64 ((a.getD i 0:Nat):Int)):=by
 refine ja dB eY Tryz.func106 a106 ?_;unfold a106;simp only[ak,aH,qm,qr,qn];by_cases h:(i:Int)<a.length
 ·refine aP (ai @mG (ai @h @a_)) ?_;exact oC @a_
 ·refine aP (ai @h @a_) ?_;refine rO (ai @iE @a_) ?_;rw[List.getD_eq_getElem?_getD,List.getElem?_eq_none om];rfl
def a107:AC:= .seq (.reg [qr 4 (.mv (.k (.i .i64 0)))]) (.seq (.seq (.reg [qm 6 0,qr 7 (.len (.t 6)),qm 8 1,qr 9 (.len (.t 8)),qr 10 (.mm true (.t 7) (.t 9)),qr 11 (.bin .sub (.t 10) (.k (.i .i64 1))),qm 5 11]) (.blk 0 (.loop (.seq (.seq (.reg [qm 12 5,qr 13 (.bin .geq (.t 12) (.k (.i .i64 0)))]) (.cond (.t 13) (.skip) (.exit 0))) (.seq (.blk 1 (.seq (.reg [qm 16 0,qm 17 5,qr 18 (.call 106 [(1,(.t 16)),(1,(.t 17))]),qm 19 1,qm 20 5,qr 21 (.call 106 [(1,(.t 19)),(1,(.t 20))]),qr 22 (.bin .neq (.t 18) (.t 21))]) (.cond (.t 22) (.seq (.seq (.reg [qm 23 0,qm 24 5,qr 25 (.call 106 [(1,(.t 23)),(1,(.t 24))]),qm 26 1,qm 27 5,qr 28 (.call 106 [(1,(.t 26)),(1,(.t 27))]),qr 29 (.bin .lss (.t 25) (.t 28))]) (.cond (.t 29) (.seq (.reg [qr 4 (.mv (.k (.i .i64 (-1))))]) (.ret)) (.skip))) (.seq (.reg [qr 4 (.mv (.k (.i .i64 1)))]) (.ret))) (.skip)))) (.reg [qm 14 5,qr 15 (.bin .sub (.t 14) (.k (.i .i64 1))),qm 5 15])))))) (.seq (.reg [qr 4 (.mv (.k (.i .i64 0)))]) (.ret)))
theorem Le(a b:List Nat)(ha:Lt 256 a)(hb:Lt 256 b)(la:a.length≤1099511627776)(lb:b.length≤1099511627776):
 aF Tryz.prog J0 107 [.l 1 (D a),.l 1 (D b)] (.i .i64 (sg (nv 256 a) (nv 256 b))):=by
 refine ja dB eY Tryz.func107 a107 ?_
 unfold a107
 simp only[ak,aH,qm,qr,qn]
 generalize hm:max a.length b.length=m
 refine aP (ai @wi (ai @hm (ai @mx @a_))) ?_
 refine kH Nat (fun i=>⟨[(0,.l 1 (D a)),(1,.l 1 (D b)),(5,.i .i64 ((i:Int)-1))],[],0⟩)
  (fun i=>i≤m∧∀j,i≤j→a.getD j 0=b.getD j 0) (fun i=>i) m [] ⟨Nat.le_refl _,fun j hj=>by rw[List.getD_eq_getElem?_getD,List.getD_eq_getElem?_getD,List.getElem?_eq_none om,List.getElem?_eq_none om]⟩ (by exact ni) ?_
 intro i ⟨hi,hj⟩ Q' hQ he hr
 by_cases h:(0:Int)≤(i:Int)-1
 ·obtain⟨n,rfl⟩:∃n,i=n+1:=⟨i-1,om⟩;have e:((n+1:Nat):Int)-1=(n:Int):=om;have h:(0:Int)≤(n:Int):=om;simp only[e];refine aP (ai @h @a_) ?_;try simp only[Sv,↓reduceIte,Nat.reduceEqDiff]
  refine aI (fun K hK=>?_);refine dn @a_ ?_;refine jh @a_ (iR a n) ?_;refine dn @a_ ?_;refine jh @a_ (iR b n) ?_;by_cases h1:((a.getD n 0:Nat):Int)=((b.getD n 0:Nat):Int)
  ·have hj':∀j,n≤j→a.getD j 0=b.getD j 0:=fun j h3=>by
    rcases Nat.lt_or_ge n j with h4|h4
    ·exact hj j h4
    ·obtain rfl:j=n:=om;omega
   refine dn (ai @h1 @a_) ?_;refine hK _ ?_;clear hK K;try (refine hK _ ?_;clear hK K)
   refine aP (ai @wi @a_) ?_;exact hQ _ n [] ⟨om,hj'⟩ om (by exact ni)
  ·have c1:=(mM (B:=256) (n+1) hj).1;have c2:=(mM (B:=256) (n+1) hj).2;refine dn (ai @h1 @a_) ?_;refine hK _ ?_;clear hK K;try (refine hK _ ?_;clear hK K)
   refine aP @a_ ?_;try simp only[Sv,↓reduceIte,Nat.reduceEqDiff]
   refine aI (fun K hK=>?_);refine dn @a_ ?_;refine jh @a_ (iR a n) ?_;refine dn @a_ ?_;refine jh @a_ (iR b n) ?_;refine dn @a_ ?_;refine hK _ ?_;clear hK K;by_cases h2:((a.getD n 0:Nat):Int)<((b.getD n 0:Nat):Int)
   ·simp only[h2,decide_true,decide_false];try (refine hK _ ?_;clear hK K)
    refine aP @a_ ?_;refine hr _ ?_;have c3:=vZ (b:=256) dc ha hb n om;have c4:nv 256 a<nv 256 b:=c1.1 c3;refine rO (ai @iE @a_) ?_;simp[sg,c4]
   ·simp only[h2,decide_true,decide_false];try (refine hK _ ?_;clear hK K)
    refine aP @a_ ?_;refine hr _ ?_;have c3:=vZ (b:=256) dc hb ha n om;have c4:¬nv 256 a<nv 256 b:=fun h=>by have:=c1.2 h;omega
    have c5:¬nv 256 a=nv 256 b:=fun h=>by have:=c2.2 h;omega
    refine rO (ai @iE @a_) ?_;simp[sg,c4,c5]
 ·obtain rfl:i=0:=om;try (refine hK _ ?_;clear hK K)
  refine aP (ai @h @a_) ?_;refine he _ _ ?_;try (refine hK _ ?_;clear hK K)
  refine aP @a_ ?_;have c2:=(mM (B:=256) 0 hj).2.1 rfl;refine rO (ai @iE @a_) ?_;simp[sg,c2]
end Go.Proofs.YtoehbmlfnjlchaaGreatDoor
namespace Go.Proofs.YtoehbmlfnjlchaaGreatDoor
open Go Go.RowKit Ab
def iY:=an @aU (an @qJ (an @Nat.div_one (an @Nat.mul_one (an @bI (an @gU (an @Af (an @fK @sK)))))))
def a79:AC:= .seq (.reg [qr 2 (.mv (.k .nl))]) (.seq (.reg [qm 7 0,qr 8 (.call 105 [(1,(.t 7))]),qm 0 8]) (.seq (.reg [qr 3 (.mv (.k .nl))]) (.seq (.seq (.reg [qr 4 (.mv (.k (.i .i64 0)))]) (.blk 0 (.loop (.seq (.seq (.reg [qm 9 4,qm 10 0,qr 11 (.len (.t 10)),qr 12 (.bin .lss (.t 9) (.t 11))]) (.cond (.t 12) (.skip) (.exit 0))) (.seq (.blk 1 (.seq (.reg [qr 5 (.mv (.k (.i .u64 0)))]) (.seq (.seq (.reg [qr 6 (.mv (.k (.i .i64 7)))]) (.blk 2 (.loop (.seq (.seq (.reg [qm 15 6,qr 16 (.bin .geq (.t 15) (.k (.i .i64 0)))]) (.cond (.t 16) (.skip) (.exit 2))) (.seq (.blk 3 (.seq (.reg [qm 19 5,qr 20 (.bin .mul (.t 19) (.k (.i .u64 256))),qm 5 20]) (.seq (.reg [qm 21 4,qm 22 6,qr 23 (.bin .add (.t 21) (.t 22)),qm 24 0,qr 25 (.len (.t 24)),qr 26 (.bin .lss (.t 23) (.t 25))]) (.cond (.t 26) (.reg [qm 27 5,qm 28 0,qm 29 4,qm 30 6,qr 31 (.bin .add (.t 29) (.t 30)),qr 32 (.idx 1 (.t 28) (.t 31)),qr 33 (.ld false 1 (.t 32)),qr 34 (.Ad .u64 (.t 33)),qr 35 (.bin .add (.t 27) (.t 34)),qm 5 35]) (.skip))))) (.reg [qm 17 6,qr 18 (.bin .sub (.t 17) (.k (.i .i64 1))),qm 6 18])))))) (.reg [qm 36 3,qm 37 5,qr 38 (.nz 54 1 1 [(.i .u64 0)] [(0,(.t 37))]),qr 39 (.app 54 1 8 (.t 36) (.t 38)),qm 3 39])))) (.reg [qm 13 4,qr 14 (.bin .add (.t 13) (.k (.i .i64 8))),qm 4 14])))))) (.seq (.reg [qm 40 3,qm 2 40]) (.ret)))))
theorem pI(d:List Nat)(hd:Lt 256 d)(ld:d.length≤1099511627776):aF Tryz.prog J0 79 [.l 1 (D d)] (.o 54 1 (W (dg B (nv 256 d)))):=by
 refine ja dB eY Tryz.func79 a79 ?_;unfold a79;simp only[ak,aH,qm,qr,qn];obtain⟨t,ht⟩:∃t,t=tz d:=⟨_,rfl⟩;have lt:t.length≤1099511627776:=by rw[ht];exact Nat.le_trans (mF d) ld
 have hl:Lt 256 t:=by rw[ht];exact qI hd
 refine aP @iY ?_;try simp only[Sv,↓reduceIte,Nat.reduceEqDiff]
 refine aI (fun K hK=>?_);refine dn @iY ?_;refine jh @iY (AZ d om) ?_;simp only[←ht];refine dn @iY ?_;refine hK _ ?_;clear hK K;obtain⟨v,hv⟩:∃v,v=nv 256 t:=⟨_,rfl⟩;try (refine hK _ ?_;clear hK K)
 refine aP @iY ?_;refine og [(3,54,1)] Nat (fun i=>⟨[(0,.l 1 (D t)),(3,.ow 1 0 i),(4,.i .i64 ((8*i:Nat):Int))],[(0,some ⟨54,1,W (fl B i v),true,false⟩)],1⟩)
  (fun i=>8*i<t.length+8) (fun i=>t.length+8-8*i) 0 [(0,6)] om (by exact ni) (by
  refine iP trivial ?_
  exact⟨rfl,rfl⟩) ?_
 intro i hi Q' hQ he hr;by_cases h:((8*i:Nat):Int)<t.length
 ·obtain⟨w,hw⟩:∃w,w=v/B^i%B:=⟨_,rfl⟩;have hwl:w<18446744073709551616:=by rw[hw];exact Nat.mod_lt _ B0
  try (refine hK _ ?_;clear hK K)
  refine aP (ai @h @iY) ?_;refine kH Nat (fun k=>⟨[(0,.l 1 (D t)),(3,.ow 1 0 i),(4,.i .i64 ((8*i:Nat):Int)),(5,.i .u64 ((w/256^k:Nat):Int)),(6,.i .i64 ((k:Int)-1))],[(0,some ⟨54,1,W (fl B i v),true,false⟩)],1⟩)
   (fun k=>k≤8) (fun k=>k) 8 [] om (by
   refine iP trivial ?_
   exact⟨by rw[Nat.div_eq_of_lt hwl];rfl,rfl⟩) ?_
  intro k hk Q'' hQ' he' hr';by_cases h1:(0:Int)≤(k:Int)-1
  ·obtain⟨n,rfl⟩:∃n,k=n+1:=⟨k-1,om⟩;have e:((n+1:Nat):Int)-1=(n:Int):=om;have h1:(0:Int)≤(n:Int):=om;have Xk:t.getD (8*i+n) 0=w/256^n%256:=by
    rw[iQ (b:=256) dc hl,hw,←hv,Nat.pow_add,←Nat.div_div_eq_div_mul,←yY];rw[show B=256^n*256^(8-n)from by rw[←Nat.pow_add,show n+(8-n)=8 from om];rfl,Nat.mod_mul_right_div_self];rw[show 256^(8-n)=256*256^(7-n)from by rw[Nat.mul_comm,←Nat.pow_succ];congr 1;omega,Nat.mod_mul_right_mod]
   have hx:w/256^n<18446744073709551616:=Nat.lt_of_le_of_lt (Nat.div_le_self _ _) hwl;obtain⟨x,hx0⟩:∃x,x=w/256^n:=⟨_,rfl⟩;rw[Nat.pow_succ,←Nat.div_div_eq_div_mul,←hx0];rw[←hx0]at Xk hx;simp only[e];by_cases h2:((8*i:Nat):Int)+(n:Int)<t.length
   ·have tn:(((8*i:Nat):Int)+(n:Int)).toNat=8*i+n:=om;try (refine hK _ ?_;clear hK K)
    refine aP (ai @wu (ai @mG (ai @wi (ai @h2 (ai @h1 @iY))))) ?_;refine hQ' _ n [] om om ?_;rw[tn,Xk,wu (n:=((x%256:Nat):Int)) om,wu om];refine iP trivial ?_;rw[←hx0];omega
   ·rw[List.getD_eq_getElem?_getD,List.getElem?_eq_none om]at Xk;try (refine hK _ ?_;clear hK K)
    refine aP (ai @wu (ai @wi (ai @h2 (ai @h1 @iY)))) ?_;refine hQ' _ n [] om om ?_;refine iP trivial ?_;rw[←hx0];simp at Xk;omega
  ·obtain rfl:k=0:=om;try (refine hK _ ?_;clear hK K)
   refine aP (ai @h1 @iY) ?_;refine he' _ _ ?_;try (refine hK _ ?_;clear hK K)
   refine aP (ai @Cc (ai @wi @iY)) ?_;refine hQ _ (i+1) [(0,6)] om om ?_;refine iP trivial ?_;exact⟨om,by rw[dP,←hw];try simp⟩
 ·try (refine hK _ ?_;clear hK K)
  refine aP (ai @h @iY) ?_;refine he _ _ ?_;try (refine hK _ ?_;clear hK K)
  refine aP @iY ?_;have e:fl B i v=dg B (nv 256 d):=by
   have e0:nv 256 d=v:=by rw[hv,ht,uK]
   have h1:=b_ hl;have h2:256^t.length≤256^(8*i):=Nat.pow_le_pow_right dc om;rw[e0];refine I7 B2 ?_ (by rw[yY,hv];omega);rcases Nat.eq_zero_or_pos i with h0|h0
   ·exact .inl h0
   ·refine .inr ?_;have h3:t≠[]:=fun h4=>by rw[h4]at hi;simp at hi;omega
    have h4:=yT (b:=256) (by rw[ht,Ed]:tz t=t) h3;rw[yY,hv];exact Nat.le_trans (Nat.pow_le_pow_right dc om) h4
  exact oC (ai @e @iY)
end Go.Proofs.YtoehbmlfnjlchaaGreatDoor
namespace Go.Proofs.YtoehbmlfnjlchaaGreatDoor
open Go Go.RowKit Ab
def bQ:=an @aU (an @qJ (an @Nat.div_one (an @Nat.mul_one (an @bI (an @gU (an @Af (an @fK @sK)))))))
def a80:AC:= .seq (.reg [qr 4 (.mv (.k .nl))]) (.seq (.reg [qr 5 (.mv (.k .nl))]) (.seq (.reg [qr 6 (.mv (.k (.i .i64 0)))]) (.seq (.seq (.reg [qr 7 (.mv (.k (.i .i64 0)))]) (.blk 0 (.loop (.seq (.seq (.reg [qm 9 7,qm 10 0,qr 11 (.len (.t 10)),qr 12 (.bin .lss (.t 9) (.t 11)),qm 13 12,⟨some 14,some (13,false),.mv (.t 7)⟩,⟨some 15,some (13,false),.mv (.t 1)⟩,⟨some 16,some (13,false),.len (.t 15)⟩,⟨some 17,some (13,false),.bin .lss (.t 14) (.t 16)⟩,qr 18 (.pick (.t 13) (.k (.b true)) (.t 17)),qm 19 18,⟨some 20,some (19,false),.mv (.t 6)⟩,⟨some 21,some (19,false),.bin .gtr (.t 20) (.k (.i .i64 0))⟩,qr 22 (.pick (.t 19) (.k (.b true)) (.t 21))]) (.cond (.t 22) (.skip) (.exit 0))) (.seq (.blk 1 (.seq (.reg [qm 25 0,qm 26 7,qr 27 (.call 106 [(1,(.t 25)),(1,(.t 26))]),qm 28 1,qm 29 7,qr 30 (.call 106 [(1,(.t 28)),(1,(.t 29))]),qr 31 (.bin .add (.t 27) (.t 30)),qm 32 6,qr 33 (.bin .add (.t 31) (.t 32)),qm 8 33]) (.seq (.reg [qm 34 5,qm 35 8,qr 36 (.bin .rem (.t 35) (.k (.i .i64 256))),qr 37 (.nz 3 1 1 [(.i .i64 0)] [(0,(.t 36))]),qr 38 (.app 3 1 8 (.t 34) (.t 37)),qm 5 38]) (.reg [qm 39 8,qr 40 (.bin .quo (.t 39) (.k (.i .i64 256))),qm 6 40])))) (.reg [qm 23 7,qr 24 (.bin .add (.t 23) (.k (.i .i64 1))),qm 7 24])))))) (.seq (.reg [qm 41 5,qm 4 41]) (.ret)))))
def xB(x y:List Nat):Nat:=if(nv 256 x+nv 256 y)/256^(max x.length y.length)=0 then max x.length y.length else max x.length y.length+1
theorem Lh(x y:List Nat)(hx:Lt 256 x)(hy:Lt 256 y)(lx:x.length≤1000000000000)(ly:y.length≤1000000000000):
 aF Tryz.prog J0 80 [.l 1 (D x),.l 1 (D y)] (.o 3 1 (D (fl 256 (xB x y) (nv 256 x+nv 256 y)))):=by
 refine ja dB eY Tryz.func80 a80 ?_
 unfold a80
 simp only[ak,aH,qm,qr,qn]
 generalize hm:max x.length y.length=m
 have han:xB x y=if(nv 256 x+nv 256 y)/256^m=0 then m else m+1:=by unfold xB;rw[hm]
 refine aP @bQ ?_
 refine og [(5,3,1)] Nat (fun i=>⟨[(0,.l 1 (D x)),(1,.l 1 (D y)),(5,.ow 1 0 i),(6,.i .i64 (((nv 256 (x.take i)+nv 256 (y.take i))/256^i:Nat):Int)),(7,.i .i64 (i:Int))],[(0,some ⟨3,1,D (fl 256 i (nv 256 (x.take i)+nv 256 (y.take i))),true,false⟩)],1⟩)
  (fun i=>i≤m+1∧(i=m+1→(nv 256 x+nv 256 y)/256^m≠0)) (fun i=>m+1-i) 0 [(0,4)] ⟨om,om⟩ (by exact ni) (by
  refine iP trivial ?_
  exact⟨⟨by simp[nv],rfl⟩,rfl⟩) ?_
 intro i ⟨hi,hi2⟩ Q' hQ he hr
 generalize hc:(nv 256 (x.take i)+nv 256 (y.take i))/256^i=c
 have hcB:c≤1:=by
  have h1:=bV (b:=256) dc hx i;have h2:=bV (b:=256) dc hy i;rw[←hc];exact Nat.le_of_lt_succ ((Nat.div_lt_iff_lt_mul (Nat.pow_pos dc)).2 om)
 have gx:=nO hx (by decide:0<256) i
 have gy:=nO hy (by decide:0<256) i
 obtain⟨n,hn⟩:∃n,n=x.getD i 0+y.getD i 0+c:=⟨_,rfl⟩
 have hs:((x.getD i 0:Nat):Int)+((y.getD i 0:Nat):Int)+(c:Int)=(n:Int):=om
 obtain⟨s1,s2,s3⟩:=qK (b:=256) (P:=256^i) (A:=nv 256 (x.take i)) (Y:=nv 256 (y.take i)) (x:=x.getD i 0) (y:=y.getD i 0) (Nat.pow_pos dc) dc
 rw[hc,←hn]at s1 s3
 have full:m≤i→c=(nv 256 x+nv 256 y)/256^i:=fun h=>by
  rw[←hc,List.take_of_length_le om,List.take_of_length_le om]
 have small:nv 256 x+nv 256 y<256^(m+1):=by
  have h1:=b_ hx;have h2:=b_ hy;have h3:256^x.length≤256^m:=Nat.pow_le_pow_right dc om;have h4:256^y.length≤256^m:=Nat.pow_le_pow_right dc om;rw[Nat.pow_succ];omega
 by_cases h1:(i:Int)<x.length
 ·refine aP (ai @h1 @bQ) ?_;try simp only[Sv,↓reduceIte,Nat.reduceEqDiff]
  refine aI (fun K hK=>?_);refine dn @bQ ?_;refine jh @bQ (iR x i) ?_;refine dn @bQ ?_;refine jh @bQ (iR y i) ?_;refine dn (ai @hs (ai @wi @bQ)) ?_;refine hK _ ?_;clear hK K;try (refine hK _ ?_;clear hK K)
  refine aP (ai @tK (ai @wi (ai @mQ (ai @mP @bQ)))) ?_;refine hQ _ (i+1) [(0,29)] ⟨om,om⟩ om ?_;refine iP trivial ?_;refine⟨⟨?_,om⟩,?_⟩
  ·rw[au,au,Nat.pow_succ,s3]
  ·rw[au,au,dP,dZ dc s2,s1]
 ·by_cases h2:(i:Int)<y.length
  ·try (refine hK _ ?_;clear hK K)
   refine aP (ai @h2 (ai @h1 @bQ)) ?_;try simp only[Sv,↓reduceIte,Nat.reduceEqDiff]
   refine aI (fun K hK=>?_);refine dn @bQ ?_;refine jh @bQ (iR x i) ?_;refine dn @bQ ?_;refine jh @bQ (iR y i) ?_;refine dn (ai @hs (ai @wi @bQ)) ?_;refine hK _ ?_;clear hK K;try (refine hK _ ?_;clear hK K)
   refine aP (ai @tK (ai @wi (ai @mQ (ai @mP @bQ)))) ?_;refine hQ _ (i+1) [(0,29)] ⟨om,om⟩ om ?_;refine iP trivial ?_;refine⟨⟨?_,om⟩,?_⟩
   ·rw[au,au,Nat.pow_succ,s3]
   ·rw[au,au,dP,dZ dc s2,s1]
  ·by_cases h3:(0:Int)<c
   ·have hne:i≠m+1:=fun h=>by
     have:=full om;rw[h,Nat.div_eq_of_lt small]at this;omega
    try (refine hK _ ?_;clear hK K)
    refine aP (ai @h3 (ai @h2 (ai @h1 @bQ))) ?_;try simp only[Sv,↓reduceIte,Nat.reduceEqDiff]
    refine aI (fun K hK=>?_);refine dn @bQ ?_;refine jh @bQ (iR x i) ?_;refine dn @bQ ?_;refine jh @bQ (iR y i) ?_;refine dn (ai @hs (ai @wi @bQ)) ?_;refine hK _ ?_;clear hK K;try (refine hK _ ?_;clear hK K)
    refine aP (ai @tK (ai @wi (ai @mQ (ai @mP @bQ)))) ?_;refine hQ _ (i+1) [(0,29)] ⟨om,fun h=>by have:=full om;rw[show m=i from om,←this];omega⟩ om ?_;refine iP trivial ?_;refine⟨⟨?_,om⟩,?_⟩
    ·rw[au,au,Nat.pow_succ,s3]
    ·rw[au,au,dP,dZ dc s2,s1]
   ·try (refine hK _ ?_;clear hK K)
    refine aP (ai @h3 (ai @h2 (ai @h1 @bQ))) ?_;refine he _ _ ?_;try (refine hK _ ?_;clear hK K)
    refine aP @bQ ?_;have e:fl 256 i (nv 256 (x.take i)+nv 256 (y.take i))=fl 256 (xB x y) (nv 256 x+nv 256 y):=by
     rw[List.take_of_length_le om,List.take_of_length_le om,han];have h4:=full om;congr 1;split
     ·rename_i h5;rcases Nat.lt_or_ge m i with h6|h6
      ·exact absurd h5 (hi2 om)
      ·omega
     ·rename_i h5;rcases Nat.lt_or_ge m i with h6|h6
      ·omega
      ·exfalso;apply h5;rw[show m=i from om,←h4];omega
    exact oC (ai @e @bQ)
def a83:AC:= .seq (.reg [qr 4 (.mv (.k .nl))]) (.seq (.reg [qr 5 (.mv (.k .nl))]) (.seq (.reg [qr 6 (.mv (.k (.i .i64 0)))]) (.seq (.seq (.reg [qr 7 (.mv (.k (.i .i64 0)))]) (.blk 0 (.loop (.seq (.seq (.reg [qm 9 7,qm 10 0,qr 11 (.len (.t 10)),qr 12 (.bin .lss (.t 9) (.t 11))]) (.cond (.t 12) (.skip) (.exit 0))) (.seq (.blk 1 (.seq (.gp [qm 15 0,qm 16 7,qr 17 (.idx 1 (.t 15) (.t 16)),qr 18 (.ld false 1 (.t 17)),qm 19 1,qm 20 7,qr 21 (.call 106 [(1,(.t 19)),(1,(.t 20))]),qr 22 (.bin .sub (.t 18) (.t 21)),qm 23 6,qr 24 (.bin .sub (.t 22) (.t 23)),qm 8 24]) (.seq (.reg [qr 6 (.mv (.k (.i .i64 0)))]) (.seq (.seq (.reg [qm 25 8,qr 26 (.bin .lss (.t 25) (.k (.i .i64 0)))]) (.cond (.t 26) (.seq (.reg [qm 27 8,qr 28 (.bin .add (.t 27) (.k (.i .i64 256))),qm 8 28]) (.reg [qr 6 (.mv (.k (.i .i64 1)))])) (.skip))) (.reg [qm 29 5,qm 30 8,qr 31 (.nz 3 1 1 [(.i .i64 0)] [(0,(.t 30))]),qr 32 (.app 3 1 8 (.t 29) (.t 31)),qm 5 32]))))) (.reg [qm 13 7,qr 14 (.bin .add (.t 13) (.k (.i .i64 1))),qm 7 14])))))) (.seq (.reg [qm 33 5,qm 4 33]) (.ret)))))
theorem A7(x y:List Nat)(hx:Lt 256 x)(hy:Lt 256 y)(lx:x.length≤1000000000000):
 aF Tryz.prog J0 83 [.l 1 (D x),.l 1 (D y)] (.o 3 1 (D (fl 256 x.length (nv 256 x+256^x.length-nv 256 (y.take x.length))))):=by
 refine ja dB eY Tryz.func83 a83 ?_
 unfold a83
 simp only[ak,aH,qm,qr,qn]
 refine aP @bQ ?_
 refine og [(5,3,1)] Nat (fun i=>⟨[(0,.l 1 (D x)),(1,.l 1 (D y)),(5,.ow 1 0 i),(6,.i .i64 ((if nv 256 (x.take i)<nv 256 (y.take i)then 1 else 0:Nat):Int)),(7,.i .i64 (i:Int))],[(0,some ⟨3,1,D (fl 256 i (nv 256 (x.take i)+256^i-nv 256 (y.take i))),true,false⟩)],1⟩)
  (fun i=>i≤x.length) (fun i=>x.length-i) 0 [(0,4)] om (by exact ni) (by
  refine iP trivial ?_
  exact⟨⟨by simp[nv],rfl⟩,rfl⟩) ?_
 intro i hi Q' hQ he hr
 have gx:=nO hx (by decide:0<256) i
 have gy:=nO hy (by decide:0<256) i
 have st:=yS (b:=256) (P:=256^i) (Nat.pow_pos dc) (bV (b:=256) dc hx i) (bV (b:=256) dc hy i) gx gy
 obtain⟨c,hc⟩:∃c,c=(if nv 256 (x.take i)<nv 256 (y.take i)then 1 else 0:Nat):=⟨_,rfl⟩
 rw[←hc]at st
 obtain⟨s1,s2,s3⟩:=st
 have hc1:c≤1:=by rw[hc];split<;>omega
 have e:nv 256 (x.take (i+1))+256^(i+1)-nv 256 (y.take (i+1))=nv 256 (x.take i)+256^i*x.getD i 0+256^i*256-(nv 256 (y.take i)+256^i*y.getD i 0):=by rw[au,au,Nat.pow_succ]
 have nxt:fl 256 (i+1) (nv 256 (x.take (i+1))+256^(i+1)-nv 256 (y.take (i+1)))=fl 256 i (nv 256 (x.take i)+256^i-nv 256 (y.take i))++[(x.getD i 0+256-(y.getD i 0+c))%256]:=by
  rw[e,dP,dZ dc s2,s1]
 simp only[←hc]
 by_cases h:(i:Int)<x.length
 ·refine aP (ai @h @bQ) ?_;try simp only[Sv,↓reduceIte,Nat.reduceEqDiff]
  first|refine aT (fun K hK=>?_)|refine aK (fun K hK=>?_)
  refine dn (ai @mG @bQ) ?_;refine jh @bQ (iR y i) ?_;refine dn (ai @wi @bQ) ?_;refine hK _ ?_;clear hK K;try (refine hK _ ?_;clear hK K)
  refine aP @bQ ?_;by_cases h2:((x.getD i 0:Nat):Int)-((y.getD i 0:Nat):Int)-(c:Int)<0
  ·obtain⟨d,hd⟩:∃d:Nat,d=x.getD i 0+256-(y.getD i 0+c):=⟨_,rfl⟩;have hd2:((x.getD i 0:Nat):Int)-((y.getD i 0:Nat):Int)-(c:Int)+256=(d:Int):=om;simp only[h2,decide_true,decide_false];try (refine hK _ ?_;clear hK K)
   refine aP (ai @tK (ai @hd2 (ai @wi @bQ))) ?_;refine hQ _ (i+1) [(0,26)] om om ?_;refine iP trivial ?_;refine⟨⟨?_,om⟩,?_⟩
   ·rw[au,au];simp only[s3];split<;>omega
   ·rw[nxt];congr 3;omega
  ·obtain⟨d,hd⟩:∃d:Nat,d=x.getD i 0-(y.getD i 0+c):=⟨_,rfl⟩;have hd2:((x.getD i 0:Nat):Int)-((y.getD i 0:Nat):Int)-(c:Int)=(d:Int):=om;simp only[h2,decide_true,decide_false];try (refine hK _ ?_;clear hK K)
   refine aP (ai @tK (ai @hd2 (ai @wi @bQ))) ?_;refine hQ _ (i+1) [(0,22)] om om ?_;refine iP trivial ?_;refine⟨⟨?_,om⟩,?_⟩
   ·rw[au,au];simp only[s3];split<;>omega
   ·rw[nxt];congr 3;omega
 ·obtain rfl:i=x.length:=om;try (refine hK _ ?_;clear hK K)
  refine aP (ai @h @bQ) ?_;refine he _ _ ?_;try (refine hK _ ?_;clear hK K)
  refine aP @bQ ?_;refine rO @bQ ?_;rw[List.take_length]
end Go.Proofs.YtoehbmlfnjlchaaGreatDoor
namespace Go.Proofs.YtoehbmlfnjlchaaGreatDoor
open Go Go.RowKit Ab
def bG:=an @aU (an @qJ (an @Nat.div_one (an @Nat.mul_one (an @bI (an @gU (an @Af (an @fK @sK)))))))
theorem D2:2≤256:=dc
theorem gW{a:List Nat}(ha:Wd a):(dg 256 (nv B a)).length≤8*a.length:=vY D2 (by rw[←yY];exact b_ ha)
theorem I_{x y:Nat}:(sg x y<0)=(x<y):=by
 unfold sg;split
 ·rename_i h;simp[h]
 ·rename_i h;split<;>simp[h]
def a35:AC:= .seq (.reg [qr 4 (.mv (.k (.b false)))]) (.seq (.seq (.reg [qm 6 0,qr 7 (.len (.t 6)),qm 8 1,qr 9 (.len (.t 8)),qr 10 (.bin .neq (.t 7) (.t 9))]) (.cond (.t 10) (.seq (.reg [qr 4 (.mv (.k (.b false)))]) (.ret)) (.skip))) (.seq (.seq (.reg [qr 5 (.mv (.k (.i .i64 0)))]) (.blk 0 (.loop (.seq (.seq (.reg [qm 11 5,qm 12 0,qr 13 (.len (.t 12)),qr 14 (.bin .lss (.t 11) (.t 13))]) (.cond (.t 14) (.skip) (.exit 0))) (.seq (.blk 1 (.seq (.gp [qm 17 0,qm 18 5,qr 19 (.idx 1 (.t 17) (.t 18)),qr 20 (.ld false 1 (.t 19)),qm 21 1,qm 22 5,qr 23 (.idx 1 (.t 21) (.t 22)),qr 24 (.ld false 1 (.t 23)),qr 25 (.bin .neq (.t 20) (.t 24))]) (.cond (.t 25) (.seq (.reg [qr 4 (.mv (.k (.b false)))]) (.ret)) (.skip)))) (.reg [qm 15 5,qr 16 (.bin .add (.t 15) (.k (.i .i64 1))),qm 5 16])))))) (.seq (.reg [qr 4 (.mv (.k (.b true)))]) (.ret))))
theorem A8(a b:List Nat)(la:a.length≤9223372036854775807)(lb:b.length≤9223372036854775807):
 aF Tryz.prog J0 35 [.l 1 (W a),.l 1 (W b)] (.b (decide (a=b))):=by
 refine ja dB eY Tryz.func35 a35 ?_
 unfold a35
 simp only[ak,aH,qm,qr,qn]
 by_cases h:(a.length:Int)=(b.length:Int)
 ·refine aP (ai @h @bG) ?_;refine kH Nat (fun i=>⟨[(0,.l 1 (W a)),(1,.l 1 (W b)),(5,.i .i64 (i:Int))],[],0⟩) (fun i=>i≤a.length∧∀j,j<i→a.getD j 0=b.getD j 0) (fun i=>a.length-i) 0 [] ⟨om,om⟩ (by
   refine iP trivial ?_;rfl) ?_
  intro i ⟨hi,hj⟩ Q' hQ he hr;by_cases h1:(i:Int)<a.length
  ·refine aP (ai @h1 @bG) ?_;by_cases h2:((a.getD i 0:Nat):Int)=((b.getD i 0:Nat):Int)
   ·refine aP (ai @wi (ai @h2 (ai @dD @bG))) ?_;refine hQ _ (i+1) [] ⟨om,fun j h3=>?_⟩ om ?_
    ·rcases Nat.lt_or_ge j i with h4|h4
     ·exact hj j h4
     ·obtain rfl:j=i:=om;omega
    ·refine iP trivial ?_;omega
   ·refine aP (ai @h2 (ai @dD @bG)) ?_;refine aP @bG ?_;refine hr _ ?_;have e:¬a=b:=fun h=>h2 (by rw[h])
    exact oC (ai @e @bG)
  ·refine aP (ai @h1 @bG) ?_;refine he _ _ ?_;refine aP @bG ?_;have e:a=b:=by
    refine List.ext_getElem om fun n h3 h4=>?_
    have:=hj n om;simpa[List.getD_eq_getElem?_getD,h3,h4]using this
   exact oC (ai @e @bG)
 ·refine aP (ai @h @bG) ?_;have e:¬a=b:=fun h'=>h (by rw[h'])
  exact oC (ai @e @bG)
def a63:AC:= .seq (.reg [qr 2 (.mv (.k .nl))]) (.seq (.reg [qm 3 0,qr 4 (.call 81 [(1,(.t 3))]),qr 5 (.call 79 [(1,(.t 4))]),qm 2 5]) (.ret))
theorem yZ(a:List Nat)(ha:Wd a)(la:a.length≤100000000000):aF Tryz.prog J0 63 [.l 1 (W a)] (.o 54 1 (W (dg B (nv B a)))):=by
 refine ja dB eY Tryz.func63 a63 ?_;unfold a63;simp only[ak,aH,qm,qr,qn];have hl:=gW ha;have e:=jd D2 (nv B a);refine aP @bG ?_;try simp only[Sv,↓reduceIte,Nat.reduceEqDiff]
 refine aI (fun K hK=>?_);refine dn @bG ?_;refine jh @bG (dG a ha la) ?_;refine dn @bG ?_;refine jh @bG (pI (dg 256 (nv B a)) (jM dc _) om) ?_;refine dn (ai @e @bG) ?_;refine hK _ ?_;clear hK K;try (refine hK _ ?_;clear hK K)
 refine aP @bG ?_;exact oC @bG
def a82:AC:= .seq (.reg [qr 4 (.mv (.k (.i .i64 0)))]) (.seq (.reg [qm 5 0,qr 6 (.call 81 [(1,(.t 5))]),qm 7 1,qr 8 (.call 81 [(1,(.t 7))]),qr 9 (.call 107 [(1,(.t 6)),(1,(.t 8))]),qm 4 9]) (.ret))
theorem A_(a b:List Nat)(ha:Wd a)(hb:Wd b)(la:a.length≤100000000000)(lb:b.length≤100000000000):
 aF Tryz.prog J0 82 [.l 1 (W a),.l 1 (W b)] (.i .i64 (sg (nv B a) (nv B b))):=by
 refine ja dB eY Tryz.func82 a82 ?_
 unfold a82
 simp only[ak,aH,qm,qr,qn]
 have hla:=gW ha
 have hlb:=gW hb
 have ea:=jd D2 (nv B a)
 have eb:=jd D2 (nv B b)
 refine aP @bG ?_
 try simp only[Sv,↓reduceIte,Nat.reduceEqDiff]
 refine aI (fun K hK=>?_)
 refine dn @bG ?_
 refine jh @bG (dG a ha la) ?_
 refine dn @bG ?_
 refine jh @bG (dG b hb lb) ?_
 refine dn @bG ?_
 refine jh @bG (Le (dg 256 (nv B a)) (dg 256 (nv B b)) (jM dc _) (jM dc _) om om) ?_
 refine dn (ai @eb (ai @ea @bG)) ?_
 refine hK _ ?_
 clear hK K
 try (refine hK _ ?_;clear hK K)
 refine aP @bG ?_
 exact oC @bG
def a56:AC:= .seq (.reg [qr 4 (.mv (.k .nl))]) (.seq (.reg [qm 5 0,qr 6 (.call 81 [(1,(.t 5))]),qm 7 1,qr 8 (.call 81 [(1,(.t 7))]),qr 9 (.call 80 [(1,(.t 6)),(1,(.t 8))]),qr 10 (.call 79 [(1,(.t 9))]),qm 4 10]) (.ret))
theorem Ba(a b:List Nat)(ha:Wd a)(hb:Wd b)(la:a.length≤10000000000)(lb:b.length≤10000000000):
 aF Tryz.prog J0 56 [.l 1 (W a),.l 1 (W b)] (.o 54 1 (W (dg B (nv B a+nv B b)))):=by
 refine ja dB eY Tryz.func56 a56 ?_
 unfold a56
 simp only[ak,aH,qm,qr,qn]
 obtain⟨x,hx⟩:∃x,x=dg 256 (nv B a):=⟨_,rfl⟩
 obtain⟨y,hy⟩:∃y,y=dg 256 (nv B b):=⟨_,rfl⟩
 have hla:=gW ha
 have hlb:=gW hb
 have ea:=jd D2 (nv B a)
 have eb:=jd D2 (nv B b)
 have kx:Lt 256 x:=by rw[hx];exact jM dc _
 have ky:Lt 256 y:=by rw[hy];exact jM dc _
 rw[←hx]at hla ea
 rw[←hy]at hlb eb
 have hn:xB x y≤max x.length y.length+1:=by unfold xB;split<;>omega
 have sm:nv 256 x+nv 256 y<256^xB x y:=by
  unfold xB;have h1:=b_ kx;have h2:=b_ ky;have h3:256^x.length≤256^max x.length y.length:=Nat.pow_le_pow_right dc om;have h4:256^y.length≤256^max x.length y.length:=Nat.pow_le_pow_right dc om;split
  ·rename_i h;rcases Nat.lt_or_ge (nv 256 x+nv 256 y) (256^max x.length y.length)with h5|h5
   ·exact h5
   ·have:=(Nat.le_div_iff_mul_le (Nat.pow_pos (by decide:0<256))).2 (by rw[Nat.one_mul];exact h5:1*256^max x.length y.length≤_);omega
  ·rw[Nat.pow_succ];omega
 have ev:nv 256 (fl 256 (xB x y) (nv 256 x+nv 256 y))=nv B a+nv B b:=by rw[kQ,Nat.mod_eq_of_lt sm,ea,eb]
 have lw:(fl 256 (xB x y) (nv 256 x+nv 256 y)).length=xB x y:=bC _ _
 refine aP @bG ?_
 try simp only[Sv,↓reduceIte,Nat.reduceEqDiff]
 refine aI (fun K hK=>?_)
 refine dn @bG ?_
 refine jh @bG (dG a ha om) ?_
 simp only[←hx]
 refine dn @bG ?_
 refine jh @bG (dG b hb om) ?_
 simp only[←hy]
 refine dn @bG ?_
 refine jh @bG (Lh x y kx ky om om) ?_
 refine dn @bG ?_
 refine jh @bG (pI (fl 256 (xB x y) (nv 256 x+nv 256 y)) (jG dc _ _) om) ?_
 refine dn (ai @ev @bG) ?_
 refine hK _ ?_
 clear hK K
 try (refine hK _ ?_;clear hK K)
 refine aP @bG ?_
 exact oC @bG
theorem Ja{x y:List Nat}(hx:Lt 256 x)(hy:Lt 256 y)(h:nv 256 y≤nv 256 x)(t:tz y=y):nv 256 (fl 256 x.length (nv 256 x+256^x.length-nv 256 (y.take x.length)))=nv 256 x-nv 256 y:=by
 have h1:=b_ hx;have hl:y.length≤x.length:=by
  rcases Nat.eq_zero_or_pos y.length with h0|h0
  ·omega
  ·have h2:=yT (b:=256) t (fun h=>by rw[h]at h0;simp at h0);have h3:256^(y.length-1)<256^x.length:=om;have:=(Nat.pow_lt_pow_iff_right (by decide:1<256)).1 h3;omega
 rw[kQ,List.take_of_length_le hl,show nv 256 x+256^x.length-nv 256 y=(nv 256 x-nv 256 y)+256^x.length from om,Nat.add_mod_right,Nat.mod_eq_of_lt om]
end Go.Proofs.YtoehbmlfnjlchaaGreatDoor
namespace Go.Proofs.YtoehbmlfnjlchaaGreatDoor
open Go Go.RowKit Ab
def dK:=an @aU (an @qJ (an @Nat.div_one (an @Nat.mul_one (an @bI (an @gU (an @Af (an @fK (an @sK @wi))))))))
def Bl(a:List Nat):List V:=a.map fun x:Nat=> .b (decide (x=1))
theorem d_(a:List Nat):(Bl a).length=a.length:=by simp[Bl]
theorem ed:Bl []=[]:=rfl
theorem v_(a:List Nat)(i:Nat)(h:i<a.length):(Bl a).getD i .un= .b (decide (a.getD i 0=1)):=by simp[Bl,List.getD_eq_getElem?_getD,h]
theorem Jb(a:List Nat)(i:Nat):(Bl a).take i=Bl (a.take i):=by simp[Bl]
theorem Vo(a:List Nat)(i:Nat):(Bl a).drop i=Bl (a.drop i):=by simp[Bl]
theorem aay(a b:List Nat):Bl a++Bl b=Bl (a++b):=by simp[Bl]
theorem Vp(a:List Nat):(Bl a).all V.cell=true:=by simp[Bl,V.cell]
theorem gY(a:List Nat):kM (Bl a)=false:=by
 induction a with
 |nil=>rfl
 |cons x r ih=>simpa[Bl,kM,V.nf]using ih
theorem Vq(a:List Nat)(x:Nat):Bl a++[V.b (decide (((x:Nat):Int)=1))]=Bl (a++[x]):=by
 have:decide (((x:Nat):Int)=1)=decide (x=1):=by congr 1;simp only[eq_iff_iff];omega
 rw[this];simp[Bl]
theorem aaz(a:Nat):(a:Int).tmod 2=((a%2:Nat):Int):=rfl
theorem aaA(a:Nat):(a:Int).tdiv 2=((a/2:Nat):Int):=rfl
theorem P9(i:Nat):256^i=2^(8*i):=by rw[Nat.pow_mul]
theorem P_{l:List Nat}(h:Lt 2 l)(i:Nat):l.getD i 0=0∨l.getD i 0=1:=by have:=nO h dc i;omega
def a86:AC:= .seq (.reg [qr 2 (.mv (.k .nl))]) (.seq (.reg [qm 8 0,qr 9 (.call 81 [(1,(.t 8))]),qm 3 9]) (.seq (.reg [qr 4 (.mv (.k .nl))]) (.seq (.seq (.reg [qr 5 (.mv (.k (.i .i64 0)))]) (.blk 0 (.loop (.seq (.seq (.reg [qm 10 5,qm 11 3,qr 12 (.len (.t 11)),qr 13 (.bin .lss (.t 10) (.t 12))]) (.cond (.t 13) (.skip) (.exit 0))) (.seq (.blk 1 (.seq (.reg [qm 16 3,qm 17 5,qr 18 (.idx 1 (.t 16) (.t 17)),qr 19 (.ld false 1 (.t 18)),qm 6 19]) (.seq (.reg [qr 7 (.mv (.k (.i .i64 0)))]) (.blk 2 (.loop (.seq (.seq (.reg [qm 20 7,qr 21 (.bin .lss (.t 20) (.k (.i .i64 8)))]) (.cond (.t 21) (.skip) (.exit 2))) (.seq (.blk 3 (.seq (.reg [qm 24 4,qm 25 6,qr 26 (.bin .rem (.t 25) (.k (.i .i64 2))),qr 27 (.bin .eql (.t 26) (.k (.i .i64 1))),qr 28 (.nz 4 1 1 [(.b false)] [(0,(.t 27))]),qr 29 (.app 4 1 1 (.t 24) (.t 28)),qm 4 29]) (.reg [qm 30 6,qr 31 (.bin .quo (.t 30) (.k (.i .i64 2))),qm 6 31]))) (.reg [qm 22 7,qr 23 (.bin .add (.t 22) (.k (.i .i64 1))),qm 7 23])))))))) (.reg [qm 14 5,qr 15 (.bin .add (.t 14) (.k (.i .i64 1))),qm 5 15])))))) (.seq (.blk 4 (.loop (.seq (.seq (.reg [qm 32 4,qr 33 (.len (.t 32)),qr 34 (.bin .gtr (.t 33) (.k (.i .i64 0))),qm 35 34,⟨some 36,some (35,true),.mv (.t 4)⟩,⟨some 37,some (35,true),.mv (.t 4)⟩,⟨some 38,some (35,true),.len (.t 37)⟩,⟨some 39,some (35,true),.bin .sub (.t 38) (.k (.i .i64 1))⟩,⟨some 40,some (35,true),.idx 1 (.t 36) (.t 39)⟩,⟨some 41,some (35,true),.ld false 1 (.t 40)⟩,⟨some 42,some (35,true),.un .not (.t 41)⟩,qr 43 (.pick (.t 35) (.t 42) (.k (.b false)))]) (.cond (.t 43) (.skip) (.exit 4))) (.blk 5 (.reg [qm 44 4,qm 45 4,qr 46 (.len (.t 45)),qr 47 (.bin .sub (.t 46) (.k (.i .i64 1))),qr 48 (.sub 1 (.t 44) none (some (.t 47))),qm 4 48]))))) (.seq (.reg [qm 49 4,qm 2 49]) (.ret))))))
theorem uN(a:List Nat)(ha:Wd a)(la:a.length≤10000000000):aF Tryz.prog J0 86 [.l 1 (W a)] (.l 1 (Bl (dg 2 (nv B a)))):=by
 refine ja dB eY Tryz.func86 a86 ?_;unfold a86;simp only[ak,aH,qm,qr,qn];obtain⟨d,hd⟩:∃d,d=dg 256 (nv B a):=⟨_,rfl⟩;have hld:=gW ha;have hdl:Lt 256 d:=by rw[hd];exact jM dc _
 have hdv:nv 256 d=nv B a:=by rw[hd,jd D2]
 rw[←hd]at hld;have hspec:=dG a ha om;rw[←hd]at hspec;rw[←hdv];refine tu (ai @ed (ai @gY (ai @d_ @dK))) ?_;refine bD [(4,4,1)] Nat (fun i=>⟨[(3,.l 1 (D d)),(4,.ow 1 0 (8*i)),(5,.i .i64 (i:Int))],[(0,some ⟨4,1,Bl (fl 2 (8*i) (nv 256 (d.take i))),true,false⟩)],1⟩)
  (fun i=>i≤d.length) (fun i=>d.length-i) 0 (Nat.zero_le _) (by exact ni) (by
  exact qj) ?_
 intro i hi Q' hQ he hr;by_cases h:(i:Int)<d.length
 ·have hdi:=nO hdl dc i;refine aP (ai @mG (ai @h (ai @ed (ai @gY (ai @d_ @dK))))) ?_;refine bD [] Nat (fun k=>⟨[(3,.l 1 (D d)),(4,.ow 1 0 (8*i+k)),(5,.i .i64 (i:Int)),(6,.i .i64 ((d.getD i 0/2^k:Nat):Int)),(7,.i .i64 (k:Int))],[(0,some ⟨4,1,Bl (fl 2 (8*i) (nv 256 (d.take i))++fl 2 k (d.getD i 0)),true,false⟩)],1⟩)
   (fun k=>k≤8) (fun k=>8-k) 0 (Nat.zero_le _) (by exact ni) (by
   refine iP trivial ?_
   simp[fl]) ?_
  intro k hk Q'' hQ' he' hr';by_cases h1:(k:Int)<8
  ·have hq:d.getD i 0/2^k<256:=Nat.lt_of_le_of_lt (Nat.div_le_self _ _) hdi;generalize hqq:d.getD i 0/2^k=q at hq ⊢;refine aP (ai @Vq (ai @aaA (ai @aaz (ai @h1 (ai @ed (ai @gY (ai @d_ @dK))))))) ?_;refine hQ' _ (k+1) om om ?_;refine iP trivial ?_;exact⟨⟨om,by rw[Nat.pow_succ,←Nat.div_div_eq_div_mul,hqq],om⟩,by rw[dP,hqq,List.append_assoc]⟩
  ·obtain rfl:k=8:=om;refine aP (ai @h1 (ai @ed (ai @gY (ai @d_ @dK)))) ?_;refine he' _ _ ?_;refine aP (ai @ed (ai @gY (ai @d_ @dK))) ?_;refine hQ _ (i+1) om om ?_;refine iP trivial ?_;refine⟨om,?_⟩;have hlt:=bV (b:=256) dc hdl i;rw[P9]at hlt;rw[show 8*(i+1)=8*i+8 from om,vX,au,P9,Nat.add_mul_div_left _ _ (Nat.pow_pos dc),Nat.div_eq_of_lt hlt,Nat.zero_add,
    dZ (b:=2) dc (n:=8*i) (v:=nv 256 (d.take i)+2^(8*i)*d.getD i 0) (u:=nv 256 (d.take i)) (by rw[Nat.add_mul_mod_self_left])]
 ·obtain rfl:i=d.length:=om;refine aP (ai @h (ai @ed (ai @gY (ai @d_ @dK)))) ?_;refine he _ _ ?_;rw[List.take_length];obtain⟨row,hrow⟩:∃row,row=fl 2 (8*d.length) (nv 256 d):=⟨_,rfl⟩;have hrl:row.length=8*d.length:=by rw[hrow,bC]
  have hr2:Lt 2 row:=by rw[hrow];exact jG dc _ _
  have htz:tz row=dg 2 (nv 256 d):=by rw[hrow];exact sJ dc (by rw[←P9];exact b_ hdl)
  rw[←hrow,←hrl,←htz];refine aP (ai @ed (ai @gY (ai @d_ @dK))) ?_;refine bD [] Nat (fun m=>⟨[(4,.sl 1 0 0 m)],[(0,some ⟨4,1,Bl row,true,false⟩)],1⟩) (fun m=>m≤row.length∧tz row=tz (row.take m)) (fun m=>m) row.length ⟨Nat.le_refl _,by rw[List.take_length]⟩ (by exact ni) (by exact ni) ?_;intro m ⟨hm,ht⟩ Q2 hQ2 he2 hr3;by_cases h0:0<(m:Int)
  ·obtain⟨k,rfl⟩:∃k,m=k+1:=⟨m-1,om⟩;rcases P_ hr2 k with hb|hb
   ·have hb':¬row.getD k 0=1:=om;refine aP (ai @Nat.zero_add (ai @Nat.add_sub_cancel (ai @rP (ai @v_ (ai @hb' (ai @h0 (ai @ed (ai @gY (ai @d_ @dK))))))))) ?_;refine hQ2 _ k ⟨om,?_⟩ om ?_
    ·rw[ht];exact uM row k om hb
    ·simp(disch:=(first|omega|assumption)) only[Sl,Sa,Sw,↓reduceIte,Nat.reduceEqDiff,Nat.reduceLT,List.all_nil,List.all_cons,Nat.reduceBneDiff,Nat.reduceAdd,bne_iff_ne,ne_eq,reduceCtorEq,not_false_eq_true,not_true_eq_false,Bool.and_true,Bool.true_and,and_true,true_and,and_self,iE];try omega
   ·refine aP (ai @Nat.zero_add (ai @Nat.add_sub_cancel (ai @rP (ai @v_ (ai @hb (ai @h0 (ai @ed (ai @gY (ai @d_ @dK))))))))) ?_;refine he2 _ _ ?_;have e:=xQ row;rw[ht,GZ row k om om]at e;have e2:row.take (k+1)=tz row:=by rw[ht];exact e
    refine aP (ai @ed (ai @gY (ai @d_ @dK))) ?_;refine rO (ai @e2 (ai @Jb (ai @ed (ai @gY (ai @d_ @dK))))) ?_;omega
  ·obtain rfl:m=0:=om;refine aP (ai @h0 (ai @ed (ai @gY (ai @d_ @dK)))) ?_;refine he2 _ _ ?_;refine aP (ai @ed (ai @gY (ai @d_ @dK))) ?_;refine rO (ai @Nat.zero_mul (ai @ht (ai @ed (ai @gY (ai @d_ @dK))))) ?_;exact⟨Nat.zero_le _,rfl⟩
def a88:AC:= .seq (.reg [qr 2 (.mv (.k .nl))]) (.seq (.reg [qr 3 (.mv (.k .nl))]) (.seq (.seq (.reg [qr 4 (.mv (.k (.i .i64 0)))]) (.blk 0 (.loop (.seq (.seq (.reg [qm 7 4,qm 8 0,qr 9 (.len (.t 8)),qr 10 (.bin .lss (.t 7) (.t 9))]) (.cond (.t 10) (.skip) (.exit 0))) (.seq (.blk 1 (.seq (.reg [qr 5 (.mv (.k (.i .i64 0)))]) (.seq (.seq (.reg [qr 6 (.mv (.k (.i .i64 7)))]) (.blk 2 (.loop (.seq (.seq (.reg [qm 13 6,qr 14 (.bin .geq (.t 13) (.k (.i .i64 0)))]) (.cond (.t 14) (.skip) (.exit 2))) (.seq (.blk 3 (.seq (.reg [qm 17 5,qr 18 (.bin .mul (.k (.i .i64 2)) (.t 17)),qm 5 18]) (.seq (.reg [qm 19 4,qm 20 6,qr 21 (.bin .add (.t 19) (.t 20)),qm 22 0,qr 23 (.len (.t 22)),qr 24 (.bin .lss (.t 21) (.t 23)),qm 25 24,⟨some 26,some (25,true),.mv (.t 0)⟩,⟨some 27,some (25,true),.mv (.t 4)⟩,⟨some 28,some (25,true),.mv (.t 6)⟩,⟨some 29,some (25,true),.bin .add (.t 27) (.t 28)⟩,⟨some 30,some (25,true),.idx 1 (.t 26) (.t 29)⟩,⟨some 31,some (25,true),.ld false 1 (.t 30)⟩,qr 32 (.pick (.t 25) (.t 31) (.k (.b false)))]) (.cond (.t 32) (.reg [qm 33 5,qr 34 (.bin .add (.t 33) (.k (.i .i64 1))),qm 5 34]) (.skip))))) (.reg [qm 15 6,qr 16 (.bin .sub (.t 15) (.k (.i .i64 1))),qm 6 16])))))) (.reg [qm 35 3,qm 36 5,qr 37 (.nz 3 1 1 [(.i .i64 0)] [(0,(.t 36))]),qr 38 (.app 3 1 8 (.t 35) (.t 37)),qm 3 38])))) (.reg [qm 11 4,qr 12 (.bin .add (.t 11) (.k (.i .i64 8))),qm 4 12])))))) (.seq (.reg [qm 39 3,qr 40 (.call 79 [(1,(.t 39))]),qm 2 40]) (.ret))))
theorem pJ(l:List Nat)(hl:Lt 2 l)(ll:l.length≤1000000000000):aF Tryz.prog J0 88 [.l 1 (Bl l)] (.o 54 1 (W (dg B (nv 2 l)))):=by
 refine ja dB eY Tryz.func88 a88 ?_;unfold a88;simp only[ak,aH,qm,qr,qn];obtain⟨v,hv⟩:∃v,v=nv 2 l:=⟨_,rfl⟩;refine aP (ai @ed (ai @gY (ai @d_ @dK))) ?_;refine bD [(3,3,1)] Nat (fun i=>⟨[(0,.l 1 (Bl l)),(3,.ow 1 0 i),(4,.i .i64 ((8*i:Nat):Int))],[(0,some ⟨3,1,D (fl 256 i v),true,false⟩)],1⟩)
  (fun i=>8*i<l.length+8) (fun i=>l.length+8-8*i) 0 om (by exact ni) (by
  exact qj) ?_
 intro i hi Q' hQ he hr;by_cases h:((8*i:Nat):Int)<l.length
 ·obtain⟨w,hw⟩:∃w,w=v/256^i%256:=⟨_,rfl⟩;have hwl:w<256:=by rw[hw];exact Nat.mod_lt _ dc
  refine aP (ai @h (ai @ed (ai @gY (ai @d_ @dK)))) ?_;refine bD [] Nat (fun k=>⟨[(0,.l 1 (Bl l)),(3,.ow 1 0 i),(4,.i .i64 ((8*i:Nat):Int)),(5,.i .i64 ((w/2^k:Nat):Int)),(6,.i .i64 ((k:Int)-1))],[(0,some ⟨3,1,D (fl 256 i v),true,false⟩)],1⟩)
   (fun k=>k≤8) (fun k=>k) 8 om (by exact ni) (by
   refine iP trivial ?_
   omega) ?_
  intro k hk Q'' hQ' he' hr';by_cases h1:(0:Int)≤(k:Int)-1
  ·obtain⟨n,rfl⟩:∃n,k=n+1:=⟨k-1,om⟩;have e:((n+1:Nat):Int)-1=(n:Int):=om;have h1:(0:Int)≤(n:Int):=om;have Xk:l.getD (8*i+n) 0=w/2^n%2:=by
    rw[iQ (b:=2) dc hl,hw,←hv,Nat.pow_add,←Nat.div_div_eq_div_mul,←P9];rw[show 256=2^n*2^(8-n)from by rw[←Nat.pow_add,show n+(8-n)=8 from om],Nat.mod_mul_right_div_self];rw[show 2^(8-n)=2*2^(7-n)from by rw[Nat.mul_comm,←Nat.pow_succ];congr 1;omega,Nat.mod_mul_right_mod]
   have hx:w/2^n<256:=Nat.lt_of_le_of_lt (Nat.div_le_self _ _) hwl;obtain⟨x,hx0⟩:∃x,x=w/2^n:=⟨_,rfl⟩;rw[Nat.pow_succ,←Nat.div_div_eq_div_mul,←hx0];rw[←hx0]at Xk hx;simp only[e];by_cases h2:((8*i:Nat):Int)+(n:Int)<l.length
   ·have tn:(((8*i:Nat):Int)+(n:Int)).toNat=8*i+n:=om;rcases P_ hl (8*i+n)with hb|hb
    ·have hb':¬l.getD (8*i+n) 0=1:=om;refine aP (ai @hb' (ai @v_ (ai @tn (ai @h2 (ai @h1 (ai @ed (ai @gY (ai @d_ @dK)))))))) ?_;refine hQ' _ n om om ?_;refine iP trivial ?_;rw[←hx0];omega
    ·refine aP (ai @hb (ai @v_ (ai @tn (ai @h2 (ai @h1 (ai @ed (ai @gY (ai @d_ @dK)))))))) ?_;refine hQ' _ n om om ?_;refine iP trivial ?_;rw[←hx0];omega
   ·rw[List.getD_eq_getElem?_getD,List.getElem?_eq_none om]at Xk;refine aP (ai @h2 (ai @h1 (ai @ed (ai @gY (ai @d_ @dK))))) ?_;refine hQ' _ n om om ?_;refine iP trivial ?_;rw[←hx0];simp at Xk;omega
  ·obtain rfl:k=0:=om;refine aP (ai @h1 (ai @ed (ai @gY (ai @d_ @dK)))) ?_;refine he' _ _ ?_;refine aP (ai @aav (ai @ed (ai @gY (ai @d_ @dK)))) ?_;refine hQ _ (i+1) om om ?_;refine iP trivial ?_;refine⟨om,by rw[dP,←hw]<;>simp⟩
 ·have e:nv 256 (fl 256 i v)=v:=by
   rw[kQ,Nat.mod_eq_of_lt];rw[hv,P9];exact Nat.lt_of_lt_of_le (b_ hl) (Nat.pow_le_pow_right dc om)
  have hof:=pI (fl 256 i v) (jG dc _ _) (by rw[bC];omega);rw[e,hv]at hof;refine aP (ai @h (ai @ed (ai @gY (ai @d_ @dK)))) ?_;refine he _ _ ?_;rw[hv];exact tC (ai @ed (ai @gY (ai @d_ @dK)))
end Go.Proofs.YtoehbmlfnjlchaaGreatDoor
namespace Go.Proofs.YtoehbmlfnjlchaaGreatDoor
open Go Go.RowKit Ab
def cZ:=an @aU (an @Nat.div_one (an @Nat.mul_one (an @bI (an @gU (an @fK (an @I8 (an @I9 (an @wi (an @wu @Eh)))))))))
theorem B1:0<B:=dc
def a73:AC:= .seq (.reg [qr 4 (.mv (.k .nl)),qr 5 (.mv (.k (.i .i64 0)))]) (.seq (.seq (.reg [qm 12 1,qr 13 (.bin .lss (.t 12) (.k (.i .i64 0))),qm 14 13,⟨some 15,some (14,false),.mv (.t 1)⟩,⟨some 16,some (14,false),.bin .gtr (.t 15) (.k (.i .i64 1048576))⟩,qr 17 (.pick (.t 14) (.k (.b true)) (.t 16))]) (.cond (.t 17) (.seq (.reg [qr 4 (.mv (.k .nl)),qr 5 (.mv (.k (.i .i64 3)))]) (.ret)) (.skip))) (.seq (.reg [qm 18 1,qr 19 (.bin .quo (.t 18) (.k (.i .i64 64))),qm 20 1,qr 21 (.bin .rem (.t 20) (.k (.i .i64 64))),qr 22 (.Ad .u64 (.t 21)),qm 6 19,qm 7 22]) (.seq (.reg [qm 23 6,qm 24 6,qm 25 0,qr 26 (.len (.t 25)),qr 27 (.bin .add (.t 24) (.t 26)),qr 28 (.bin .add (.t 27) (.k (.i .i64 1))),qr 29 (.mk 54 1 8 [(.i .u64 0)] (.t 23) (.t 28)),qm 8 29]) (.seq (.seq (.reg [qm 30 7,qr 31 (.bin .eql (.t 30) (.k (.i .u64 0)))]) (.cond (.t 31) (.seq (.reg [qm 32 8,qm 33 0,qr 34 (.app 54 1 8 (.t 32) (.t 33)),qm 4 34,qr 5 (.mv (.k (.i .i64 0)))]) (.ret)) (.skip))) (.seq (.reg [qr 9 (.mv (.k (.i .u64 0)))]) (.seq (.seq (.reg [qm 35 0,qr 36 (.len (.t 35)),qr 37 (.mv (.k (.i .i64 0)))]) (.blk 0 (.loop (.seq (.reg [qr 38 (.bin .lss (.t 37) (.t 36))]) (.seq (.cond (.t 38) (.skip) (.exit 0)) (.seq (.blk 1 (.seq (.reg [qr 39 (.idx 1 (.t 35) (.t 37)),qr 40 (.ld false 1 (.t 39)),qm 11 40]) (.seq (.reg [qm 41 8,qm 42 11,qm 43 7,qr 44 (.bin .shl (.t 42) (.t 43)),qm 45 9,qr 46 (.bin .or (.t 44) (.t 45)),qr 47 (.nz 54 1 1 [(.i .u64 0)] [(0,(.t 46))]),qr 48 (.app 54 1 8 (.t 41) (.t 47)),qm 8 48]) (.reg [qm 49 11,qm 50 7,qr 51 (.bin .sub (.k (.i .u64 64)) (.t 50)),qr 52 (.bin .shr (.t 49) (.t 51)),qm 9 52])))) (.reg [qr 53 (.bin .add (.t 37) (.k (.i .i64 1))),qm 37 53]))))))) (.seq (.reg [qm 54 8,qm 55 9,qr 56 (.nz 54 1 1 [(.i .u64 0)] [(0,(.t 55))]),qr 57 (.app 54 1 8 (.t 54) (.t 56)),qm 4 57,qr 5 (.mv (.k (.i .i64 0)))]) (.ret))))))))
theorem uO(a:List Nat)(n:Nat)(ha:Wd a)(la:a.length≤1000000000000)(hn:n≤1048576):aF Tryz.prog J0 73 [.l 1 (W a),.i .i64 (n:Int)] (.t [.l 1 (W (jv a n)),.i .i64 0]):=by
 refine ja dB eY Tryz.func73 a73 ?_;unfold a73;simp only[ak,aH,qm,qr,qn];have h1:¬(n:Int)<0:=om;have h2:¬(1048576:Int)<(n:Int):=om;have hr64:n%64<64:=Nat.mod_lt _ dc;by_cases h0:((n%64:Nat):Int)=0
 ·have e:jv a n=List.replicate (n/64) 0++a:=by unfold jv;rw[if_pos om]
  refine aP (ai @gQ (ai @yR (ai @h0 (ai @h2 (ai @h1 @cZ))))) ?_;exact oC (ai @e @cZ)
 ·have e:jv a n=List.replicate (n/64) 0++fl B (a.length+1) (nv B a*2^(n%64)):=by unfold jv;rw[if_neg om]
  rw[e];generalize hw:n/64=w at*
  generalize hr:n%64=r at*
  have hwl:w≤1048576:=om;have G7:(List.replicate w 0).length=w:=sy;refine aP (ai @hr (ai @hw (ai @h0 (ai @h2 (ai @h1 @cZ))))) ?_;refine bD [] Nat (fun i=>⟨[(8,.ow 1 0 (w+i)),(7,.i .u64 (r:Int)),(9,.i .u64 ((nv B (a.take i)*2^r/B^i:Nat):Int)),(35,.l 1 (W a)),(36,.i .i64 (a.length:Int)),(37,.i .i64 (i:Int))],[(0,some ⟨54,1,W (List.replicate w 0++fl B i (nv B (a.take i)*2^r)),true,false⟩)],1⟩)
   (fun i=>i≤a.length) (fun i=>a.length-i) 0 (Nat.zero_le _) (by exact ni) (by
   refine iP trivial ?_
   simp[nv,fl]) ?_
  intro i hi Q' hQ he hr';obtain⟨s1,s2,s3,s4⟩:=PV (P:=B^i) (V:=nv B (a.take i)) (x:=a.getD i 0) (r:=r) (Nat.pow_pos B1) (bV B1 ha i) (nO ha B1 i) om;have hxl:=dI ha i;have hlow:nv B (a.take i)*2^r/B^i<18446744073709551616:=Nat.lt_of_lt_of_le s4 (by have:(18446744073709551616:Nat)=2^64:=rfl;rw[this];exact Nat.pow_le_pow_right dc om);by_cases h:(i:Int)<a.length
  ·have hor:=Ee (a.getD i 0*2^r%18446744073709551616) (nv B (a.take i)*2^r/B^i) (Nat.mod_lt _ dc) hlow;rw[G6 om s4,←s1]at hor;have hsh:=AB (a.getD i 0) r om;have FB:=kR (a.getD i 0) (64-r) om;rw[←s2]at FB;have e1:fl B i (nv B (a.take i)*2^r)++[(nv B (a.take i)+B^i*a.getD i 0)*2^r/B^i%B]=fl B (i+1) (nv B (a.take (i+1))*2^r):=by
    rw[dP,au,dZ B1 s3]
   repeat first
    |(refine hK _ ?_;clear hK K)
    |((first|refine aI (fun K hK=>?_)|refine aT (fun K hK=>?_)|refine aK (fun K hK=>?_));simp(disch:=(first|omega|assumption)) only[S1,↓reduceIte,Nat.reduceEqDiff,Nat.reduceAdd,Nat.reduceMul,Nat.reduceDiv,bY.sb,bY.mut,dH,↓Bool.false_eq_true,beq_self_eq_true,ite_self,Nat.reduceLeDiff,Int.reduceEq,Int.reduceSub,Int.reduceAdd,Int.reduceNeg,Int.reduceLT,Int.reduceLE,Nat.reduceLT,cZ,h,dD,hsh,hor,FB,AL,Cc,List.append_assoc,e1];refine hK _ ?_;clear hK K)
    |simp only[Sv,↓reduceIte,Nat.reduceEqDiff]
   refine hQ _ (i+1) om om ?_;refine iP trivial ?_;refine⟨om,?_,om⟩;rw[au,Nat.pow_succ]
  ·obtain rfl:i=a.length:=om;have e2:nv B a*2^r/B^a.length%B=nv B a*2^r/B^a.length:=by
    rw[List.take_length]at hlow;exact Nat.mod_eq_of_lt hlow
   refine aP (ai @h @cZ) ?_;refine he _ _ ?_;rw[List.take_length];have e3:fl B a.length (nv B a*2^r)++[nv B a*2^r/B^a.length]=fl B (a.length+1) (nv B a*2^r):=by rw[dP,e2]
   repeat first
    |(refine hK _ ?_;clear hK K)
    |((first|refine aI (fun K hK=>?_)|refine aT (fun K hK=>?_)|refine aK (fun K hK=>?_));simp(disch:=(first|omega|assumption)) only[S1,↓reduceIte,Nat.reduceEqDiff,Nat.reduceAdd,Nat.reduceMul,Nat.reduceDiv,bY.sb,bY.mut,dH,↓Bool.false_eq_true,beq_self_eq_true,ite_self,Nat.reduceLeDiff,Int.reduceEq,Int.reduceSub,Int.reduceAdd,Int.reduceNeg,Int.reduceLT,Int.reduceLE,Nat.reduceLT,cZ,Cc,List.append_assoc,e3];refine hK _ ?_;clear hK K)
    |simp only[Sv,↓reduceIte,Nat.reduceEqDiff]
   exact oC @cZ
theorem wz(a b:Nat):((a:Int)+(b:Int)).toNat=a+b:=om
theorem wC{m i v d:Nat}(hi:i<m)(hd:d=v/B^i%B):(fl B i v++List.replicate (m-i) 0).set i d=fl B (i+1) v++List.replicate (m-(i+1)) 0:=by
 obtain⟨k,hk⟩:∃k,m-i=k+1:=⟨m-i-1,om⟩;rw[dP,hk,show m-(i+1)=k from om,List.set_append_right _ _ (by rw[bC];omega),bC,Nat.sub_self,List.replicate_succ,List.set_cons_zero,hd,List.append_assoc];rfl
theorem uP(l:List Nat)(i x:Nat)(h:i<l.length):(l.set i x).getD i 0=x:=by
 rw[List.getD_eq_getElem?_getD,List.getElem?_set_self h];rfl
def a76:AC:= .seq (.reg [qr 4 (.mv (.k .nl)),qr 5 (.mv (.k (.b false))),qr 6 (.mv (.k (.i .i64 0)))]) (.seq (.seq (.reg [qm 12 1,qr 13 (.bin .lss (.t 12) (.k (.i .i64 0)))]) (.cond (.t 13) (.seq (.reg [qr 4 (.mv (.k .nl)),qr 5 (.mv (.k (.b false))),qr 6 (.mv (.k (.i .i64 3)))]) (.ret)) (.skip))) (.seq (.reg [qm 14 1,qr 15 (.bin .quo (.t 14) (.k (.i .i64 64))),qm 16 1,qr 17 (.bin .rem (.t 16) (.k (.i .i64 64))),qr 18 (.Ad .u64 (.t 17)),qm 7 15,qm 8 18]) (.seq (.seq (.reg [qm 19 7,qm 20 0,qr 21 (.len (.t 20)),qr 22 (.bin .geq (.t 19) (.t 21))]) (.cond (.t 22) (.seq (.reg [qm 23 0,qr 24 (.call 101 [(1,(.t 23))]),qr 25 (.bin .gtr (.t 24) (.k (.i .i64 0))),qr 4 (.mv (.k .nl)),qm 5 25,qr 6 (.mv (.k (.i .i64 0)))]) (.ret)) (.skip))) (.seq (.reg [qm 26 0,qm 27 7,qr 28 (.sub 1 (.t 26) none (some (.t 27))),qr 29 (.call 101 [(1,(.t 28))]),qr 30 (.bin .gtr (.t 29) (.k (.i .i64 0))),qm 31 30,⟨some 32,some (31,false),.mv (.t 0)⟩,⟨some 33,some (31,false),.mv (.t 7)⟩,⟨some 34,some (31,false),.idx 1 (.t 32) (.t 33)⟩,⟨some 35,some (31,false),.ld false 1 (.t 34)⟩,⟨some 36,some (31,false),.mv (.t 8)⟩,⟨some 37,some (31,false),.bin .sub (.k (.i .u64 64)) (.t 36)⟩,⟨some 38,some (31,false),.bin .shl (.t 35) (.t 37)⟩,⟨some 39,some (31,false),.bin .neq (.t 38) (.k (.i .u64 0))⟩,⟨some 40,some (31,false),.mv (.t 39)⟩,⟨some 41,some (40,true),.mv (.t 8)⟩,⟨some 42,some (40,true),.bin .gtr (.t 41) (.k (.i .u64 0))⟩,⟨some 43,some (31,false),.pick (.t 40) (.t 42) (.k (.b false))⟩,qr 44 (.pick (.t 31) (.k (.b true)) (.t 43)),qm 9 44]) (.seq (.reg [qm 45 0,qr 46 (.len (.t 45)),qm 47 7,qr 48 (.bin .sub (.t 46) (.t 47)),qr 49 (.mk 54 1 8 [(.i .u64 0)] (.t 48) (.t 48)),qm 10 49]) (.seq (.seq (.reg [qm 50 10,qr 51 (.len (.t 50)),qr 52 (.mv (.k (.i .i64 0)))]) (.blk 0 (.loop (.seq (.reg [qr 53 (.bin .lss (.t 52) (.t 51))]) (.seq (.cond (.t 53) (.skip) (.exit 0)) (.seq (.blk 1 (.seq (.reg [qm 54 52,qm 11 54]) (.seq (.reg [qm 55 10,qm 56 11,qm 57 0,qm 58 7,qm 59 11,qr 60 (.bin .add (.t 58) (.t 59)),qr 61 (.idx 1 (.t 57) (.t 60)),qr 62 (.ld false 1 (.t 61)),qm 63 8,qr 64 (.bin .shr (.t 62) (.t 63)),qr 65 (.idx 1 (.t 55) (.t 56)),qn (.st 1 (.t 65) (.t 64))]) (.seq (.reg [qm 66 8,qr 67 (.bin .gtr (.t 66) (.k (.i .u64 0)))]) (.cond (.t 67) (.gp [qm 68 10,qm 69 11,qr 70 (.idx 1 (.t 68) (.t 69)),qr 71 (.ld false 1 (.t 70)),qm 72 0,qm 73 7,qm 74 11,qr 75 (.bin .add (.t 73) (.t 74)),qr 76 (.bin .add (.t 75) (.k (.i .i64 1))),qr 77 (.call 90 [(1,(.t 72)),(1,(.t 76))]),qm 78 8,qr 79 (.bin .sub (.k (.i .u64 64)) (.t 78)),qr 80 (.bin .shl (.t 77) (.t 79)),qr 81 (.bin .or (.t 71) (.t 80)),qr 82 (.idx 1 (.t 68) (.t 69)),qn (.st 1 (.t 82) (.t 81))]) (.skip)))))) (.reg [qr 83 (.bin .add (.t 52) (.k (.i .i64 1))),qm 52 83]))))))) (.seq (.reg [qm 84 10,qm 85 9,qm 4 84,qm 5 85,qr 6 (.mv (.k (.i .i64 0)))]) (.ret))))))))
theorem CE(a:List Nat)(n:Nat)(ha:Wd a)(la:a.length≤1000000000000)(hn:n<9223372036854775808):aF Tryz.prog J0 76 [.l 1 (W a),.i .i64 (n:Int)] (.t [.l 1 (W (fl B (a.length-n/64) (nv B a/2^n))),.any,.i .i64 0]):=by
 refine ja dB eY Tryz.func76 a76 ?_;unfold a76;simp only[ak,aH,qm,qr,qn];have h1:¬(n:Int)<0:=om;have hr64:n%64<64:=Nat.mod_lt _ dc;have hdig:=fun i=>La (A:=nv B a) (n:=n) (i:=i)
 generalize nv B a/2^n=v at hdig ⊢;generalize hw:n/64=w at*
 generalize hr:n%64=r at*
 by_cases hge:(a.length:Int)≤(w:Int)
 ·have e:a.length-w=0:=om;have MM:=oG a om;refine wdO (ai @e (ai @hge (ai @hr (ai @hw (ai @h1 @cZ))))) ?_;rfl
 ·obtain⟨m,hm⟩:∃m,a.length=w+m:=⟨a.length-w,om⟩;have em:a.length-w=m:=om;have hsub:(a.length:Int)-(w:Int)=(m:Int):=om;have hsh:=AB (a.getD w 0) (64-r) om;have G7:(List.replicate m 0).length=m:=sy;rw[em];by_cases g1:0<(((tz (a.take w)).length:Nat):Int)
  ·have zc2:=oG (a.take w) (by rw[List.length_take];omega);refine tu (ai @G7 (ai @hsub (ai @g1 (ai @mJ (ai @hge (ai @hr (ai @hw (ai @h1 @cZ)))))))) ?_;refine bD [] Nat (fun i=>⟨[(0,.l 1 (W a)),(7,.i .i64 (w:Int)),(8,.i .u64 (r:Int)),(10,.ow 1 0 m),(51,.i .i64 (m:Int)),(52,.i .i64 (i:Int))],[(0,some ⟨54,1,W (fl B i v++List.replicate (m-i) 0),true,false⟩)],1⟩)
    (fun i=>i≤m) (fun i=>m-i) 0 (Nat.zero_le _) (by exact ni) (by
    refine iP trivial ?_
    simp[fl]) ?_
   intro i hi Q' hQ he hr';by_cases h:(i:Int)<m
   ·have hd:=hdig i;have d0:=iQ (b:=B) B1 ha (w+i);have d1:=iQ (b:=B) B1 ha (w+i+1);rw[Nat.pow_succ,←Nat.div_div_eq_div_mul]at d1;generalize nv B a/B^(w+i)=X at hd d0 d1;have ll:(fl B i v++List.replicate (m-i) 0).length=m:=by rw[List.length_append,bC,List.length_replicate];omega
    have FB:=kR (a.getD (w+i) 0) r om;have hbw:w+i<a.length:=om;by_cases hr0:0<(r:Int)
    ·obtain⟨s1,s2⟩:=yU (X:=X) (r:=r) om om;rw[←hd,←d0,←d1]at s1;rw[←d0]at s2;have hor:=Ee (a.getD (w+i) 0/2^r) (a.getD (w+i+1) 0*2^(64-r)%18446744073709551616) (Nat.lt_of_le_of_lt (Nat.div_le_self _ _) (dI ha _)) (Nat.mod_lt _ dc);rw[Ci om s2,←s1]at hor;have hsl:=AB (a.getD (w+i+1) 0) (64-r) om;have ll2:((fl B i v++List.replicate (m-i) 0).set i (a.getD (w+i) 0/2^r)).length=m:=by rw[List.length_set,ll]
     have hset:=wC (v:=v) (i:=i) (m:=m) om rfl;have zc3:=jk a (w+i+1);repeat first|(refine hK _ ?_;clear hK K)|simp only[Sv,↓reduceIte,Nat.reduceEqDiff]|((first|refine aI (fun K hK=>?_)|refine aT (fun K hK=>?_)|refine aK (fun K hK=>?_)|refine oh ?_|refine kC (by assumption) ?_|refine oz ?_|(apply kD;assumption)|(apply kz;assumption));simp(disch:=(first|omega|assumption)) only[S1,↓reduceIte,Nat.reduceEqDiff,Nat.reduceAdd,Nat.reduceMul,Nat.reduceDiv,bY.sb,bY.mut,dH,↓Bool.false_eq_true,beq_self_eq_true,ite_self,Nat.reduceLeDiff,Int.reduceEq,Int.reduceSub,Int.reduceAdd,Int.reduceNeg,Int.reduceLT,Int.reduceLE,Nat.reduceLT,cZ,h,hr0,FB,wz,dD,je,ll,ll2,hsl,hor,AL,uP,List.set_set,hset])
     refine hQ _ (i+1) om om ?_;refine iP trivial ?_;omega
    ·have r0:r=0:=om;have hset:=wC (v:=v) (i:=i) (m:=m) (d:=a.getD (w+i) 0/2^r) om (by rw[hd,d0,r0];simp);refine aP (ai @hset (ai @ll (ai @je (ai @FB (ai @dD (ai @wz (ai @hr0 (ai @h @cZ)))))))) ?_;refine hQ _ (i+1) om om ?_;refine iP trivial ?_;omega
   ·obtain rfl:i=m:=om;refine aP (ai @h @cZ) ?_;refine he _ _ ?_;refine aP @cZ ?_;simp(disch:=(first|omega|assumption)) only[fO,iD,iK,ku,gG,V.aV,and_true,true_and,S1,↓reduceIte,Nat.reduceEqDiff,Nat.reduceAdd,Nat.reduceMul,Nat.reduceDiv,bY.sb,bY.mut,dH,↓Bool.false_eq_true,beq_self_eq_true,ite_self,Nat.reduceLeDiff,Int.reduceEq,Int.reduceSub,Int.reduceAdd,Int.reduceNeg,Int.reduceLT,Int.reduceLE,Nat.reduceLT,cZ,Nat.sub_self,List.replicate_zero]
  ·by_cases g2:((a.getD w 0*2^(64-r)%18446744073709551616:Nat):Int)=0
   ·have zc4:=oG (a.take w) (by rw[List.length_take];omega);refine tu (ai @G7 (ai @hsub (ai @g2 (ai @hsh (ai @AL (ai @g1 (ai @dD (ai @mJ (ai @hge (ai @hr (ai @hw (ai @h1 @cZ)))))))))))) ?_;refine bD [] Nat (fun i=>⟨[(0,.l 1 (W a)),(7,.i .i64 (w:Int)),(8,.i .u64 (r:Int)),(10,.ow 1 0 m),(51,.i .i64 (m:Int)),(52,.i .i64 (i:Int))],[(0,some ⟨54,1,W (fl B i v++List.replicate (m-i) 0),true,false⟩)],1⟩)
     (fun i=>i≤m) (fun i=>m-i) 0 (Nat.zero_le _) (by exact ni) (by
     refine iP trivial ?_
     simp[fl]) ?_
    intro i hi Q' hQ he hr';by_cases h:(i:Int)<m
    ·have hd:=hdig i;have d0:=iQ (b:=B) B1 ha (w+i);have d1:=iQ (b:=B) B1 ha (w+i+1);rw[Nat.pow_succ,←Nat.div_div_eq_div_mul]at d1;generalize nv B a/B^(w+i)=X at hd d0 d1;have ll:(fl B i v++List.replicate (m-i) 0).length=m:=by rw[List.length_append,bC,List.length_replicate];omega
     have FB:=kR (a.getD (w+i) 0) r om;have hbw:w+i<a.length:=om;by_cases hr0:0<(r:Int)
     ·obtain⟨s1,s2⟩:=yU (X:=X) (r:=r) om om;rw[←hd,←d0,←d1]at s1;rw[←d0]at s2;have hor:=Ee (a.getD (w+i) 0/2^r) (a.getD (w+i+1) 0*2^(64-r)%18446744073709551616) (Nat.lt_of_le_of_lt (Nat.div_le_self _ _) (dI ha _)) (Nat.mod_lt _ dc);rw[Ci om s2,←s1]at hor;have hsl:=AB (a.getD (w+i+1) 0) (64-r) om;have ll2:((fl B i v++List.replicate (m-i) 0).set i (a.getD (w+i) 0/2^r)).length=m:=by rw[List.length_set,ll]
      have hset:=wC (v:=v) (i:=i) (m:=m) om rfl;have zc5:=jk a (w+i+1);repeat first|(refine hK _ ?_;clear hK K)|simp only[Sv,↓reduceIte,Nat.reduceEqDiff]|((first|refine aI (fun K hK=>?_)|refine aT (fun K hK=>?_)|refine aK (fun K hK=>?_)|refine oh ?_|refine kC (by assumption) ?_|refine oz ?_|(apply kD;assumption)|(apply kz;assumption));simp(disch:=(first|omega|assumption)) only[S1,↓reduceIte,Nat.reduceEqDiff,Nat.reduceAdd,Nat.reduceMul,Nat.reduceDiv,bY.sb,bY.mut,dH,↓Bool.false_eq_true,beq_self_eq_true,ite_self,Nat.reduceLeDiff,Int.reduceEq,Int.reduceSub,Int.reduceAdd,Int.reduceNeg,Int.reduceLT,Int.reduceLE,Nat.reduceLT,cZ,h,hr0,FB,wz,dD,je,ll,ll2,hsl,hor,AL,uP,List.set_set,hset])
      refine hQ _ (i+1) om om ?_;refine iP trivial ?_;omega
     ·have r0:r=0:=om;have hset:=wC (v:=v) (i:=i) (m:=m) (d:=a.getD (w+i) 0/2^r) om (by rw[hd,d0,r0];simp);refine aP (ai @hset (ai @ll (ai @je (ai @FB (ai @dD (ai @wz (ai @hr0 (ai @h @cZ)))))))) ?_;refine hQ _ (i+1) om om ?_;refine iP trivial ?_;omega
    ·obtain rfl:i=m:=om;refine aP (ai @h @cZ) ?_;refine he _ _ ?_;refine aP @cZ ?_;simp(disch:=(first|omega|assumption)) only[fO,iD,iK,ku,gG,V.aV,and_true,true_and,S1,↓reduceIte,Nat.reduceEqDiff,Nat.reduceAdd,Nat.reduceMul,Nat.reduceDiv,bY.sb,bY.mut,dH,↓Bool.false_eq_true,beq_self_eq_true,ite_self,Nat.reduceLeDiff,Int.reduceEq,Int.reduceSub,Int.reduceAdd,Int.reduceNeg,Int.reduceLT,Int.reduceLE,Nat.reduceLT,cZ,Nat.sub_self,List.replicate_zero]
   ·have zc6:=oG (a.take w) (by rw[List.length_take];omega);refine tu (ai @G7 (ai @hsub (ai @g2 (ai @hsh (ai @AL (ai @g1 (ai @dD (ai @mJ (ai @hge (ai @hr (ai @hw (ai @h1 @cZ)))))))))))) ?_;refine bD [] Nat (fun i=>⟨[(0,.l 1 (W a)),(7,.i .i64 (w:Int)),(8,.i .u64 (r:Int)),(10,.ow 1 0 m),(51,.i .i64 (m:Int)),(52,.i .i64 (i:Int))],[(0,some ⟨54,1,W (fl B i v++List.replicate (m-i) 0),true,false⟩)],1⟩)
     (fun i=>i≤m) (fun i=>m-i) 0 (Nat.zero_le _) (by exact ni) (by
     refine iP trivial ?_
     simp[fl]) ?_
    intro i hi Q' hQ he hr';by_cases h:(i:Int)<m
    ·have hd:=hdig i;have d0:=iQ (b:=B) B1 ha (w+i);have d1:=iQ (b:=B) B1 ha (w+i+1);rw[Nat.pow_succ,←Nat.div_div_eq_div_mul]at d1;generalize nv B a/B^(w+i)=X at hd d0 d1;have ll:(fl B i v++List.replicate (m-i) 0).length=m:=by rw[List.length_append,bC,List.length_replicate];omega
     have FB:=kR (a.getD (w+i) 0) r om;have hbw:w+i<a.length:=om;by_cases hr0:0<(r:Int)
     ·obtain⟨s1,s2⟩:=yU (X:=X) (r:=r) om om;rw[←hd,←d0,←d1]at s1;rw[←d0]at s2;have hor:=Ee (a.getD (w+i) 0/2^r) (a.getD (w+i+1) 0*2^(64-r)%18446744073709551616) (Nat.lt_of_le_of_lt (Nat.div_le_self _ _) (dI ha _)) (Nat.mod_lt _ dc);rw[Ci om s2,←s1]at hor;have hsl:=AB (a.getD (w+i+1) 0) (64-r) om;have ll2:((fl B i v++List.replicate (m-i) 0).set i (a.getD (w+i) 0/2^r)).length=m:=by rw[List.length_set,ll]
      have hset:=wC (v:=v) (i:=i) (m:=m) om rfl;have zc7:=jk a (w+i+1);repeat first|(refine hK _ ?_;clear hK K)|simp only[Sv,↓reduceIte,Nat.reduceEqDiff]|((first|refine aI (fun K hK=>?_)|refine aT (fun K hK=>?_)|refine aK (fun K hK=>?_)|refine oh ?_|refine kC (by assumption) ?_|refine oz ?_|(apply kD;assumption)|(apply kz;assumption));simp(disch:=(first|omega|assumption)) only[S1,↓reduceIte,Nat.reduceEqDiff,Nat.reduceAdd,Nat.reduceMul,Nat.reduceDiv,bY.sb,bY.mut,dH,↓Bool.false_eq_true,beq_self_eq_true,ite_self,Nat.reduceLeDiff,Int.reduceEq,Int.reduceSub,Int.reduceAdd,Int.reduceNeg,Int.reduceLT,Int.reduceLE,Nat.reduceLT,cZ,h,hr0,FB,wz,dD,je,ll,ll2,hsl,hor,AL,uP,List.set_set,hset])
      refine hQ _ (i+1) om om ?_;refine iP trivial ?_;omega
     ·have r0:r=0:=om;have hset:=wC (v:=v) (i:=i) (m:=m) (d:=a.getD (w+i) 0/2^r) om (by rw[hd,d0,r0];simp);refine aP (ai @hset (ai @ll (ai @je (ai @FB (ai @dD (ai @wz (ai @hr0 (ai @h @cZ)))))))) ?_;refine hQ _ (i+1) om om ?_;refine iP trivial ?_;omega
    ·obtain rfl:i=m:=om;refine aP (ai @h @cZ) ?_;refine he _ _ ?_;refine aP @cZ ?_;simp(disch:=(first|omega|assumption)) only[fO,iD,iK,ku,gG,V.aV,and_true,true_and,S1,↓reduceIte,Nat.reduceEqDiff,Nat.reduceAdd,Nat.reduceMul,Nat.reduceDiv,bY.sb,bY.mut,dH,↓Bool.false_eq_true,beq_self_eq_true,ite_self,Nat.reduceLeDiff,Int.reduceEq,Int.reduceSub,Int.reduceAdd,Int.reduceNeg,Int.reduceLT,Int.reduceLE,Nat.reduceLT,cZ,Nat.sub_self,List.replicate_zero]
end Go.Proofs.YtoehbmlfnjlchaaGreatDoor
namespace Go.Proofs.YtoehbmlfnjlchaaGreatDoor
open Go Go.RowKit Ab
def wF:=an @aU (an @qJ (an @d_ (an @Nat.div_one (an @Nat.mul_one (an @bI (an @gU (an @Af (an @gY (an @fK (an @sK (an @ed (an @I8 (an @I9 (an @wi @wu))))))))))))))
theorem dE(v:Nat):nv B (dg B v)=v:=jd B2 v
theorem bF(v:Nat):Wd (dg B v):=jM B0 v
theorem dS{v k:Nat}(h:v<B^k):(dg B v).length≤k:=vY B2 h
theorem G8{a:List Nat}{m:Nat}(ha:Wd a)(la:a.length≤m):nv B a<B^m:=Nat.lt_of_lt_of_le (b_ ha) (Nat.pow_le_pow_right B0 la)
theorem pup{v k m:Nat}(h:v<B^k)(hk:k≤m):v<B^m:=Nat.lt_of_lt_of_le h (Nat.pow_le_pow_right B0 hk)
theorem Qa{u v k:Nat}(h:u<B^k)(h':v<B^k):u+v<B^(k+1):=by
 have h5:B^k*2≤B^(k+1):=Nat.mul_le_mul_left _ B2;omega
theorem CG(a:List Nat)(ha:Wd a)(la:a.length≤1099511627776):aF Tryz.prog J0 66 [.l 1 (W a)] (.o 54 1 (W (dg B (nv B a)))):=by
 have:=qM a la;rwa[AA B2 ha]at this
theorem Qb{b:Nat}{l:List Nat}(hb:0<b)(h:Lt b l)(i:Nat):nv b (l.take i)=nv b l%b^i:=by
 rcases Nat.lt_or_ge l.length i with h1|h1
 ·rw[List.take_of_length_le om,Nat.mod_eq_of_lt (Nat.lt_of_lt_of_le (b_ h) (Nat.pow_le_pow_right hb om))]
 ·rw[pF l i h1,Nat.add_mul_mod_self_left,Nat.mod_eq_of_lt (bV hb h i)]
def mV(v:Nat)(n:Int):List Nat×Int:=if n<0∨1048576<n then([],3)else(dg B (v*2^n.toNat),0)
def xC(v:Nat)(n:Int):List Nat×Int:=if n<0 then([],3)else(dg B (v/2^n.toNat),0)
def Lj(v:Nat)(n:Int):List Nat:=if n<0 then[]else dg B (v%2^n.toNat)
def a49:AC:= .seq (.reg [qr 4 (.mv (.k .nl)),qr 5 (.mv (.k (.i .i64 0)))]) (.seq (.seq (.reg [qm 8 1,qr 9 (.bin .lss (.t 8) (.k (.i .i64 0))),qm 10 9,⟨some 11,some (10,false),.mv (.t 1)⟩,⟨some 12,some (10,false),.bin .gtr (.t 11) (.k (.i .i64 1048576))⟩,qr 13 (.pick (.t 10) (.k (.b true)) (.t 12))]) (.cond (.t 13) (.seq (.reg [qr 4 (.mv (.k .nl)),qr 5 (.mv (.k (.i .i64 3)))]) (.ret)) (.skip))) (.seq (.reg [qm 15 0,qr 16 (.call 74 [(1,(.t 15))]),qm 17 1,qr 18 (.call 73 [(1,(.t 16)),(1,(.t 17))]),qm 14 18,qr 19 (.ext (.t 14) 0),qr 20 (.ext (.t 14) 1),qm 6 19,qm 7 20]) (.seq (.reg [qm 21 6,qr 22 (.call 66 [(1,(.t 21))]),qm 23 7,qm 4 22,qm 5 23]) (.ret))))
theorem Ej(a:List Nat)(n:Int)(ha:Wd a)(la:a.length≤100000000000):aF Tryz.prog J0 49 [.l 1 (W a),.i .i64 n] (.t [.l 1 (W (mV (nv B a) n).1),.i .i64 (mV (nv B a) n).2]):=by
 refine ja dB eY Tryz.func49 a49 ?_;unfold a49;simp only[ak,aH,qm,qr,qn];by_cases h1:n<0
 ·rw[show mV (nv B a) n=([],3)from if_pos (.inl h1)];exact Tu (ai @h1 (ai @dE @wF))
 ·by_cases h2:1048576<n
  ·rw[show mV (nv B a) n=([],3)from if_pos (.inr h2)];exact Tu (ai @h2 (ai @h1 (ai @dE @wF)))
  ·rw[show mV (nv B a) n=(dg B (nv B a*2^n.toNat),0)from if_neg om];obtain⟨k,rfl⟩:∃k:Nat,n=(k:Int):=⟨n.toNat,om⟩;have lt:=mF a;have lo:=yV (tz a) k;have e:nv B (jv (tz a) k)=nv B a*2^k:=by rw[AQ (qI ha),uK]
   have MM:=oH a om;have zc2:=uO (tz a) k (qI ha) om om;have zc3:=CG (jv (tz a) k) (AP (qI ha) k) om;exact tC (ai @e (ai @h2 (ai @h1 (ai @dE @wF))))
def a51:AC:= .seq (.reg [qr 4 (.mv (.k .nl)),qr 5 (.mv (.k (.i .i64 0)))]) (.seq (.seq (.reg [qm 9 1,qr 10 (.bin .lss (.t 9) (.k (.i .i64 0)))]) (.cond (.t 10) (.seq (.reg [qr 4 (.mv (.k .nl)),qr 5 (.mv (.k (.i .i64 3)))]) (.ret)) (.skip))) (.seq (.reg [qm 12 0,qm 13 1,qr 14 (.call 76 [(1,(.t 12)),(1,(.t 13))]),qm 11 14,qr 15 (.ext (.t 11) 0),qr 16 (.ext (.t 11) 1),qr 17 (.ext (.t 11) 2),qm 6 15,qm 7 16,qm 8 17]) (.seq (.reg [qm 18 6,qr 19 (.call 66 [(1,(.t 18))]),qm 20 8,qm 4 19,qm 5 20]) (.ret))))
