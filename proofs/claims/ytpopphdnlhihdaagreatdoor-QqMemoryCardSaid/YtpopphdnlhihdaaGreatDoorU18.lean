import Derived.Test.YtpopphdnlhihdaaGreatDoorU9
set_option linter.all false
set_option maxRecDepth 2000000
set_option maxHeartbeats 10000000
namespace Go.Proofs.YtpopphdnlhihdaaGreatDoor
open Go Go.RowKit Ab
def IB:=an @wi<|an @aI<|an @aW<|an @aO<|an @aQ<|an @fZ<|an @di<|an @dR @dH
theorem Zu{b:Nat}(n v:Nat):fl b n v++[v/b^n%b]=fl b (n+1) v:=(iY n v).symm
def dgD(u b:Nat):List Nat:=if b<2 then[]else dg b u
def dgE(b:Nat):Int:=if b<2 then 3 else 0
theorem JE(a:List Nat)(b:Nat)(E:Wd a)(hb:b<18446744073709551616)(L:a.length≤10000000):
 aT 157 [.l 1 (W a),.i .u64 (b:Int)] (.t [.l 1 (W (dgD (nv B a) b)),.i .i64 (dgE b)]):=by
 refine f_ aN a_ Tryz.func157 ?_
 by_cases h0:(b:Int)<2
 ·rw[show dgD (nv B a) b=[]from au om,show dgE b=3 from au om];refine aX (ai @h0<|ai @bG @IB) ?_;exact rP (ai @bG @IB)
 ·have g:2≤b:=om;rw[show dgD (nv B a) b=dg b (nv B a)from ah om,show dgE b=0 from ah om];have N:=(rE a E om).frozen;have I:=eP E;have z:=fun x (m:x<B^a.length)=>JB (dg B x) b (af x) om hb (by have:=aA m;omega)
  simp only[ae]at z;generalize nv B a=u at*
  have hbig:∀i,0<u/b^i→i<64*a.length:=fun i h=>by
   have j:b^i≤u:=by
    rcases dW u (b^i)with c|c
    ·rw[jQ c]at h;omega
    ·exact c
   have c:2^i≤b^i:=Nat.pow_le_pow_left g i;have J:2^i<2^(64*a.length):=by rw[Nat.pow_mul,show(2:Nat)^64=B from rfl];omega
   exact(BN (by decide:1<2)).1 J
  have TG:∀i,(i=0∨0<u/b^(i-1))→i≤64*a.length:=fun i h=>by
   rcases h with h|h
   ·omega
   ·have:=hbig _ h;omega
  refine pJ (ai @h0<|ai @bG @IB) ?_;refine aF [(6,49,1)] Nat (fun i=>⟨[(1,.i .u64 (b:Int)),(6,.ow 1 0 i),(7,.l 1 (W (dg B (u/b^i))))],[(0,some ⟨49,1,W (fl b i u),true,false⟩)],1⟩)
   (fun i=>i=0∨0<u/b^(i-1)) (fun i=>u/b^i) 0 (.inl rfl) (by exact oL) (by
   refine tV trivial ?_
   rw[Nat.pow_zero,aW]
   repeat' first|rfl|omega|(simp only[bZ,dX,dJ];done)|apply And.intro) ?_
  intro i C O H G M;have F:=TG i C;by_cases j:u/b^i=0
  ·have e:fl b i u=dg b u:=by
    refine CX g (C.imp id fun h=>?_) ?_
    ·rcases dW u (b^(i-1))with c|c
     ·rw[jQ c]at h;omega
     ·exact c
    ·rcases dW u (b^i)with c|c
     ·exact c
     ·have:=(rZ (bg (by omega:0<b))).2 (by rw[iV];exact c:1*b^i≤u);omega
   rw[j,uX];refine aX (ai @bG @IB) ?_;refine G _ _ ?_;refine aX (ai @bG @IB) ?_;exact rP (ai @e<|ai @bG @IB)
  ·have A:0<u/b^i:=C_ j;have m:u/b^i<B^a.length:=cZ (fE _ _) I;have y:=z _ m;have f:u/b^i/b<u/b^i:=Nat.div_lt_self A om;rw[lZ,←dO]at y f;have hpos:(0:Int)<(((dg B (u/b^i)).length:Nat):Int):=by
    have:(dg B (u/b^i)).length≠0:=fun h=>j ((uz B2).1 (nz h))
    omega
   refine pJ (ai @Zu<|ai @EC<|ai @hpos<|ai @bG @IB) ?_;refine H _ (i+1) (.inr A) f ?_;exact lC
def Vo:AC:= .seq (.reg [qr 4 (.mv (.k (.s [])))]) (.seq (.reg [qm 11 0,qm 12 1,qr 13 (.MK .u64 (.t 12)),qr 14 (.call 157 [(1,(.t 11)),(1,(.t 13))]),qm 10 14,qr 15 (.ext (.t 10) 0),qr 16 (.ext (.t 10) 1),qm 5 15,qm 6 16]) (.seq (.seq (.reg [qm 17 5,qr 18 (.len (.t 17)),qr 19 (.bin .eql (.t 18) (.k (.i .i64 0)))]) (.cond (.t 19) (.seq (.reg [qr 20 (.RQ 36 1 (.k (.ip BA 0)) none (some (.k (.i .i64 1)))),qr 21 (.Uf .b2s [(.t 20)]),qm 4 21]) (.ret)) (.skip))) (.seq (.reg [qm 22 5,qr 23 (.len (.t 22)),qr 24 (.mk 5 1 1 [(.i .u8 0)] (.t 23) (.t 23)),qm 7 24]) (.seq (.seq (.reg [qm 25 5,qr 26 (.len (.t 25)),qr 27 (.mv (.k (.i .i64 0)))]) (.blk 0 (.loop (.seq (.reg [qr 28 (.bin .lss (.t 27) (.t 26))]) (.seq (.cond (.t 28) (.skip) (.exit 0)) (.seq (.blk 1 (.seq (.reg [qm 29 27,qr 30 (.idx 1 (.t 25) (.t 27)),qr 31 (.ld false 1 (.t 30)),qm 8 29,qm 9 31]) (.reg [qm 32 7,qm 33 5,qr 34 (.len (.t 33)),qr 35 (.bin .sub (.t 34) (.k (.i .i64 1))),qm 36 8,qr 37 (.bin .sub (.t 35) (.t 36)),qm 38 9,qr 39 (.Uh 36 1 (.k (.ip BA 0)) (.t 38)),qr 40 (.ld false 1 (.t 39)),qr 41 (.idx 1 (.t 32) (.t 37)),qn (.st 1 (.t 41) (.t 40))]))) (.reg [qr 42 (.bin .add (.t 27) (.k (.i .i64 1))),qm 27 42]))))))) (.seq (.reg [qm 43 7,qr 44 (.Uf .b2s [(.t 43)]),qm 4 44]) (.ret))))))
def a69:AC:= .seq (.reg [qr 1 (.bx 25 (.t 0)),qr 2 (.mv (.k (.s [])))]) (.seq (.reg [qr 4 (.ld true 2 (.t 1)),qr 5 (.call 124 [(1,(.t 4))]),qr 3 (.al 25 [(.b false),(.l 1 [])]),qn (.st 2 (.t 3) (.t 5))]) (.seq (.seq (.reg [qr 6 (.FK 0 (.t 3)),qr 7 (.ld false 1 (.t 6))]) (.cond (.t 7) (.seq (.reg [qr 8 (.FK 1 (.t 3)),qr 9 (.ld false 1 (.t 8)),qr 10 (.call 71 [(1,(.t 9))]),qr 11 (.bin .add (.k (.s [45])) (.t 10)),qm 2 11]) (.ret)) (.skip))) (.seq (.reg [qr 12 (.FK 1 (.t 3)),qr 13 (.ld false 1 (.t 12)),qr 14 (.call 71 [(1,(.t 13))]),qm 2 14]) (.ret))))
