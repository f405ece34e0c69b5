import Derived.Test.YtcgfgifjkkmmcaaGreatDoorU9
set_option linter.all false
set_option maxRecDepth 2000000
set_option maxHeartbeats 10000000
namespace Go.Proofs.YtcgfgifjkkmmcaaGreatDoor
open Go Go.RowKit Ab
def zD:=an @wi (an @aO (an @Nat.div_one (an @Nat.mul_one (an @aH (an @eY (an @dh (an @dF @cZ)))))))
theorem OD{b:Nat}(n v:Nat):fl b n v++[v/b^n%b]=fl b (n+1) v:=(dO n v).symm
def dgD(u b:Nat):List Nat:=if b<2 then[]else dg b u
def dgE(b:Nat):Int:=if b<2 then 3 else 0
theorem LQ(a:List Nat)(b:Nat)(ha:Wd a)(hb:b<18446744073709551616)(la:a.length≤10000000):
 ah Tryz.prog J0 143 [.l 1 (W a),.i .u64 (b:Int)] (.t [.l 1 (W (dgD (nv B a) b)),.i .i64 (dgE b)]):=by
 refine d_ aX bV Tryz.func143 ?_
 by_cases h0:(b:Int)<2
 ·rw[show dgD (nv B a) b=[]from if_pos om,show dgE b=3 from if_pos om];refine aJ (ai @h0 (ai @bD @zD)) ?_;exact jX (ai @bD @zD)
 ·have hb2:2≤b:=om;rw[show dgD (nv B a) b=dg b (nv B a)from if_neg om,show dgE b=0 from if_neg om];have hn:=(lV a ha om).frozen;have hA:=bY ha;have hw:=fun x (hx:x<B^a.length)=>LU (dg B x) b (az x) om hb (by have:=bC hx;omega)
  simp only[aS]at hw;generalize nv B a=u at*
  have hbig:∀i,0<u/b^i→i<64*a.length:=fun i h=>by
   have h1:b^i≤u:=by
    rcases Nat.lt_or_ge u (b^i)with h2|h2
    ·rw[Nat.div_eq_of_lt h2]at h;omega
    ·exact h2
   have h2:2^i≤b^i:=Nat.pow_le_pow_left hb2 i;have h3:2^i<2^(64*a.length):=by rw[Nat.pow_mul,show(2:Nat)^64=B from rfl];omega
   exact(Nat.pow_lt_pow_iff_right (by decide:1<2)).1 h3
  have hbigl:∀i,(i=0∨0<u/b^(i-1))→i≤64*a.length:=fun i h=>by
   rcases h with h|h
   ·omega
   ·have:=hbig _ h;omega
  refine qc (ai @h0 (ai @bD @zD)) ?_;refine aF [(6,31,1)] Nat (fun i=>⟨[(1,.i .u64 (b:Int)),(6,.ow 1 0 i),(7,.l 1 (W (dg B (u/b^i))))],[(0,some ⟨31,1,W (fl b i u),true,false⟩)],1⟩)
   (fun i=>i=0∨0<u/b^(i-1)) (fun i=>u/b^i) 0 (.inl rfl) (by exact mF) (by
   refine nO trivial ?_
   rw[Nat.pow_zero,Nat.div_one]
   repeat' first|rfl|omega|(simp only[List.length_append,List.length_cons,List.length_nil];done)|apply And.intro) ?_
  intro i hi Q' hQ he hr;have hil:=hbigl i hi;by_cases h1:u/b^i=0
  ·have e:fl b i u=dg b u:=by
    refine Dp hb2 (hi.imp id fun h=>?_) ?_
    ·rcases Nat.lt_or_ge u (b^(i-1))with h2|h2
     ·rw[Nat.div_eq_of_lt h2]at h;omega
     ·exact h2
    ·rcases Nat.lt_or_ge u (b^i)with h2|h2
     ·exact h2
     ·have:=(Nat.le_div_iff_mul_le (Nat.pow_pos (by omega:0<b))).2 (by rw[Nat.one_mul];exact h2:1*b^i≤u);omega
   rw[h1,nP];refine aJ (ai @bD @zD) ?_;refine he _ _ ?_;refine aJ (ai @bD @zD) ?_;exact jX (ai @e (ai @bD @zD))
  ·have hp:0<u/b^i:=Nat.pos_of_ne_zero h1;have hx:u/b^i<B^a.length:=Nat.lt_of_le_of_lt (Nat.div_le_self _ _) hA;have hwi:=hw _ hx;have hlt:u/b^i/b<u/b^i:=Nat.div_lt_self hp om;rw[Nat.div_div_eq_div_mul,←Nat.pow_succ]at hwi hlt;have hpos:(0:Int)<(((dg B (u/b^i)).length:Nat):Int):=by
    have:(dg B (u/b^i)).length≠0:=fun h=>h1 ((rE B2).1 (List.eq_nil_of_length_eq_zero h))
    omega
   refine qc (ai @OD (ai @xk (ai @hpos (ai @bD @zD)))) ?_;refine hQ _ (i+1) (.inr hp) hlt ?_;exact jO
