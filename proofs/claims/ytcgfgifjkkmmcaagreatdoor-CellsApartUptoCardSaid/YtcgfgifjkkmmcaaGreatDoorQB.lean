import Derived.Test.YtcgfgifjkkmmcaaGreatDoorQA
set_option linter.all false
set_option maxRecDepth 2000000
set_option maxHeartbeats 10000000
namespace Go.Proofs.YtcgfgifjkkmmcaaGreatDoor
open Go Go.RowKit Ab
def CZ:=an @aH (an @fV (an @Nat.div_one (an @Nat.mul_one (an @aO (an @eY (an @oD (an @dF (an @jm (an @wi (an @lX (an @Bool.false_and @dh)))))))))))
theorem int_w1{n:Int}(h1: -9223372036854775808≤n)(h2:n<9223372036854775808):n.natAbs<B^1:=by rw[Nat.pow_one];show _<18446744073709551616;omega
theorem Jn(s:Bool)(a d:List Nat)(la:a.length≤1000000000)(ld:d.length≤1000000000):ah Tryz.prog J0 23 [rL s a d,rL s a d] (.b true):=by
 have h1:=yj s s a a la la;have h2:=zQ d d om om;rw[show(s==s)=true from by cases s<;>rfl,Bool.true_and,decide_eq_true rfl]at h1;rw[decide_eq_true rfl]at h2;refine d_ aX bV Tryz.func23 ?_;exact jR @CZ
theorem Xq(n i:Nat)(hi:i≤n%16):nv 65536 ((List.replicate (n/16+1) 0).set (n/16) (2^i))=2^(16*(n/16)+i):=by
 have h:=rJ (b:=65536) (List.replicate (n/16+1) 0) (n/16) (2^i) sy;rw[qh,show(List.replicate (n/16+1) 0).getD (n/16) 0=0 from by simp[List.getD_eq_getElem?_getD,List.getElem?_replicate],Nat.mul_zero,Nat.add_zero,Nat.zero_add]at h;rw[h,Nat.pow_add,Nat.pow_mul]
theorem Jo(n:Nat):2^n<B^(n/64+1):=by
 rw[YJ,←Nat.pow_mul];exact Nat.pow_lt_pow_right dc om
theorem yc(n:Nat)(hn:n≤100000000):ah Tryz.prog J0 51 [.i .i64 (n:Int)] (.o 31 1 (W (dg B (2^n)))):=by
 obtain⟨L,hL⟩:∃L,L=n/16:=⟨_,rfl⟩;have hq:(n:Int).tdiv 16=(L:Int):=by rw[hL];rfl
 have hr:(n:Int).tmod 16=((n%16:Nat):Int):=rfl;have hL1:(0:Int)≤(L:Int)+1:=om;have hL2:((L:Int)+1).toNat=L+1:=om;have wL:IntKind.i64.wrap (L:Int)=(L:Int):=wi om;have hset:=fun x=>xw (List.replicate (L+1) 0) L x
 have h1s:=hset 1;have hDl:(D (List.replicate (L+1) 0)).length=L+1:=by rw[fV];simp
 have hval:nv 65536 ((List.replicate (L+1) 0).set L (2^(n%16)))=2^n:=by
  have:=Xq n (n%16) (Nat.le_refl _);rw[←hL]at this;rw[this,show 16*L+n%16=n from om]
 have hlt2:∀i,i≤n%16→2^i<65536:=fun i hi=>Nat.lt_of_lt_of_le (Nat.pow_lt_pow_right dc (show i<16 by omega)) dc
 have hnum:=eX ((List.replicate (L+1) 0).set L (2^(n%16))) (qi (uM dc) _ _ (hlt2 _ (Nat.le_refl _))) (by simp;omega);rw[hval]at hnum;refine d_ aX bV Tryz.func51 ?_;refine aJ (ai @h1s (ai @hDl (ai @OE (ai @wL (ai @hL2 (ai @hL1 (ai @hq @CZ))))))) ?_;refine aF [] Nat (fun i=>⟨[(0,.i .i64 (n:Int)),(3,.ow 1 0 (L+1)),(4,.i .i64 (i:Int))],[(0,some ⟨3,1,D ((List.replicate (L+1) 0).set L (2^i)),true,false⟩)],1⟩)
  (fun i=>i≤n%16) (fun i=>n%16-i) 0 (Nat.zero_le _) (by exact mF) (by
  exact jO) ?_
 intro i hi Q' hQ he hr2;have wr:IntKind.i64.wrap ((n%16:Nat):Int)=((n%16:Nat):Int):=by
  have:=Nat.mod_lt n (show 0<16 by decide);clear hr;generalize n%16=z at*
  exact wi om
 by_cases h:(i:Int)<((n%16:Nat):Int)
 ·have ZJ:=nR ((List.replicate (L+1) 0).set L (2^i)) L sy;rw[show((List.replicate (L+1) 0).set L (2^i)).getD L 0=2^i from by rw[List.getD_eq_getElem?_getD,List.getElem?_set_self sy];rfl]at ZJ;have hDl2:(D ((List.replicate (L+1) 0).set L (2^i))).length=L+1:=by rw[fV];simp
  have h2:=hlt2 i hi;have hst:=xw ((List.replicate (L+1) 0).set L (2^i)) L (2^(i+1));rw[List.set_set]at hst;have he2:((2^i:Nat):Int)*2=((2^(i+1):Nat):Int):=by rw[Nat.pow_succ];omega
  have hp2:2^(i+1)=2^i*2:=Nat.pow_succ 2 i;have w3:IntKind.i64.wrap ((2^(i+1):Nat):Int)=((2^(i+1):Nat):Int):=by
   generalize 2^(i+1)=z at*
   exact wi om
  obtain⟨z2,hz2⟩:∃z2,z2=2^(i+1):=⟨_,rfl⟩;rw[←hz2]at hst he2 w3;generalize 2^i=z1 at*
  refine aJ (ai @hst (ai @w3 (ai @he2 (ai @hDl2 (ai @ZJ (ai @h (ai @wL (ai @wr (ai @hr (ai @hq @CZ)))))))))) ?_;refine hQ _ (i+1) om om ?_;rw[←hz2];exact jO
 ·obtain rfl:i=n%16:=om;refine aJ (ai @h (ai @wr (ai @hr @CZ))) ?_;refine he _ _ ?_;exact jR @CZ
theorem Ee(n:Int)(k:Nat)(h1: -9223372036854775808<n)(h2:n<9223372036854775808)(hk:k<9223372036854775808)(hk0:k≠0):ah Tryz.prog J0 6 [.i .i64 n,.i .i64 (k:Int)] (rN (rz n k) (dC n k)):=by
 have z1:=yZ n h1 h2;have w1:=(uK k hk).frozen;have r1:=wK (decide (n<0)) (dg B n.natAbs) (dg B k) 1 dc (az _) (az _) (bC (int_w1 om h2)) (bC (by rw[Nat.pow_one];show _<18446744073709551616;omega)) (by rw[aS];exact hk0);rw[dJ,aS]at r1;generalize rz n k=x at*
 generalize dC n k=y at*
 refine ja aX bV Tryz.func6 [.c 4 true 3] ?_;exact vM @CZ
end Go.Proofs.YtcgfgifjkkmmcaaGreatDoor
namespace Go.Proofs.YtcgfgifjkkmmcaaGreatDoor
open Go Go.RowKit Ab
def nr(k:Int):Int:=if 3000<k∧k≤1048576∨k< -3000∧ -1048576≤k then k.tmod 3000 else k
end Go.Proofs.YtcgfgifjkkmmcaaGreatDoor
namespace Go.Proofs.YtcgfgifjkkmmcaaGreatDoor
open Go Go.RowKit Ab
end Go.Proofs.YtcgfgifjkkmmcaaGreatDoor
namespace Go.Proofs.YtcgfgifjkkmmcaaGreatDoor
open Go Go.RowKit Ab
