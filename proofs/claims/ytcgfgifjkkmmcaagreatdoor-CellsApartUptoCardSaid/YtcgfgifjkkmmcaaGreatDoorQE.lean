import Derived.Test.YtcgfgifjkkmmcaaGreatDoorQD
set_option linter.all false
set_option maxRecDepth 2000000
set_option maxHeartbeats 10000000
namespace Go.Proofs.YtcgfgifjkkmmcaaGreatDoor
open Go Go.RowKit Ab
def bz_Q16:=an @aH (an @fV (an @Nat.div_one (an @Nat.mul_one (an @aO (an @eY (an @oD (an @dF (an @jm (an @wi (an @lX (an @Bool.false_and @dh)))))))))))
theorem mul_lt{x y:Int}{m:Nat}(hx:x.natAbs<B^m)(hy:y.natAbs<B^m):(x*y).natAbs<B^(m+m):=by
 rw[Int.natAbs_mul,Nat.pow_add];exact Nat.mul_lt_mul'' hx hy
theorem wM{x y m:Nat}(hx:x<B^m)(hy:y<B^m):x*y<B^(m+m):=by
 rw[Nat.pow_add];exact Nat.mul_lt_mul'' hx hy
theorem Gt(s t:Bool)(a b d e:List Nat)(m:Nat)(hm:m≤10000000)(ha:Wd a)(hb:Wd b)(hd:Wd d)(he:Wd e)(la:a.length≤m)(lb:b.length≤m)(ld:d.length≤m)(le:e.length≤m)(h:nv B d*nv B e≠0):
 ah Tryz.prog J0 58 [rL s a d,rL t b e] (rN (rz (zv s a*zv t b) (nv B d*nv B e)) (dC (zv s a*zv t b) (nv B d*nv B e))):=by
 have m1:=mX s t a b m om ha hb la lb
 have t1:=(xA d e hd he om om).frozen
 have b1:=mul_lt (dD (s:=s) ha la) (dD (s:=t) hb lb)
 have b3:=wM (fO hd ld) (fO he le)
 generalize zv s a*zv t b=x at*
 generalize nv B d*nv B e=w at*
 have r1:=wK (decide (x<0)) (dg B x.natAbs) (dg B w) (m+m) om (az _) (az _) (bC b1) (bC b3) (by rw[aS];exact h)
 rw[dJ,aS]at r1
 generalize rz x w=u at*
 generalize dC x w=v at*
 refine ja aX bV Tryz.func58 [.c 4 true 3] ?_
 exact vM @bz_Q16
end Go.Proofs.YtcgfgifjkkmmcaaGreatDoor
namespace Go.Proofs.YtcgfgifjkkmmcaaGreatDoor
open Go Go.RowKit Ab
theorem cap(m k K:Nat)(h:m*(K+1)+1≤1000000)(hk:k≤K):m*k+1≤1000000∧m*(k+1)+1≤100000000:=by
 have h1:=Nat.mul_le_mul_left m (show k+1≤K+1 by omega);have h2:=Nat.mul_le_mul_left m (show k≤k+1 by omega);omega
end Go.Proofs.YtcgfgifjkkmmcaaGreatDoor
namespace Go.Proofs.YtcgfgifjkkmmcaaGreatDoor
open Go Go.RowKit Ab
end Go.Proofs.YtcgfgifjkkmmcaaGreatDoor
namespace Go.Proofs.YtcgfgifjkkmmcaaGreatDoor
open Go Go.RowKit Ab
