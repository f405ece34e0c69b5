import Derived.Test.YtcgfgifjkkmmcaaGreatDoorDG
import Derived.Test.YtcgfgifjkkmmcaaGreatDoorQB
set_option linter.all false
set_option maxHeartbeats 10000000
namespace Go.Proofs.YtcgfgifjkkmmcaaGreatDoor
open Go Go.RowKit Ab
structure Ends(a d b e:Nat):Prop where
 a0:0<a
 d0:0<d
 e0:0<e
 ca:Nat.gcd a d=1
 cb:Nat.gcd b e=1
 le:a*e≤b*d
end Go.Proofs.YtcgfgifjkkmmcaaGreatDoor
namespace Go.Proofs.YtcgfgifjkkmmcaaGreatDoor
open Go Go.RowKit Ab
theorem r_le{z w:Int}{d e:Nat}(hd:d≠0)(he:e≠0):(rz z d*(dC w e:Int)≤rz w e*(dC z d:Int))↔z*(e:Int)≤w*(d:Int):=by
 have h1:=KJ (z:=z) (d:=d);have h2:=xZ (z:=z) (d:=d);have h3:=KJ (z:=w) (d:=e);have h4:=xZ (z:=w) (d:=e);have p1:=Eb (z:=z) hd;have p2:=Eb (z:=w) he;generalize rz z d=x at*
 generalize dC z d=y at*
 generalize rz w e=u at*
 generalize dC w e=v at*
 generalize rG z d=g at*
 generalize rG w e=f at*
 subst h1 h2 h3 h4;have e1:x*(g:Int)*((v*f:Nat):Int)=x*(v:Int)*((g*f:Nat):Int):=by
  rw[Int.natCast_mul,Int.natCast_mul,Int.mul_assoc,Int.mul_assoc,Int.mul_left_comm (g:Int)]
 have e2:u*(f:Int)*((y*g:Nat):Int)=u*(y:Int)*((g*f:Nat):Int):=by
  rw[Int.natCast_mul,Int.natCast_mul,Int.mul_assoc,Int.mul_assoc,Int.mul_left_comm (f:Int),Int.mul_comm (f:Int)]
 rw[e1,e2];have p3:(0:Int)<((g*f:Nat):Int):=by have:=Nat.mul_pos p1 p2;omega
 exact⟨fun h=>Int.mul_le_mul_of_nonneg_right h om,fun h=>Int.le_of_mul_le_mul_right h p3⟩
