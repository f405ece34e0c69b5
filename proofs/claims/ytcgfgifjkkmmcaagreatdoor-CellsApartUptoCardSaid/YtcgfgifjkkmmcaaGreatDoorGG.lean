import Derived.Test.YtcgfgifjkkmmcaaGreatDoorGF
import Derived.Test.YtcgfgifjkkmmcaaGreatDoorGE
set_option linter.all false
set_option maxRecDepth 2000000
set_option maxHeartbeats 10000000
namespace Go.Proofs.YtcgfgifjkkmmcaaGreatDoor
open Go Go.RowKit Ab
end Go.Proofs.YtcgfgifjkkmmcaaGreatDoor
namespace Go.Proofs.YtcgfgifjkkmmcaaGreatDoor
open Go Go.RowKit Ab
def qQ(u v:Nat):List Nat:=dg B (u/v)
def qR(u v:Nat):List Nat:=if v=0 then[]else dg B (u%v)
def qE(v:Nat):Int:=if v=0 then 1 else 0
theorem qQ_0(u:Nat):qQ u 0=[]:=by unfold qQ;rw[Nat.div_zero];rfl
theorem qR_0(u:Nat):qR u 0=[]:=if_pos rfl
theorem qE_0:qE 0=1:=rfl
theorem qR_p{u v:Nat}(h:0<v):qR u v=dg B (u%v):=if_neg om
theorem qE_p{v:Nat}(h:0<v):qE v=0:=if_neg om
theorem W1(x:Nat):W [x]=[.i .u64 (x:Int)]:=rfl
theorem ZI{w:Nat}(h0:0<w)(hw:w<B):dg B w=[w]:=by
 rw[←qM B2 (n:=1) (by rw[Nat.pow_one];exact hw),fl,fl,Nat.mod_eq_of_lt hw,tz,tz,if_neg om]
theorem WC{b:List Nat}(h:b.length=1):b.getD 0 0=nv B b:=by
 match b,h with
 |[x],_=>simp[nv]
theorem Q4{u v:Nat}:(((qR u v).length:Nat):Int)=0↔(v=0∨u%v=0):=by
 unfold qR;split
 ·rename_i h;simp[h]
 ·rename_i h;constructor
  ·intro h1;exact .inr ((rE B2).1 (List.eq_nil_of_length_eq_zero om))
  ·intro h1;rw[(rE B2).2 om];rfl
def exQ(u v:Nat):List Nat:=if v=0 then[]else if u%v=0 then dg B (u/v)else[]
def exE(u v:Nat):Int:=if v=0 then 1 else if u%v=0 then 0 else 4
theorem lV(a:List Nat)(ha:Wd a)(la:a.length≤1099511627776):ah Tryz.prog J0 68 [.l 1 (W a)] (.o 31 1 (W (dg B (nv B a)))):=by
 have:=mO a la;rwa[yt B2 ha]at this
end Go.Proofs.YtcgfgifjkkmmcaaGreatDoor
namespace Go.Proofs.YtcgfgifjkkmmcaaGreatDoor
open Go Go.RowKit Ab
theorem Q5(a:List Nat)(i:Nat):(W a).set i (.i .u64 0)=W (a.set i 0):=iQ a i 0
theorem kn_un(t c:Nat)(h:c=t+1):(if t<c then 1 else 0:Nat)=1:=if_pos om
theorem kn_m1(t c:Nat)(h:c=t+1):(t+18446744073709551616-c)%18446744073709551616=18446744073709551615:=by
 rw[h,show t+18446744073709551616-(t+1)=18446744073709551615 from om]
theorem kn_d1(g d:Nat)(h:g=d+1):(g:Int)-1=(d:Int):=om
theorem wuN(n:Nat)(h:n<18446744073709551616):IntKind.wrap .u64 (n:Int)=(n:Int):=wu ⟨Int.natCast_nonneg _,om⟩
theorem W_setM(a:List Nat)(i:Nat):(W a).set i (.i .u64 18446744073709551615)=W (a.set i 18446744073709551615):=iQ a i 18446744073709551615
theorem wrapM:IntKind.wrap .u64 18446744073709551616=0:=dc
theorem kK(a b:Nat):((a:Int)+(b:Int)).toNat=a+b:=om
theorem AA(a b:Nat)(h:1≤b):((a:Int)+(b:Int)-1).toNat=a+(b-1):=om
theorem AB(a b:Nat)(h:2≤b):((a:Int)+(b:Int)-2).toNat=a+(b-2):=om
theorem CU(b:Nat):((b:Int)-1).toNat=b-1:=om
theorem Q7(b:Nat):((b:Int)-2).toNat=b-2:=om
noncomputable def a148:AC:=gc Tryz.prog Tryz.f148
end Go.Proofs.YtcgfgifjkkmmcaaGreatDoor
namespace Go.Proofs.YtcgfgifjkkmmcaaGreatDoor
open Go Go.RowKit Ab
def YO:=an @wi (an @aO (an @Nat.div_one (an @Nat.mul_one (an @aH (an @eY (an @dh (an @dF @cZ)))))))
theorem nH(w:Nat)(hw:w<18446744073709551616):ah Tryz.prog J0 72 [.i .u64 (w:Int)] (.o 31 1 (W (dg B w))):=by
 have ho:=D5 [w] (fun x hx=>by rw[List.mem_singleton]at hx;subst hx;exact hw) sy;rw[I8]at ho;refine d_ aX bV Tryz.func72 ?_;exact jR (ai @W1 (ai @QD (ai @bD @YO)))
noncomputable def a147:AC:=gc Tryz.prog Tryz.f147
theorem LU(a:List Nat)(w:Nat)(ha:Wd a)(hw0:0<w)(hw:w<18446744073709551616)(la:a.length≤1099511627776):
 ah Tryz.prog J0 147 [.l 1 (W a),.i .u64 (w:Int)] (.t [.l 1 (W (dg B (nv B a/w))),.i .u64 ((nv B a%w:Nat):Int),.i .i64 0]):=by
 have hno:=mO (fl B a.length (nv B a/w)) (by rw[bg];omega)
 rw[qM B2 (Nat.lt_of_le_of_lt (Nat.div_le_self _ _) (bY ha))]at hno
 refine d_ aX bV Tryz.func147 ?_
 have zc2:=yA a w ha hw0 hw la
 exact jR (ai @QD (ai @bD @YO))
