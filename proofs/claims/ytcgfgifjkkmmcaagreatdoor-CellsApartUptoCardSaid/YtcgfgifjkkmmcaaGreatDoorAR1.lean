import Derived.Laws.Tables
import Derived.Test.YtcgfgifjkkmmcaaGreatDoorHA
set_option linter.all false
set_option maxHeartbeats 10000000
set_option maxRecDepth 2000000
namespace Go.Proofs.YtcgfgifjkkmmcaaGreatDoor
open Go Go.RowKit Go.Proofs Ab
def pu{p:Prop}(h:p):PLift p:=⟨h⟩
theorem gJ(a:Act):∀(k:Nat) (h:k<a.tmps.size),a.tmps[k]=a.tmps.getD k undef:=fun k h=>by simp[h]
theorem rl{P:Program}{Q:Exit→Act→World→Prop}{a:Act}{w:World}{id:Nat}{l:List Oper}(h:(∀(k:Nat) (h:k<a.tmps.size),a.tmps[k]=a.tmps.getD k undef)→wpList P l.toArray Q l a w):(Code.region id l.toArray false).wp P Q a w:=wp_region_lit (h (gJ a))
theorem gZ{p:Prop}(h:p:=by simp[hz]):p:=h
theorem gN{p:Prop}(h:p:=by(intro t ht;intros;(try dsimp only[Act.put]);(repeat rw[ae om]))):p:=h
theorem gS{p:Prop}(h:p:=by((try rw[ak]);(try dsimp only[Act.put]);(repeat (first|rw[ae dc]|rw[aA (by simp[hz])]));first|done|assumption|(refine congrArg Value.bool ?_;first|(simp[hl];done)|(simp[hl,hl2];done)|(simp;omega)|(simp[hb];done)))):p:=h
theorem gK{p:Prop}(h:p:=by kernel_rfl):p:=h
theorem gM{p:Prop}(h:p:=by simp):p:=h
theorem oT{p:Prop}(h:p:=by(replace hK:=pu hK;go_tidy;have gA:=gJ a1;go_simp;first|exact hK.down _ _ rfl (dE _) (fun q h=>by cases h)|exact hK.down _ _ (congrArg Value.bool (by simp[hl])) (dE _) (fun q h=>by cases h))):p:=h
theorem rD{p:Prop}(h:p:=by(replace kk:=pu kk;refine rl fun gA=>?_;go_wp2;exact kk.down _ gZ gN gS rfl)):p:=h
theorem rW2{p:Prop}(h:p:=by(replace kk:=pu kk;refine rl fun gA=>?_;go_wp2;exact kk.down _ gZ gN gS gS rfl)):p:=h
theorem ZC{p:Prop}(h:p:=by(replace kk:=pu kk;refine rl fun gA=>?_;go_wp2;exact kk.down _ gZ gN gS gS gS rfl)):p:=h
def kO(a':Act):List (Nat×Value)→Prop→Prop
 |[],p=>p
 |(t,v)::r,p=>a'.tmps.getD t undef=v→kO a' r p
def kA(a a':Act)(N T:Nat)(l:List (Nat×Value))(p:Prop):Prop:=a'.tmps.size=N→(∀t,t<T→a'.tmps.getD t undef=a.tmps.getD t undef)→kO a' l (a'.defers=a.defers→p)
