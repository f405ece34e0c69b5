/-
  The seat's base: what every walk here needs; lists of words.
-/
import Derived.Test.YtngohbpgdeiodaaAb15
import Derived.Test.YtngohbpgdeiodaaRows
import Derived.Laws.Externs
import Derived.Test.YtngohbpgdeiodaaNM
namespace Go.Proofs.Ytngohbpgdeiodaa
open Go Go.RowKit Ab
set_option linter.unusedSimpArgs false
set_option linter.unusedVariables false
set_option maxHeartbeats 10000000

def J0 : World → Prop := fun _ => True
theorem J0s : ∀ w w' : World, J0 w → Below w.heap.size w w' → J0 w' := fun _ _ _ _ => trivial
theorem fol : Try.prog.follows .mixedOrders = true := by kernel_rfl

/-- Words, as values. -/
def W (a : List Nat) : List V := a.map fun x : Nat => .i .u64 (x : Int)
/-- Digits, as values. -/
def D (a : List Nat) : List V := a.map fun x : Nat => .i .i64 (x : Int)
def B : Nat := 18446744073709551616
/-- All are words. -/
def Wd (a : List Nat) : Prop := Lt B a

theorem W_len (a : List Nat) : (W a).length = a.length := by simp [W]
theorem D_len (a : List Nat) : (D a).length = a.length := by simp [D]
theorem W_get (a : List Nat) (i : Nat) (h : i < a.length) : (W a).getD i .un = .i .u64 (a.getD i 0 : Nat) := by
  simp [W, List.getD_eq_getElem?_getD, h]
theorem D_get (a : List Nat) (i : Nat) (h : i < a.length) : (D a).getD i .un = .i .i64 (a.getD i 0 : Nat) := by
  simp [D, List.getD_eq_getElem?_getD, h]
theorem W_take (a : List Nat) (i : Nat) : (W a).take i = W (a.take i) := by simp [W]
theorem W_drop (a : List Nat) (i : Nat) : (W a).drop i = W (a.drop i) := by simp [W]
theorem D_take (a : List Nat) (i : Nat) : (D a).take i = D (a.take i) := by simp [D]
theorem D_drop (a : List Nat) (i : Nat) : (D a).drop i = D (a.drop i) := by simp [D]
theorem W_app (a b : List Nat) : W a ++ W b = W (a ++ b) := by simp [W]
theorem D_app (a b : List Nat) : D a ++ D b = D (a ++ b) := by simp [D]
theorem W_app1 (a : List Nat) (x : Nat) : W a ++ [V.i .u64 (x : Int)] = W (a ++ [x]) := by simp [W]
theorem D_app1 (a : List Nat) (x : Nat) : D a ++ [V.i .i64 (x : Int)] = D (a ++ [x]) := by simp [D]
theorem W_one (x : Nat) : [V.i .u64 (x : Int)] = W [x] := rfl
theorem D_one (x : Nat) : [V.i .i64 (x : Int)] = D [x] := rfl
theorem W_cell (a : List Nat) : (W a).all V.cell = true := by simp [W, V.cell]
theorem D_cell (a : List Nat) : (D a).all V.cell = true := by simp [D, V.cell]
theorem W_set (a : List Nat) (i x : Nat) : (W a).set i (.i .u64 (x : Int)) = W (a.set i x) := by simp [W]
theorem W_nf (a : List Nat) : anyNF (W a) = false := by
  induction a with
  | nil => rfl
  | cons x r ih => simpa [W, anyNF, V.nf] using ih
theorem D_nf (a : List Nat) : anyNF (D a) = false := by
  induction a with
  | nil => rfl
  | cons x r ih => simpa [D, anyNF, V.nf] using ih
theorem W_nil : W [] = [] := rfl
theorem D_nil : D [] = [] := rfl
theorem Wd_get {a : List Nat} (h : Wd a) (i : Nat) : a.getD i 0 < 18446744073709551616 := by
  rw [List.getD_eq_getElem?_getD]
  cases e : a[i]? with
  | none => simp
  | some x => exact h x (List.mem_of_getElem? e)
theorem toNat_cast (n : Nat) : ((n : Nat) : Int).toNat = n := rfl
theorem Wd_take {a : List Nat} (h : Wd a) (i : Nat) : Wd (a.take i) := fun x hx => h x (List.mem_of_mem_take hx)
theorem Wd_drop {a : List Nat} (h : Wd a) (i : Nat) : Wd (a.drop i) := fun x hx => h x (List.mem_of_mem_drop hx)
theorem Wd_app {a b : List Nat} (h : Wd a) (k : Wd b) : Wd (a ++ b) := fun x hx => (List.mem_append.1 hx).elim (h x) (k x)
theorem Wd_nil : Wd [] := fun x hx => by cases hx
theorem wi {n : Int} (h : -9223372036854775808 ≤ n ∧ n < 9223372036854775808) : IntKind.i64.wrap n = n := by
  rw [IntKind.wrap_i64]; omega
theorem wu {n : Int} (h : 0 ≤ n ∧ n < 18446744073709551616) : IntKind.u64.wrap n = n := by
  rw [IntKind.wrap_u64]; omega
theorem c0 : ((0 : Nat) : Int) = 0 := rfl
theorem c2 : ((2 : Nat) : Int) = 2 := rfl
theorem c3 : ((3 : Nat) : Int) = 3 := rfl
theorem c13 : ((13 : Nat) : Int) = 13 := rfl
theorem c1 : ((1 : Nat) : Int) = 1 := rfl
theorem tn_sub1 (n : Nat) : ((n : Int) - 1).toNat = n - 1 := by omega
theorem tn_add1 (n : Nat) : ((n : Int) + 1).toNat = n + 1 := by omega
theorem tn_nat (n : Nat) : (n : Int).toNat = n := rfl
theorem S1 : type_of% (And.intro S0 (And.intro c0 (And.intro c1 (And.intro c2 (And.intro c3 c13))))) := And.intro S0 (And.intro c0 (And.intro c1 (And.intro c2 (And.intro c3 c13))))
end Go.Proofs.Ytngohbpgdeiodaa
