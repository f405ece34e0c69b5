/-
  The functions of math/bits that have no body.
-/
import Derived.Test.YtngohbpgdeiodaaB0
namespace Go.Proofs.Ytngohbpgdeiodaa
open Go Go.RowKit Ab
set_option linter.unusedSimpArgs false
set_option linter.unusedVariables false
set_option maxHeartbeats 10000000

def sub64Entry : Array Value → Sem Value := fun args => do
  let (x, y, b) ← Extern.MathBitsCarry.three "Sub64" args
  pure (Extern.MathBitsCarry.pair ((x + Extern.MathBitsCarry.m64 - y - b) % Extern.MathBitsCarry.m64) (if x < y + b then 1 else 0))

theorem add64_x (x y : Nat) : XFun Try.prog 99 [.i .u64 (x : Int), .i .u64 (y : Int), .i .u64 0] (.t [.i .u64 (((x + y) % 18446744073709551616 : Nat) : Int), .i .u64 (((x + y) / 18446744073709551616 : Nat) : Int)]) := by
  intro w H ov vs hl hr
  match vs, hl with
  | [a, b, c], _ =>
    have h1 := (hr 0 a _ rfl rfl).inv_i
    have h2 := (hr 1 b _ rfl rfl).inv_i
    have h3 := (hr 2 c _ rfl rfl).inv_i
    subst h1 h2 h3
    refine ⟨_, by rw [run_callFunc_extern Try.func99 (e := add64Entry) (by kernel_rfl) (by kernel_rfl) (by kernel_rfl) (by kernel_rfl), run_add64 _ _ _ (by omega) (by omega) (by omega) (by omega)]; rfl, .up (.t [.int .u64 _, .int .u64 _] _ rfl ?_)⟩
    intro j v x hv hx
    match j with
    | 0 => cases hv; cases hx; simp only [Int.add_zero]; exact .i _ _
    | 1 => cases hv; cases hx; simp only [Int.add_zero]; exact .i _ _
    | (k + 2) => cases hv

theorem sub64_x (x y : Nat) (hy : y < 18446744073709551616) : XFun Try.prog 82 [.i .u64 (x : Int), .i .u64 (y : Int), .i .u64 0] (.t [.i .u64 (((x + 18446744073709551616 - y) % 18446744073709551616 : Nat) : Int), .i .u64 ((if x < y then 1 else 0 : Nat) : Int)]) := by
  intro w H ov vs hl hr
  match vs, hl with
  | [a, b, c], _ =>
    have h1 := (hr 0 a _ rfl rfl).inv_i
    have h2 := (hr 1 b _ rfl rfl).inv_i
    have h3 := (hr 2 c _ rfl rfl).inv_i
    subst h1 h2 h3
    have run : (sub64Entry #[.int .u64 (x : Int), .int .u64 (y : Int), .int .u64 0]).run Try.prog w = .ok (Extern.MathBitsCarry.pair ((x + Extern.MathBitsCarry.m64 - y - 0) % Extern.MathBitsCarry.m64) (if x < y + 0 then 1 else 0)) w := rfl
    refine ⟨_, by rw [run_callFunc_extern Try.func82 (e := sub64Entry) (by kernel_rfl) (by kernel_rfl) (by kernel_rfl) (by kernel_rfl), run]; rfl, .up (.t [.int .u64 _, .int .u64 _] _ rfl ?_)⟩
    intro j v x hv hx
    match j with
    | 0 => cases hv; cases hx; exact .i _ _
    | 1 => cases hv; cases hx; exact .i _ _
    | (k + 2) => cases hv
end Go.Proofs.Ytngohbpgdeiodaa
