/-
  NatSums: the statement.
-/
import Derived.Test.YtjabgieajkgkfaaLSums
import Derived.Test.YtjabgieajkgkfaaLaw
import Derived.WalkKit
namespace Go.Proofs.Ytjabgieajkgkfaa
open Go Go.ChangeShapes Go.WideShapes Go.ChangeAt Go.RowKit Ab
set_option linter.unusedSimpArgs false
set_option linter.unusedVariables false

theorem nums_W {zs : List Int} (h : ∀ n, n ∈ zs → (Lit.int .u64 n).wf = true) : Nums .u64 zs = W (zs.map Int.toNat) ∧ Wd (zs.map Int.toNat) := by
  have hb : ∀ n, n ∈ zs → 0 ≤ n ∧ n < 18446744073709551616 := fun n hn => by
    have := h n hn
    simp [Lit.wf, IntKind.min, IntKind.max, IntKind.signed, IntKind.bits] at this
    omega
  constructor
  · simp only [Nums, W, List.map_map]
    refine List.map_congr_left fun n hn => ?_
    have := hb n hn
    simp only [Function.comp_def]
    rw [Int.toNat_of_nonneg this.1]
  · intro x hx
    obtain ⟨n, hn, rfl⟩ := List.mem_map.1 hx
    have := hb n hn
    show n.toNat < 18446744073709551616
    omega

theorem bulk_lits {H : Type} (k : IntKind) (zs : List Int) : Rows.uptoBulkAll (lits (H := H) k zs) = zs.length := by
  induction zs with
  | nil => rfl
  | cons n r ih => simp only [lits, List.map_cons, Rows.uptoBulkAll, Rows.uptoBulk, List.length_cons] at ih ⊢; omega

/-- A number that is handed in. -/
theorem open_W {H : Type} {enc : TypeId × Value → H} {P : Program} {w : World} {t e : TypeId} {v : Value} {d : DataW H} {ps : List MemPlace} (ht : P.underlying t = some (.slice e)) (he : P.underlying e = some (.int .u64)) (hc : P.cellsOf e = 1)
    (hok : ∃ a len cap, v = .slice a len cap) (h : DataW.Trod enc P w 0 (fun _ => true) true t v d ps) (hlt : ∀ x, x ∈ ps → x.block < w.heap.size) :
    ∃ a : List Nat, Rep0 w (fun b => b < w.heap.size) v (.l 1 (W a)) ∧ Wd a ∧ a.length ≤ Rows.uptoBulk d := by
  obtain ⟨zs, h1, h2, h3⟩ := open_nums ht he hc hok h hlt
  obtain ⟨h4, h5⟩ := nums_W h2
  refine ⟨zs.map Int.toNat, h4 ▸ h1, h5, ?_⟩
  rw [List.length_map]
  rcases h3 with ⟨rfl, rfl⟩ | ⟨l, rfl⟩
  · exact Nat.zero_le _
  · simp only [Rows.uptoBulk, bulk_lits]; omega

theorem own : ownKnob Try.prog.godebug = none := by kernel_rfl
theorem laid : laidOutB Try.prog = true := by kernel_rfl

theorem sums_contract (H : Type) (enc : TypeId × Value → H) (Wo : World) (base : Nat) (args : Array Value) (ds gs : List (DataW H)) (before : List MemPlace)
    (hval : ∀ (j : Nat) t v, Try.f3.params[j]? = some t → args[j]? = some v → Value.okWide Try.prog Wo .any base t v)
    (hW : DataW.Whole enc Try.prog Try.f3.params.toList Rows.natSumsSpec.vars false Wo args.toList ds gs before) (hk : Rows.uptoSmall H (ds ++ gs) = true) :
    Calls Try.prog 3 args Wo fun e W' => ∃ v, e = .returned v ∧ Rows.natSumsSpec.post enc Try.prog Try.f3 false true false false Wo args v W' := by
  have hW' := hW
  have hlt := hW.lt
  obtain ⟨p, q, hA, hV, rfl, hfz, hnd⟩ := hW
  rw [Try.params3] at hA hval
  obtain ⟨v0, vs0, d0, ds0, p0, q0, hargs, rfl, rfl, h0, r0⟩ := trodAll_cons hA
  obtain ⟨v1, vs1, d1, ds1, p1, q1, rfl, rfl, rfl, h1, r1⟩ := trodAll_cons r0
  obtain ⟨rfl, rfl, rfl⟩ := trodAll_nil r1
  obtain rfl : args = #[v0, v1] := by cases args; simp_all
  obtain ⟨rfl, rfl⟩ := trodVars_none hV
  have lt0 : ∀ x, x ∈ p0 → x.block < Wo.heap.size := fun x hx => hlt x (by simp [hx])
  have lt1 : ∀ x, x ∈ p1 → x.block < Wo.heap.size := fun x hx => hlt x (by simp [hx])
  obtain ⟨a, ra, wa, la⟩ := open_W Try.underlying23 Try.underlying35 (by kernel_rfl) (okWide_slice Try.underlying23 (hval 0 23 v0 rfl rfl)) h0 lt0
  obtain ⟨b, rb, wb, lb⟩ := open_W Try.underlying23 Try.underlying35 (by kernel_rfl) (okWide_slice Try.underlying23 (hval 1 23 v1 rfl rfl)) h1 lt1
  have hsm : Rows.uptoBulk d0 + Rows.uptoBulk d1 ≤ 1048576 := by
    simp [Rows.uptoSmall, Rows.uptoBulkAll] at hk; omega
  have hrep : RepAll Wo (fun b => b < Wo.heap.size) [v0, v1] [.l 1 (W a), .l 1 (W b)] := ⟨rfl, fun j v x hv hx => by
    match j with
    | 0 => cases hv; cases hx; exact ra
    | 1 => cases hv; cases hx; exact rb
    | (n + 2) => cases hv⟩
  refine (natSums_spec a b wa wb (by omega) (by omega) Wo _ [v0, v1] trivial (fun b hb => hb) hrep).mono fun e W' ⟨v, he, hb, hres⟩ => ?_
  subst he
  have hv : v = .bool true := by
    obtain ⟨N, _, h2⟩ := hres
    rcases h2 with h2 | ⟨_, _, _, _, _, h2, _⟩
    · cases h2; rfl
    · cases h2
  subst hv
  exact ⟨_, rfl, post_true laid rfl (by decide +kernel) rfl Try.underlying4 hW' rfl hb⟩

set_option maxRecDepth 100000 in
theorem sums_lifted (os : Os) (started : os.Started) (H : Type) (enc : TypeId × Value → H) (F : Stop.Interp) :
    ReturnsInHanded {} Try.checked os 3 .any ((Rows.OpenSpec.upto Rows.natSumsSpec).pre6 enc Try.prog Try.f3 Rows.natSumsUptoRow.domain false) (((Rows.OpenSpec.upto Rows.natSumsSpec).at F).post enc Try.prog Try.f3 false true false false) := by
  refine returnsInHanded_of_cond (C := Try.checked) (s := Rows.OpenSpec.upto Rows.natSumsSpec) (k := Rows.uptoSmall) rfl own started (by kernel_rfl) Try.func3
    (OpenSpec.witness (enc := enc) (C := Try.checked) (s := Rows.OpenSpec.upto Rows.natSumsSpec) (k := Rows.uptoSmall) rfl false ⟨#[], #[.slice none 0 0, .slice none 0 0], []⟩ 8 (by kernel_rfl) (by kernel_rfl) (by kernel_rfl)
      (x := ([.nil, .nil], [], [])) (by kernel_rfl) rfl (by kernel_rfl)) ?_
  intro Wo base args ds gs before hval hW _ hk _
  exact sums_contract H enc Wo base args ds gs before hval hW hk

theorem sums_over : Rows.natSumsUptoRow.holds Try.pinned (Rows.OpenSpec.upto Rows.natSumsSpec) :=
  OpenClaim.holds_of_cond 3 Try.f3 rfl rfl rfl rfl rfl rfl rfl ⟨rfl, rfl, rfl, rfl, rfl⟩ rfl rfl rfl rfl rfl (by kernel_rfl) Try.func3 (by kernel_rfl)
    (of_decide_eq_true (by kernel_rfl)) (by unfold Func.isWrapper; first | (rw [if_pos (by decide +kernel)]; kernel_rfl) | (rw [if_neg (by decide +kernel)]; exact ⟨rfl, rfl⟩))
    (fun os started H enc _ F => sums_lifted os started H enc F)

theorem natSums_proved : Rows.NatSumsUptoSaid := sums_over
end Go.Proofs.Ytjabgieajkgkfaa
