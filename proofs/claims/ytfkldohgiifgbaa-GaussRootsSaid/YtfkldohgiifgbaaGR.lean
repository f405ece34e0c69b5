/-
  Plain laws of roots within a square: told by running through the paths.
-/
import Derived.Test.YtfkldohgiifgbaaGM
namespace Go.Proofs.Ytfkldohgiifgbaa
set_option linter.unusedSimpArgs false
set_option linter.unusedVariables false
set_option maxHeartbeats 10000000
def stpl (f : Int) : List Int → List Int
  | [] => []
  | [x] => [dd x f]
  | x :: y :: r => dd x y :: stpl f (y :: r)
/-- along a path: the turns, the error -/
def runT (f : Int) : List Int → Int → Int × Int
  | [], s => (s.tdiv 8, 0)
  | [x], s => if dd x f = 4 then (0, 3) else ((s + dd x f).tdiv 8, 0)
  | x :: y :: r, s => if dd x y = 4 then (0, 3) else runT f (y :: r) (s + dd x y)
def hasZ : List GZ → Bool
  | [] => false
  | z :: r => (decide (z.1 = 0) && decide (z.2 = 0)) || hasZ r
/-- turns of a path of small values -/
def runP (zs : List GZ) : Int × Int := if hasZ zs then (0, 1) else runT ((zs.map ei).headD 0) (zs.map ei) 0
theorem runT_eq (f : Int) : ∀ (l : List Int) (s : Int), runT f l s = if 4 ∈ stpl f l then (0, 3) else ((s + isum (stpl f l)).tdiv 8, 0)
  | [], s => by simp [runT, stpl, isum]
  | [x], s => by
    simp only [runT, stpl, isum, List.mem_singleton, Int.add_zero]
    by_cases h : dd x f = 4
    · rw [if_pos h, if_pos h.symm]
    · rw [if_neg h, if_neg (Ne.symm h)]
  | x :: y :: r, s => by
    simp only [runT, stpl, isum, List.mem_cons]
    by_cases h : dd x y = 4
    · rw [if_pos h, if_pos (.inl h.symm)]
    · rw [if_neg h, runT_eq f (y :: r)]
      by_cases h2 : 4 ∈ stpl f (y :: r)
      · rw [if_pos h2, if_pos (.inr h2)]
      · rw [if_neg h2, if_neg (fun k => k.elim (Ne.symm h) h2), Int.add_assoc]
theorem stpl_get (f : Int) : ∀ (l : List Int) (j : Nat), (stpl f l)[j]? = if j < l.length then some (dd (l.getD j 0) (if j + 1 < l.length then l.getD (j + 1) 0 else f)) else none
  | [], j => by simp [stpl]
  | [x], j => by
    cases j with
    | zero => simp [stpl]
    | succ j => simp [stpl]
  | x :: y :: r, j => by
    cases j with
    | zero => simp [stpl]
    | succ j =>
      have := stpl_get f (y :: r) j
      simp only [stpl, List.getElem?_cons_succ, this, List.length_cons, List.getD_cons_succ, Nat.add_lt_add_iff_right]
theorem stps_stpl (es : List Int) : stps es es.length = stpl (es.headD 0) es := by
  refine List.ext_getElem? fun j => ?_
  rw [stpl_get]
  unfold stps
  rw [List.getElem?_map]
  by_cases h : j < es.length
  · rw [List.getElem?_range h, if_pos h]
    simp only [Option.map_some, stp8]
    congr 2
    by_cases h2 : j + 1 < es.length
    · rw [if_pos h2, Nat.mod_eq_of_lt h2]
    · rw [if_neg h2, show j + 1 = es.length from by omega, Nat.mod_self]
      cases es <;> rfl
  · rw [if_neg h, List.getElem?_eq_none (by rw [List.length_range]; omega)]; rfl
theorem hasZ_iff : ∀ (zs : List GZ), hasZ zs = true ↔ ∃ z, z ∈ zs ∧ z = (0, 0)
  | [] => by simp [hasZ]
  | z :: r => by
    simp only [hasZ, Bool.or_eq_true, Bool.and_eq_true, decide_eq_true_eq, hasZ_iff r, List.mem_cons]
    constructor
    · rintro (⟨h1, h2⟩ | ⟨w, hw, h0⟩)
      · exact ⟨z, .inl rfl, Prod.ext h1 h2⟩
      · exact ⟨w, .inr hw, h0⟩
    · rintro ⟨w, rfl | hw, h0⟩
      · subst h0; exact .inl ⟨rfl, rfl⟩
      · exact .inr ⟨w, hw, h0⟩
theorem esE_sm : ∀ {zs : List GZ}, (∀ z, z ∈ zs → gsz z < SM) → esE zs = if hasZ zs then 1 else 0
  | [], _ => rfl
  | z :: r, h => by
    have h1 := h z List.mem_cons_self
    have ih := esE_sm (zs := r) fun w hw => h w (List.mem_cons_of_mem _ hw)
    have hE : eiE z = if z = (0, 0) then 1 else 0 := if_pos h1
    rw [esE, hE]
    by_cases hz : z = (0, 0)
    · subst hz; rfl
    · rw [if_neg hz, if_pos rfl, ih]
      have : hasZ (z :: r) = hasZ r := by
        have h2 : (decide (z.1 = 0) && decide (z.2 = 0)) = false := by
          cases hq : (decide (z.1 = 0) && decide (z.2 = 0)) with
          | false => rfl
          | true =>
            rw [Bool.and_eq_true, decide_eq_true_eq, decide_eq_true_eq] at hq
            exact absurd (Prod.ext hq.1 hq.2) hz
        rw [hasZ, h2, Bool.false_or]
      rw [this]
theorem tu_run {zs : List GZ} (h : ∀ z, z ∈ zs → gsz z < SM) : tuE zs = (runP zs).2 ∧ tuF zs = (runP zs).1 := by
  have hs := stps_stpl (zs.map ei)
  rw [List.length_map] at hs
  have he := esE_sm h
  by_cases hz : hasZ zs = true
  · rw [if_pos hz] at he
    have e1 : tuE zs = 1 := by unfold tuE; rw [he]; rfl
    have e2 : tuF zs = 0 := by unfold tuF; rw [e1]; rfl
    unfold runP; rw [if_pos hz]; exact ⟨e1, e2⟩
  · rw [if_neg hz] at he
    unfold runP
    rw [if_neg hz, runT_eq, ← hs]
    by_cases h4 : 4 ∈ stps (zs.map ei) zs.length
    · have e1 : tuE zs = 3 := by unfold tuE; rw [he, if_pos rfl, if_pos h4]
      have e2 : tuF zs = 0 := by unfold tuF; rw [e1]; rfl
      rw [if_pos h4]; exact ⟨e1, e2⟩
    · have e1 : tuE zs = 0 := by unfold tuE; rw [he, if_pos rfl, if_neg h4]
      have e2 : tuF zs = (isum (stps (zs.map ei) zs.length)).tdiv 8 := by unfold tuF; rw [e1, if_pos rfl]
      rw [if_neg h4, Int.zero_add]; exact ⟨e1, e2⟩
/-- along a square, where all values are told -/
theorem ar_run {l : List Int} {mid : Int} {r : Nat} (h1 : 1 ≤ r) (h2 : r ≤ 4096) (h3 : gsz (mid, 0) + 2 * r < SM) (g : Nat → GZ) (hg : ∀ k, k < 8 * r → vOk l (gadd (mid, 0) (sqp r k)) ∧ vF l (gadd (mid, 0) (sqp r k)) = g k ∧ gsz (g k) < SM) :
    arE l (mid, 0) (r : Int) = (runP ((List.range (8 * r)).map g)).2 ∧ arF l (mid, 0) (r : Int) = (runP ((List.range (8 * r)).map g)).1 := by
  have e1 : sqE (mid, 0) (r : Int) = 0 := by
    unfold sqE
    rw [if_neg (by omega), if_pos (by omega)]
  have e2 : sqF (mid, 0) (r : Int) = sqs (mid, 0) r (8 * r) := by unfold sqF; rw [if_pos e1, Int.toNat_natCast]
  have e3 : vsE l (sqs (mid, 0) r (8 * r)) = 0 := by
    unfold vsE
    rw [if_pos]
    intro z hz
    obtain ⟨k, hk, rfl⟩ := List.mem_map.1 hz
    exact (hg k (List.mem_range.1 hk)).1
  have e4 : vsF l (sqs (mid, 0) r (8 * r)) = (List.range (8 * r)).map g := by
    unfold vsF
    rw [if_pos e3]
    unfold sqs
    rw [List.map_map]
    exact List.map_congr_left fun k hk => (hg k (List.mem_range.1 hk)).2.1
  have hs : ∀ z, z ∈ (List.range (8 * r)).map g → gsz z < SM := fun z hz => by
    obtain ⟨k, hk, rfl⟩ := List.mem_map.1 hz
    exact (hg k (List.mem_range.1 hk)).2.2
  obtain ⟨t1, t2⟩ := tu_run hs
  have e5 : arE l (mid, 0) (r : Int) = (runP ((List.range (8 * r)).map g)).2 := by
    unfold arE; rw [if_pos e1, e2, if_pos e3, e4, t1]
  refine ⟨e5, ?_⟩
  unfold arF
  by_cases h0 : arE l (mid, 0) (r : Int) = 0
  · rw [if_pos h0, e2, e4, t2]
  · rw [if_neg h0]
    rw [e5, ← t1] at h0
    rw [← t2]
    unfold tuF; rw [if_neg h0]
theorem vv {l : List Int} {z : GZ} (h1 : gsz z < SM) (h2 : wsum (max (gsz z) 1) l < SM) : vOk l z ∧ vF l z = horner z l := ⟨⟨h1, h2⟩, if_pos ⟨h1, h2⟩⟩
def linv (a : Int) (r k : Nat) : GZ := ((sqp r k).1 + a, (sqp r k).2)
def quav (c : Int) (r k : Nat) : GZ := ((sqp r k).1 * (sqp r k).1 - (sqp r k).2 * (sqp r k).2 + c * c, (sqp r k).1 * (sqp r k).2 + (sqp r k).2 * (sqp r k).1)
theorem ar_lin {c mid : Int} {r : Nat} (h1 : 4 ≤ r) (h2 : r ≤ 12) (hm : mid.natAbs ≤ 9) (hc : c.natAbs ≤ 39) :
    arE [-c, 1] (mid, 0) (r : Int) = (runP ((List.range (8 * r)).map (linv (mid - c) r))).2 ∧ arF [-c, 1] (mid, 0) (r : Int) = (runP ((List.range (8 * r)).map (linv (mid - c) r))).1 := by
  refine ar_run (by omega) (by omega) (by unfold gsz; simp only [SM]; omega) _ fun k hk => ?_
  obtain ⟨b1, b2⟩ := sqp_bnd (r := r) (k := k) (by omega)
  have hh : horner (gadd (mid, 0) (sqp r k)) [-c, 1] = linv (mid - c) r k := by
    simp only [horner, gadd, gmul, linv, Int.zero_mul, Int.sub_zero, Int.add_zero, Int.zero_add, Int.one_mul]
    rw [Prod.mk.injEq]; constructor <;> omega
  have hz : gsz (gadd (mid, 0) (sqp r k)) ≤ 33 := by unfold gsz gadd; simp only []; omega
  generalize hw : gadd (mid, 0) (sqp r k) = w at *
  obtain ⟨v1, v2⟩ := vv (l := [-c, 1]) (z := w) (by simp only [SM]; omega) (by simp only [wsum, SM, Nat.mul_zero, Nat.add_zero, Int.natAbs_one, Nat.mul_one]; omega)
  refine ⟨v1, v2.trans hh, ?_⟩
  unfold linv gsz; simp only [SM]; omega
theorem ar_qua {c : Int} {r : Nat} (h1 : 4 ≤ r) (h2 : r ≤ 12) (hc : c.natAbs ≤ 39) :
    arE [c * c, 0, 1] (0, 0) (r : Int) = (runP ((List.range (8 * r)).map (quav c r))).2 ∧ arF [c * c, 0, 1] (0, 0) (r : Int) = (runP ((List.range (8 * r)).map (quav c r))).1 := by
  refine ar_run (by omega) (by omega) (by unfold gsz; simp only [SM]; omega) _ fun k hk => ?_
  obtain ⟨b1, b2⟩ := sqp_bnd (r := r) (k := k) (by omega)
  have hh : horner (gadd (0, 0) (sqp r k)) [c * c, 0, 1] = quav c r k := by
    simp only [horner, gadd, gmul, quav, Int.zero_mul, Int.sub_zero, Int.add_zero, Int.zero_add, Int.one_mul]
  have hz : gsz (gadd (0, 0) (sqp r k)) ≤ 24 := by unfold gsz gadd; simp only []; omega
  have hcc : (c * c).natAbs ≤ 39 * 39 := by rw [Int.natAbs_mul]; exact Nat.mul_le_mul hc hc
  have p1 : ((sqp r k).1 * (sqp r k).1).natAbs ≤ 12 * 12 := by rw [Int.natAbs_mul]; exact Nat.mul_le_mul (by omega) (by omega)
  have p2 : ((sqp r k).2 * (sqp r k).2).natAbs ≤ 12 * 12 := by rw [Int.natAbs_mul]; exact Nat.mul_le_mul (by omega) (by omega)
  have p3 : ((sqp r k).1 * (sqp r k).2).natAbs ≤ 12 * 12 := by rw [Int.natAbs_mul]; exact Nat.mul_le_mul (by omega) (by omega)
  have p4 : ((sqp r k).2 * (sqp r k).1).natAbs ≤ 12 * 12 := by rw [Int.natAbs_mul]; exact Nat.mul_le_mul (by omega) (by omega)
  generalize hw : gadd (0, 0) (sqp r k) = w at *
  have hm : max (gsz w) 1 ≤ 24 := by omega
  obtain ⟨v1, v2⟩ := vv (l := [c * c, 0, 1]) (z := w) (by simp only [SM]; omega) (by
    simp only [wsum, SM, Nat.mul_zero, Nat.add_zero, Int.natAbs_zero, Nat.zero_add, Int.natAbs_one, Nat.mul_one]
    have := Nat.mul_le_mul hm hm
    omega)
  refine ⟨v1, v2.trans hh, ?_⟩
  unfold quav gsz; simp only [SM]; omega
theorem ar_con {mid : Int} {r : Nat} (h1 : 4 ≤ r) (h2 : r ≤ 12) (hm : mid.natAbs ≤ 9) :
    arE [7] (mid, 0) (r : Int) = (runP ((List.range (8 * r)).map fun _ => (7, 0))).2 ∧ arF [7] (mid, 0) (r : Int) = (runP ((List.range (8 * r)).map fun _ => (7, 0))).1 := by
  refine ar_run (by omega) (by omega) (by unfold gsz; simp only [SM]; omega) _ fun k hk => ?_
  obtain ⟨b1, b2⟩ := sqp_bnd (r := r) (k := k) (by omega)
  have hh : horner (gadd (mid, 0) (sqp r k)) [7] = (7, 0) := by
    simp only [horner, gadd, gmul, Int.zero_mul, Int.sub_zero, Int.add_zero, Int.zero_add]
  have hz : gsz (gadd (mid, 0) (sqp r k)) ≤ 33 := by unfold gsz gadd; simp only []; omega
  generalize gadd (mid, 0) (sqp r k) = w at *
  obtain ⟨v1, v2⟩ := vv (l := [7]) (z := w) (by simp only [SM]; omega) (by simp only [wsum, Nat.mul_zero, Nat.add_zero]; decide)
  exact ⟨v1, v2.trans hh, by decide⟩
set_option maxRecDepth 100000
def okL (a r : Nat) : Bool :=
  let p := runP ((List.range (8 * r)).map (linv ((a : Int) - 48) r))
  if ((a : Int) - 48).natAbs < r then p.1 == 1 && p.2 == 0 else if r < ((a : Int) - 48).natAbs then p.1 == 0 && p.2 == 0 else p.2 == 1
theorem okL_all : ∀ r, r < 13 → 4 ≤ r → ∀ a, a < 97 → okL a r = true := by decide +kernel
def okQ (c r : Nat) : Bool :=
  let p := runP ((List.range (8 * r)).map (quav (c : Int) r))
  if c = r then p.2 == 1 else if c + 1 < r ∧ 6 < r then p.1 == 2 && p.2 == 0 else if r + 2 < c then (!(p.2 == 0) || p.1 == 0) else true
theorem okQ_all : ∀ r, r < 13 → 4 ≤ r → ∀ c, c < 40 → 1 ≤ c → okQ c r = true := by decide +kernel
def okC (r : Nat) : Bool := let p := runP ((List.range (8 * r)).map fun _ => (7, 0)); p.1 == 0 && p.2 == 0
theorem okC_all : ∀ r, r < 13 → 4 ≤ r → okC r = true := by decide +kernel
/-! ### what the law asks -/
theorem roots_lin {c mid : Int} {r : Nat} (h1 : 4 ≤ r) (h2 : r ≤ 12) (hm : mid.natAbs ≤ 9) (hc : c.natAbs ≤ 39) :
    ((c - mid).natAbs < r → arF [-c, 1] (mid, 0) r = 1 ∧ arE [-c, 1] (mid, 0) r = 0) ∧ (r < (c - mid).natAbs → arF [-c, 1] (mid, 0) r = 0 ∧ arE [-c, 1] (mid, 0) r = 0) ∧ ((c - mid).natAbs = r → arE [-c, 1] (mid, 0) r = 1) := by
  obtain ⟨e1, e2⟩ := ar_lin h1 h2 hm hc
  have hk := okL_all r (by omega) h1 (mid - c + 48).toNat (by omega)
  unfold okL at hk
  dsimp only at hk
  rw [show (((mid - c + 48).toNat : Nat) : Int) - 48 = mid - c from by omega] at hk
  rw [← e1, ← e2] at hk
  have hab : (mid - c).natAbs = (c - mid).natAbs := by omega
  rw [hab] at hk
  generalize arF [-c, 1] (mid, 0) r = F at *
  generalize arE [-c, 1] (mid, 0) r = E at *
  refine ⟨fun h => ?_, fun h => ?_, fun h => ?_⟩
  · rw [if_pos h] at hk; simpa using hk
  · rw [if_neg (by omega), if_pos h] at hk; simpa using hk
  · rw [if_neg (by omega), if_neg (by omega)] at hk; simpa using hk
theorem roots_qua {c : Int} {r : Nat} (h1 : 4 ≤ r) (h2 : r ≤ 12) (hc : c.natAbs ≤ 39) (h0 : c ≠ 0) :
    (c.natAbs = r → arE [c * c, 0, 1] (0, 0) r = 1) ∧ (c.natAbs + 1 < r → 6 < r → arF [c * c, 0, 1] (0, 0) r = 2 ∧ arE [c * c, 0, 1] (0, 0) r = 0) ∧ (r + 2 < c.natAbs → arE [c * c, 0, 1] (0, 0) r = 0 → arF [c * c, 0, 1] (0, 0) r = 0) := by
  obtain ⟨e1, e2⟩ := ar_qua h1 h2 hc
  have hk := okQ_all r (by omega) h1 c.natAbs (by omega) (by omega)
  unfold okQ at hk
  dsimp only at hk
  have hq : quav ((c.natAbs : Nat) : Int) r = quav c r := by
    funext k
    unfold quav
    rw [show ((c.natAbs : Nat) : Int) * ((c.natAbs : Nat) : Int) = c * c from Int.natAbs_mul_self' c]
  rw [hq, ← e1, ← e2] at hk
  generalize arF [c * c, 0, 1] (0, 0) r = F at *
  generalize arE [c * c, 0, 1] (0, 0) r = E at *
  refine ⟨fun h => ?_, fun h h' => ?_, fun h h' => ?_⟩
  · rw [if_pos h] at hk; simpa using hk
  · rw [if_neg (by omega), if_pos ⟨h, h'⟩] at hk; simpa using hk
  · rw [if_neg (by omega), if_neg (by omega), if_pos h, h'] at hk; simpa using hk
theorem roots_con {mid : Int} {r : Nat} (h1 : 4 ≤ r) (h2 : r ≤ 12) (hm : mid.natAbs ≤ 9) : arF [7] (mid, 0) r = 0 ∧ arE [7] (mid, 0) r = 0 := by
  obtain ⟨e1, e2⟩ := ar_con h1 h2 hm
  have hk := okC_all r (by omega) h1
  unfold okC at hk
  dsimp only at hk
  rw [← e1, ← e2] at hk
  simpa using hk
end Go.Proofs.Ytfkldohgiifgbaa
