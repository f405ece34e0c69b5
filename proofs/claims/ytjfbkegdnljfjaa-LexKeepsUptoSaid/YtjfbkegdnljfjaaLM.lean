/-
  Plain bytes: what a token is, which tokens a line has.
-/
namespace Go.Proofs.Ytjfbkegdnljfjaa
set_option linter.unusedSimpArgs false
set_option linter.unusedVariables false
set_option maxHeartbeats 10000000
def isBl (c : UInt8) : Bool := decide (c.toNat = 32 ∨ c.toNat = 9)
def isDig (c : UInt8) : Bool := decide (48 ≤ c.toNat ∧ c.toNat ≤ 57)
def isSm (c : UInt8) : Bool := decide (97 ≤ c.toNat ∧ c.toNat ≤ 122)
def isCap (c : UInt8) : Bool := decide (65 ≤ c.toNat ∧ c.toNat ≤ 90)
def isLet (c : UInt8) : Bool := isSm c || isCap c
def isAl (c : UInt8) : Bool := isDig c || isLet c
def symbols : List UInt8 := [43, 45, 42, 47, 94, 40, 41, 61]
def isSym (c : UInt8) : Bool := symbols.contains c
def run (p : UInt8 → Bool) : List UInt8 → Nat
  | [] => 0
  | c :: r => if p c then run p r + 1 else 0
def rowLen : List UInt8 → Nat
  | [] => 0
  | c :: r => if isDig c then run isDig r + 1 else if isLet c then run isAl r + 1 else if isSym c then 1 else 0
def rowLen1 : List UInt8 → Nat
  | [] => 0
  | c :: r => if isDig c then run isDig r + 1 else if isLet c then run isAl r + 1 else 1
def cnt (p : UInt8 → Bool) (l : List UInt8) : Nat := (l.filter p).length
def kind (s : List UInt8) : Nat :=
  if s = [] ∨ rowLen s ≠ s.length then 0
  else if isDig (s.getD 0 0) then (if (s.getD 0 0).toNat = 48 ∧ 1 < s.length then 0 else 1)
  else if isLet (s.getD 0 0) then (if cnt isCap s = 0 then 2 else if cnt isCap s = s.length then 3 else 4)
  else 5
def rkind (s : List UInt8) : Nat :=
  if s = [] then 0
  else if s.length = 1 ∧ isSym (s.getD 0 0) then 5
  else if s.all isAl then
    (if cnt isDig s = s.length then (if (s.getD 0 0).toNat = 48 ∧ 1 < s.length then 0 else 1)
     else if isDig (s.getD 0 0) then 0
     else if cnt isCap s = 0 then 2 else if cnt isCap s = s.length then 3 else 4)
  else 0
theorem run_le (p : UInt8 → Bool) : ∀ l, run p l ≤ l.length
  | [] => Nat.le_refl _
  | c :: r => by simp only [run, List.length_cons]; split <;> (have := run_le p r; omega)
theorem run_all (p : UInt8 → Bool) : ∀ l, run p l = l.length ↔ l.all p = true
  | [] => by simp [run]
  | c :: r => by
    have h1 := run_all p r
    have h2 := run_le p r
    simp only [run, List.length_cons, List.all_cons, Bool.and_eq_true]
    split
    · rename_i h; rw [← h1]; simp [h]
    · rename_i h; simp [h]
theorem run_t {p : UInt8 → Bool} {s : List UInt8} {i : Nat} (hi : i < s.length) (h : p (s.getD i 0) = true) : run p (s.drop i) = run p (s.drop (i + 1)) + 1 := by
  rw [List.drop_eq_getElem_cons hi, run]
  rw [List.getD_eq_getElem?_getD, List.getElem?_eq_getElem hi] at h
  simp only [Option.getD_some] at h
  rw [if_pos h]
theorem run_f {p : UInt8 → Bool} {s : List UInt8} {i : Nat} (hi : i < s.length) (h : p (s.getD i 0) = false) : run p (s.drop i) = 0 := by
  rw [List.drop_eq_getElem_cons hi, run]
  rw [List.getD_eq_getElem?_getD, List.getElem?_eq_getElem hi] at h
  simp only [Option.getD_some] at h
  simp [h]
theorem run_e {p : UInt8 → Bool} {s : List UInt8} {i : Nat} (hi : s.length ≤ i) : run p (s.drop i) = 0 := by rw [List.drop_of_length_le hi]; rfl
theorem rowLen_le : ∀ l, rowLen l ≤ l.length
  | [] => Nat.le_refl _
  | c :: r => by simp only [rowLen, List.length_cons]; have := run_le isDig r; have := run_le isAl r; split <;> (try split) <;> (try split) <;> omega
theorem rowLen1_le : ∀ l, rowLen1 l ≤ l.length
  | [] => Nat.le_refl _
  | c :: r => by simp only [rowLen1, List.length_cons]; have := run_le isDig r; have := run_le isAl r; split <;> (try split) <;> omega
theorem rowLen_at {s : List UInt8} (h : 0 < s.length) : rowLen s = if isDig (s.getD 0 0) then run isDig (s.drop 1) + 1 else if isLet (s.getD 0 0) then run isAl (s.drop 1) + 1 else if isSym (s.getD 0 0) then 1 else 0 := by
  cases s with
  | nil => simp at h
  | cons c r => rfl
theorem rowLen1_at {s : List UInt8} {i : Nat} (h : i < s.length) : rowLen1 (s.drop i) = if isDig (s.getD i 0) then run isDig (s.drop (i + 1)) + 1 else if isLet (s.getD i 0) then run isAl (s.drop (i + 1)) + 1 else 1 := by
  rw [List.drop_eq_getElem_cons h, rowLen1, List.getD_eq_getElem?_getD, List.getElem?_eq_getElem h]; rfl
theorem dig_sym {c : UInt8} (h : isAl c = true) : isSym c = false := by
  simp only [isAl, isLet, isDig, isSm, isCap, isSym, symbols, Bool.or_eq_true, decide_eq_true_eq, List.contains_cons, List.contains_nil, Bool.or_false] at h ⊢
  simp only [Bool.or_eq_false_iff, beq_eq_false_iff_ne, ne_eq]
  refine ⟨?_, ?_, ?_, ?_, ?_, ?_, ?_, ?_⟩ <;> (intro e; subst e; revert h; decide)
theorem cnt_le (p : UInt8 → Bool) (l : List UInt8) : cnt p l ≤ l.length := List.length_filter_le _ _
theorem cnt_all (p : UInt8 → Bool) (l : List UInt8) : cnt p l = l.length ↔ l.all p = true := by
  unfold cnt
  rw [List.length_filter_eq_length_iff, List.all_eq_true]
theorem cnt_take_t {p : UInt8 → Bool} {s : List UInt8} {i : Nat} (hi : i < s.length) (h : p (s.getD i 0) = true) : cnt p (s.take (i + 1)) = cnt p (s.take i) + 1 := by
  rw [List.getD_eq_getElem?_getD, List.getElem?_eq_getElem hi] at h
  simp only [Option.getD_some] at h
  unfold cnt
  rw [List.take_succ_eq_append_getElem hi, List.filter_append, List.length_append]
  simp [h]
theorem cnt_take_f {p : UInt8 → Bool} {s : List UInt8} {i : Nat} (hi : i < s.length) (h : p (s.getD i 0) = false) : cnt p (s.take (i + 1)) = cnt p (s.take i) := by
  rw [List.getD_eq_getElem?_getD, List.getElem?_eq_getElem hi] at h
  simp only [Option.getD_some] at h
  unfold cnt
  rw [List.take_succ_eq_append_getElem hi, List.filter_append, List.length_append]
  simp [h]
theorem cnt_take_le (p : UInt8 → Bool) (s : List UInt8) (i : Nat) : cnt p (s.take i) ≤ i := Nat.le_trans (cnt_le _ _) (by rw [List.length_take]; exact Nat.min_le_left _ _)
theorem sm_cap {c : UInt8} (h : isSm c = true) : isCap c = false := by
  unfold isSm at h; unfold isCap
  rw [decide_eq_true_eq] at h; rw [decide_eq_false_iff_not]; omega
theorem dig_let {c : UInt8} (h : isDig c = true) : isSm c = false ∧ isCap c = false := by
  unfold isDig at h; unfold isSm isCap
  rw [decide_eq_true_eq] at h; rw [decide_eq_false_iff_not, decide_eq_false_iff_not]; omega
theorem rkind_eq (s : List UInt8) : rkind s = kind s := by
  cases s with
  | nil => rfl
  | cons c r =>
    have hd := run_all isDig r
    have ha := run_all isAl r
    have g0 : (c :: r).getD 0 0 = c := rfl
    by_cases h1 : isDig c = true
    · have hal : isAl c = true := by simp [isAl, h1]
      have hs := dig_sym hal
      have hrl : rowLen (c :: r) = run isDig r + 1 := by simp [rowLen, h1]
      by_cases h2 : r.all isDig = true
      · have h3 : (c :: r).all isAl = true := by
          rw [List.all_cons, hal, Bool.true_and]
          rw [List.all_eq_true] at h2 ⊢
          intro x hx; simp [isAl, h2 x hx]
        have h4 : cnt isDig (c :: r) = (c :: r).length := (cnt_all _ _).2 (by rw [List.all_cons, h1, h2]; rfl)
        have h5 : rowLen (c :: r) = (c :: r).length := by rw [hrl, hd.2 h2]; rfl
        unfold rkind kind
        simp only [g0, hs, h3, h4, h5, h1]
        simp
      · have h5 : ¬ rowLen (c :: r) = (c :: r).length := by rw [hrl]; intro e; exact h2 (hd.1 (by simpa using e))
        have h4 : ¬ cnt isDig (c :: r) = (c :: r).length := fun e => h2 (by have := (cnt_all _ _).1 e; rw [List.all_cons, h1, Bool.true_and] at this; exact this)
        have hk : kind (c :: r) = 0 := by unfold kind; rw [if_pos (.inr h5)]
        rw [hk]
        unfold rkind
        simp only [g0, hs, h4, h1]
        simp
    · by_cases h1' : isLet c = true
      · have hal : isAl c = true := by simp [isAl, h1']
        have hs := dig_sym hal
        have hrl : rowLen (c :: r) = run isAl r + 1 := by simp [rowLen, h1, h1']
        have h4 : ¬ cnt isDig (c :: r) = (c :: r).length := fun e => h1 (by have := (cnt_all _ _).1 e; rw [List.all_cons, Bool.and_eq_true] at this; exact this.1)
        by_cases h2 : r.all isAl = true
        · have h3 : (c :: r).all isAl = true := by rw [List.all_cons, hal, h2]; rfl
          have h5 : rowLen (c :: r) = (c :: r).length := by rw [hrl, ha.2 h2]; rfl
          unfold rkind kind
          simp only [g0, hs, h3, h4, h5, h1, h1']
          simp
        · have h3 : ¬ (c :: r).all isAl = true := by rw [List.all_cons, hal, Bool.true_and]; exact h2
          have h5 : ¬ rowLen (c :: r) = (c :: r).length := by rw [hrl]; intro e; exact h2 (ha.1 (by simpa using e))
          have hk : kind (c :: r) = 0 := by unfold kind; rw [if_pos (.inr h5)]
          rw [hk]
          unfold rkind
          simp only [g0, hs, h3]
          simp
      · have hal : ¬ isAl c = true := by simp [isAl, h1, h1']
        have h3 : ¬ (c :: r).all isAl = true := by rw [List.all_cons, Bool.and_eq_true]; exact fun h => hal h.1
        by_cases h6 : isSym c = true
        · have hrl : rowLen (c :: r) = 1 := by simp [rowLen, h1, h1', h6]
          unfold rkind kind
          simp only [g0, h3, hrl, h1, h1', h6]
          cases r <;> simp
        · have hrl : rowLen (c :: r) = 0 := by simp [rowLen, h1, h1', h6]
          unfold rkind kind
          simp only [g0, h3, hrl, h6]
          simp
structure Tk where
  k : Int
  t : List UInt8
  a : Int
  deriving DecidableEq, Inhabited
def scanF : Nat → List UInt8 → Nat → Option (List Tk)
  | 0, _, _ => some []
  | _ + 1, [], _ => some []
  | f + 1, c :: r, i =>
    if isBl c then scanF f r (i + 1)
    else if kind ((c :: r).take (rowLen (c :: r))) = 0 then none
    else (scanF f ((c :: r).drop (rowLen (c :: r))) (i + rowLen (c :: r))).map (⟨kind ((c :: r).take (rowLen (c :: r))), (c :: r).take (rowLen (c :: r)), i⟩ :: ·)
def scan (s : List UInt8) (i : Nat) : Option (List Tk) := scanF (s.length - i) (s.drop i) i
theorem kind_nil : kind [] = 0 := rfl
theorem rowLen_pos {l : List UInt8} (h : kind (l.take (rowLen l)) ≠ 0) : 1 ≤ rowLen l := by
  rcases Nat.eq_zero_or_pos (rowLen l) with e | e
  · rw [e, List.take_zero] at h; exact absurd kind_nil h
  · exact e
theorem scanF_fuel : ∀ (f : Nat) (l : List UInt8) (i : Nat), l.length ≤ f → scanF f l i = scanF l.length l i
  | 0, l, i, h => by
    have : l = [] := List.eq_nil_of_length_eq_zero (by omega)
    subst this; rfl
  | f + 1, [], i, h => by cases f <;> rfl
  | f + 1, c :: r, i, h => by
    rw [List.length_cons] at h
    rw [List.length_cons]
    simp only [scanF]
    split
    · exact scanF_fuel f r (i + 1) (by omega)
    · split
      · rfl
      · rename_i hk
        have hp := rowLen_pos hk
        have hle := rowLen_le (c :: r)
        have hl : ((c :: r).drop (rowLen (c :: r))).length ≤ r.length := by rw [List.length_drop, List.length_cons]; omega
        rw [scanF_fuel f _ _ (by omega), scanF_fuel r.length _ _ hl]
theorem scan_end {s : List UInt8} {i : Nat} (h : s.length ≤ i) : scan s i = some [] := by
  unfold scan
  rw [show s.length - i = 0 from by omega]; rfl
theorem scan_bl {s : List UInt8} {i : Nat} (h : i < s.length) (hb : isBl (s.getD i 0) = true) : scan s i = scan s (i + 1) := by
  unfold scan
  rw [List.getD_eq_getElem?_getD, List.getElem?_eq_getElem h] at hb
  simp only [Option.getD_some] at hb
  rw [List.drop_eq_getElem_cons h]
  obtain ⟨n, hn⟩ : ∃ n, s.length - i = n + 1 := ⟨s.length - i - 1, by omega⟩
  rw [hn, scanF, if_pos hb, show s.length - (i + 1) = n from by omega]
theorem scan_err {s : List UInt8} {i : Nat} (h : i < s.length) (hb : isBl (s.getD i 0) = false) (hk : kind ((s.drop i).take (rowLen (s.drop i))) = 0) : scan s i = none := by
  unfold scan
  rw [List.getD_eq_getElem?_getD, List.getElem?_eq_getElem h] at hb
  simp only [Option.getD_some] at hb
  obtain ⟨n, hn⟩ : ∃ n, s.length - i = n + 1 := ⟨s.length - i - 1, by omega⟩
  rw [hn]
  rw [List.drop_eq_getElem_cons h] at hk ⊢
  rw [scanF, if_neg (by simp [hb]), if_pos hk]
theorem scan_tok {s : List UInt8} {i : Nat} (h : i < s.length) (hb : isBl (s.getD i 0) = false) (hk : kind ((s.drop i).take (rowLen (s.drop i))) ≠ 0) :
    scan s i = (scan s (i + rowLen (s.drop i))).map (⟨kind ((s.drop i).take (rowLen (s.drop i))), (s.drop i).take (rowLen (s.drop i)), i⟩ :: ·) := by
  have hp := rowLen_pos hk
  have hle := rowLen_le (s.drop i)
  rw [List.length_drop] at hle
  unfold scan
  rw [List.getD_eq_getElem?_getD, List.getElem?_eq_getElem h] at hb
  simp only [Option.getD_some] at hb
  obtain ⟨n, hn⟩ : ∃ n, s.length - i = n + 1 := ⟨s.length - i - 1, by omega⟩
  rw [hn, ← List.drop_drop]
  generalize hd : s.drop i = l at *
  have hl : l = s[i] :: s.drop (i + 1) := by rw [← hd, List.drop_eq_getElem_cons h]
  have hll : l.length = n + 1 := by rw [← hd, List.length_drop]; exact hn
  have key : ∀ (c : UInt8) (r : List UInt8), l = c :: r → isBl c = false → scanF (n + 1) l i = (scanF (s.length - (i + rowLen l)) (l.drop (rowLen l)) (i + rowLen l)).map (⟨kind (l.take (rowLen l)), l.take (rowLen l), i⟩ :: ·) := fun c r e hb => by
    subst e
    rw [scanF, if_neg (by simp [hb]), if_neg hk]
    have h1 : ((c :: r).drop (rowLen (c :: r))).length = s.length - (i + rowLen (c :: r)) := by rw [List.length_drop, hll]; omega
    rw [← h1, scanF_fuel n _ _ (by rw [List.length_drop, hll]; omega)]
  exact key _ _ hl hb
theorem row_kind (l : List UInt8) : kind (l.take (rowLen1 l)) = kind (l.take (rowLen l)) ∧ (kind (l.take (rowLen l)) ≠ 0 → rowLen1 l = rowLen l) := by
  cases l with
  | nil => exact ⟨rfl, fun _ => rfl⟩
  | cons c r =>
    by_cases h : rowLen1 (c :: r) = rowLen (c :: r)
    · rw [h]; exact ⟨rfl, fun _ => rfl⟩
    · have h0 : rowLen (c :: r) = 0 ∧ rowLen1 (c :: r) = 1 ∧ rowLen [c] = 0 := by
        simp only [rowLen, rowLen1] at h ⊢
        by_cases h1 : isDig c = true
        · simp [h1] at h
        · by_cases h2 : isLet c = true
          · simp [h1, h2] at h
          · by_cases h3 : isSym c = true
            · simp [h1, h2, h3] at h
            · simp [h1, h2, h3]
      rw [h0.1, h0.2.1]
      have : kind [c] = 0 := by unfold kind; simp [h0.2.2]
      simp only [List.take_zero, List.take_succ_cons, this, kind_nil]
      exact ⟨trivial, fun h => absurd rfl h⟩
theorem scan_bound : ∀ (f : Nat) (l : List UInt8) (i : Nat) (ts : List Tk), scanF f l i = some ts → ts.length ≤ f
  | 0, _, _, ts, h => by cases h; exact Nat.le_refl _
  | f + 1, [], _, ts, h => by cases h; exact Nat.zero_le _
  | f + 1, c :: r, i, ts, h => by
    simp only [scanF] at h
    split at h
    · exact Nat.le_succ_of_le (scan_bound f _ _ _ h)
    · split at h
      · cases h
      · rw [Option.map_eq_some_iff] at h
        obtain ⟨ts', h1, rfl⟩ := h
        have := scan_bound f _ _ _ h1
        simp only [List.length_cons]; omega
end Go.Proofs.Ytjfbkegdnljfjaa
