/-
  Plain: texts of numbers in base ten, and back.
-/
import Derived.Test.YtgejbndgakgfnaaGreatDoorRT
namespace Go.Proofs.YtgejbndgakgfnaaGreatDoor
set_option linter.unusedSimpArgs false
set_option linter.unusedVariables false
set_option maxHeartbeats 10000000
def dvl (c : UInt8) : Nat := c.toNat - 48
def isDg (c : UInt8) : Bool := decide (48 ≤ c.toNat ∧ c.toNat ≤ 57)
theorem dvl_chr {d : Nat} (h : d < 10) : dvl (chr d) = d := by unfold dvl; rw [chr_n h]; omega
theorem isDg_chr {d : Nat} (h : d < 10) : isDg (chr d) = true := by unfold isDg; rw [chr_n h, decide_eq_true_eq]; omega
theorem dvl_lt {c : UInt8} (h : isDg c = true) : dvl c < 10 := by unfold isDg at h; rw [decide_eq_true_eq] at h; unfold dvl; omega
theorem chr_ne {d : Nat} (h : d < 10) (h0 : d ≠ 0) : chr d ≠ 48 := fun e => by
  have := chr_n h
  rw [e] at this
  have h48 : (48 : UInt8).toNat = 48 := rfl
  omega
def dgsT (t : List UInt8) : List Nat := t.reverse.map dvl
def numT (t : List UInt8) : Nat := nv 10 (dgsT t)
def okN (t : List UInt8) : Bool := decide (t ≠ [] ∧ ¬ (1 < t.length ∧ t.getD 0 0 = 48)) && t.all isDg
theorem okN_iff {t : List UInt8} : okN t = true ↔ t ≠ [] ∧ ¬ (1 < t.length ∧ t.getD 0 0 = 48) ∧ ∀ c, c ∈ t → isDg c = true := by
  unfold okN
  rw [Bool.and_eq_true, decide_eq_true_eq, List.all_eq_true, and_assoc]
theorem dgsT_lt {t : List UInt8} (h : ∀ c, c ∈ t → isDg c = true) : Lt 10 (dgsT t) := fun x hx => by
  obtain ⟨c, hc, rfl⟩ := List.mem_map.1 hx
  exact dvl_lt (h c (List.mem_reverse.1 hc))
theorem dgTop {b v : Nat} (h : dg b v ≠ []) : (dg b v).getLast h ≠ 0 := fun h0 => by
  have h1 := tz_dg' (b := b) v
  have hl : 0 < (dg b v).length := List.length_pos_iff.2 h
  have h2 := tz_zero (dg b v) ((dg b v).length - 1) (by omega) (by
    rw [List.getD_eq_getElem?_getD, List.getElem?_eq_getElem (by omega), Option.getD_some, ← List.getLast_eq_getElem h]; exact h0)
  rw [show (dg b v).length - 1 + 1 = (dg b v).length from by omega, List.take_length, h1] at h2
  have := tz_len ((dg b v).take ((dg b v).length - 1))
  rw [← h2, List.length_take] at this; omega
theorem dgsT_chr {l : List Nat} (h : ∀ d, d ∈ l → d < 10) : dgsT (l.reverse.map chr) = l := by
  unfold dgsT
  rw [← List.map_reverse, List.reverse_reverse, List.map_map]
  conv => rhs; rw [← List.map_id l]
  exact List.map_congr_left fun d hd => dvl_chr (h d hd)
theorem numT_dec (u : Nat) : numT (decS u) = u := by
  unfold numT decS
  split
  · rename_i h; rw [h]; rfl
  · rw [dgsT_chr (dg_lt_ten u), nv_dg (by decide)]
theorem okN_dec (u : Nat) : okN (decS u) = true := by
  rw [okN_iff]
  unfold decS
  split
  · exact ⟨by simp, fun h => by simp at h, fun c hc => by rw [List.mem_singleton] at hc; rw [hc]; rfl⟩
  · rename_i h
    have hne : dg 10 u ≠ [] := fun e => h ((dg_nil (by decide)).1 e)
    have hlt := dg_lt_ten u
    refine ⟨fun e => hne (by simpa using e), fun ⟨_, e⟩ => ?_, fun c hc => ?_⟩
    · have h2 := dgTop hne
      have h3 : ((dg 10 u).reverse.map chr).getD 0 0 = chr ((dg 10 u).getLast hne) := by
        rw [List.getD_eq_getElem?_getD, List.getElem?_map, ← List.head?_eq_getElem?, List.head?_reverse, List.getLast?_eq_some_getLast hne]; rfl
      rw [h3] at e
      exact chr_ne (hlt _ (List.getLast_mem hne)) h2 e
    · obtain ⟨d, hd, rfl⟩ := List.mem_map.1 hc
      exact isDg_chr (hlt d (List.mem_reverse.1 hd))
def ngT (s : List UInt8) : Bool := s.head? == some 45
def bdT (s : List UInt8) : List UInt8 := if ngT s then s.drop 1 else s
theorem okN_head {t : List UInt8} (h : okN t = true) : ngT t = false := by
  obtain ⟨h1, _, h3⟩ := okN_iff.1 h
  match t, h1 with
  | c :: r, _ =>
    unfold ngT
    have hc := h3 c List.mem_cons_self
    rcases Bool.eq_false_or_eq_true ((c :: r).head? == some 45) with h | h
    · have : c = 45 := by simpa using h
      subst this; cases hc
    · exact h
theorem zS_bd {z : Int} : ngT (zS z) = decide (z < 0) ∧ bdT (zS z) = decS z.natAbs := by
  unfold zS
  by_cases h : z < 0
  · rw [if_pos h, decide_eq_true h]; exact ⟨rfl, rfl⟩
  · have := okN_head (okN_dec z.natAbs)
    rw [if_neg h, decide_eq_false h]
    refine ⟨this, ?_⟩
    unfold bdT; rw [this]; rfl
end Go.Proofs.YtgejbndgakgfnaaGreatDoor
