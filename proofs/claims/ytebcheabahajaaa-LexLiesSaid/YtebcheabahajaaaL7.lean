/-
  LexLies: where a line's tokens lie; the law's walk.
-/
import Derived.Test.YtebcheabahajaaaL6
namespace Go.Proofs.Ytebcheabahajaaa
open Go Go.RowKit Ab
set_option linter.unusedSimpArgs false
set_option linter.unusedVariables false
set_option maxHeartbeats 10000000

theorem scan_inv (s : List UInt8) : ∀ (m p : Nat) (l : List Tk), s.length - p = m → p ≤ s.length → scan s p = some l →
    (l = [] ∧ ∀ j, p ≤ j → j < s.length → isBl (s.getD j 0) = true) ∨
    ∃ i n rest, p ≤ i ∧ i < s.length ∧ (∀ j, p ≤ j → j < i → isBl (s.getD j 0) = true) ∧ n = rowLen (s.drop i) ∧ kind ((s.drop i).take n) ≠ 0 ∧ l = ⟨kind ((s.drop i).take n), (s.drop i).take n, i⟩ :: rest ∧ scan s (i + n) = some rest
  | 0, p, l, hm, hp, h => by
    rw [scan_end (by omega)] at h
    cases h
    exact .inl ⟨rfl, fun j h1 h2 => by omega⟩
  | m + 1, p, l, hm, hp, h => by
    have hlt : p < s.length := by omega
    cases hb : isBl (s.getD p 0)
    · by_cases hk : kind ((s.drop p).take (rowLen (s.drop p))) = 0
      · rw [scan_err hlt hb hk] at h; cases h
      · rw [scan_tok hlt hb hk, Option.map_eq_some_iff] at h
        obtain ⟨rest, h1, h2⟩ := h
        exact .inr ⟨p, _, rest, Nat.le_refl _, hlt, fun j h1 h2 => by omega, rfl, hk, h2.symm, h1⟩
    · rw [scan_bl hlt hb] at h
      rcases scan_inv s m (p + 1) l (by omega) (by omega) h with ⟨h1, h2⟩ | ⟨i, n, rest, h1, h2, h3, h4⟩
      · refine .inl ⟨h1, fun j h3 h4 => ?_⟩
        rcases Nat.lt_or_ge p j with h5 | h5
        · exact h2 j h5 h4
        · obtain rfl : j = p := by omega
          exact hb
      · refine .inr ⟨i, n, rest, by omega, h2, fun j h5 h6 => ?_, h4⟩
        rcases Nat.lt_or_ge p j with h7 | h7
        · exact h3 j h7 h6
        · obtain rfl : j = p := by omega
          exact hb

theorem rowAll (p : UInt8 → Bool) : ∀ (l : List UInt8) (j : Nat), j < run p l → p (l.getD j 0) = true
  | [], j, h => by simp [run] at h
  | c :: r, j, h => by
    simp only [run] at h
    split at h
    · rename_i hc
      cases j with
      | zero => exact hc
      | succ j => exact rowAll p r j (by omega)
    · omega
theorem rowEnd (p : UInt8 → Bool) : ∀ (l : List UInt8), run p l < l.length → p (l.getD (run p l) 0) = false
  | [], h => by simp at h
  | c :: r, h => by
    simp only [run] at h ⊢
    split
    · rename_i hc
      rw [if_pos hc, List.length_cons] at h
      exact rowEnd p r (by omega)
    · rename_i hc
      simpa using hc
theorem getD_drop (s : List UInt8) (i j : Nat) : (s.drop i).getD j 0 = s.getD (i + j) 0 := by simp [List.getD_eq_getElem?_getD, List.getElem?_drop]

/-- A row ends here, or nothing lies before. -/
def endRow (s : List UInt8) (p : Nat) : Prop := p = 0 ∨ ∃ st, st < p ∧ p ≤ s.length ∧ rowLen (s.drop st) = p - st
theorem rowLen_drop {s : List UInt8} {i : Nat} (h : i < s.length) : rowLen (s.drop i) = if isDig (s.getD i 0) then run isDig (s.drop (i + 1)) + 1 else if isLet (s.getD i 0) then run isAl (s.drop (i + 1)) + 1 else if isSym (s.getD i 0) then 1 else 0 := by
  rw [List.drop_eq_getElem_cons h, rowLen, List.getD_eq_getElem?_getD, List.getElem?_eq_getElem h]; rfl
theorem kind_two (c d : UInt8) (h : 1 < kind [c, d]) : isLet c = true ∧ isAl d = true := by
  unfold kind at h
  split at h
  · omega
  · rename_i h1
    have hr : rowLen [c, d] = 2 := by
      rcases Nat.lt_or_ge (rowLen [c, d]) 2 with h2 | h2
      · exact absurd (.inr (by simp; omega)) h1
      · have := rowLen_le [c, d]; simp at this; omega
    have g0 : [c, d].getD 0 0 = c := rfl
    rw [g0] at h
    by_cases hd : isDig c = true
    · rw [if_pos hd] at h; split at h <;> omega
    · by_cases hl : isLet c = true
      · refine ⟨hl, ?_⟩
        simp only [rowLen, if_neg hd, if_pos hl, run] at hr
        split at hr
        · rename_i h3; exact h3
        · omega
      · simp only [rowLen, if_neg hd, if_neg hl] at hr
        split at hr <;> omega
theorem two_at {s : List UInt8} {q : Nat} (h : q + 1 < s.length) : (s.take (q + 1 + 1)).drop q = [s.getD q 0, s.getD (q + 1) 0] := by
  rw [List.drop_take, show q + 1 + 1 - q = 2 from by omega, List.drop_eq_getElem_cons (by omega), List.drop_eq_getElem_cons h]
  simp only [List.take_succ_cons, List.take_zero, List.getD_eq_getElem?_getD, List.getElem?_eq_getElem h, List.getElem?_eq_getElem (show q < s.length by omega), Option.getD_some]
theorem adj {s : List UInt8} {q : Nat} (he : endRow s (q + 1)) (h : q + 1 < s.length) : ¬ 1 < kind ((s.take (q + 1 + 1)).drop q) := by
  intro hk
  rw [two_at h] at hk
  obtain ⟨hc, hd⟩ := kind_two _ _ hk
  rcases he with he | ⟨st, h1, h2, h3⟩
  · omega
  · rw [rowLen_drop (by omega)] at h3
    split at h3
    · rename_i hg
      have hq : isDig (s.getD q 0) = true := by
        rcases Nat.lt_or_ge st q with h4 | h4
        · have := rowAll isDig (s.drop (st + 1)) (q - (st + 1)) (by omega)
          rwa [getD_drop, show st + 1 + (q - (st + 1)) = q from by omega] at this
        · obtain rfl : st = q := by omega
          exact hg
      have := dig_let hq
      unfold isLet at hc
      rw [this.1, this.2] at hc; cases hc
    · split at h3
      · have hrun : run isAl (s.drop (st + 1)) = q + 1 - st - 1 := by omega
        have := rowEnd isAl (s.drop (st + 1)) (by rw [List.length_drop]; omega)
        rw [hrun, getD_drop, show st + 1 + (q + 1 - st - 1) = q + 1 from by omega, hd] at this
        cases this
      · rename_i hnl
        obtain rfl : st = q := by split at h3 <;> omega
        exact hnl hc
theorem bl_cases {c : UInt8} (h : isBl c = true) : ((c.toNat : Nat) : Int) = 32 ∨ (¬ ((c.toNat : Nat) : Int) = 32) ∧ ((c.toNat : Nat) : Int) = 9 := by
  unfold isBl at h
  rw [decide_eq_true_eq] at h
  omega

-- surd/surdlaw24.LexLies
def a3 : AC := .seq (.reg [⟨some 2, none, .mv (.k (.b false))⟩])
  (.seq (.seq (.reg [⟨some 8, none, .call 10 []⟩, 
        ⟨some 9, none, .un .not (.t 8)⟩])
    (.cond (.t 9)
    (.seq (.reg [⟨some 2, none, .mv (.k (.b false))⟩])
      (.ret))
    (.skip)))
  (.seq (.reg [⟨some 11, none, .mv (.t 0)⟩, 
      ⟨some 12, none, .call 11 [(1, (.t 11))]⟩, 
      ⟨some 10, none, .mv (.t 12)⟩, 
      ⟨some 13, none, .ext (.t 10) 0⟩, 
      ⟨some 14, none, .ext (.t 10) 1⟩, 
      ⟨some 3, none, .mv (.t 13)⟩, 
      ⟨some 4, none, .mv (.t 14)⟩])
  (.seq (.seq (.reg [⟨some 15, none, .mv (.t 4)⟩, 
        ⟨some 16, none, .bin .neq (.t 15) (.k (.i .i64 0))⟩])
    (.cond (.t 16)
    (.seq (.reg [⟨some 17, none, .mv (.t 3)⟩, 
          ⟨some 18, none, .len (.t 17)⟩, 
          ⟨some 19, none, .bin .eql (.t 18) (.k (.i .i64 0))⟩, 
          ⟨some 2, none, .mv (.t 19)⟩])
      (.ret))
    (.skip)))
  (.seq (.reg [⟨some 5, none, .mv (.k (.i .i64 0))⟩])
  (.seq (.seq (.reg [⟨some 20, none, .mv (.t 3)⟩, 
        ⟨some 21, none, .len (.t 20)⟩, 
        ⟨some 22, none, .mv (.k (.i .i64 0))⟩])
    (.blk 0
    (.loop
      (.seq (.reg [⟨some 23, none, .bin .lss (.t 22) (.t 21)⟩])
        (.seq (.cond (.t 23)
          (.skip)
          (.exit 0))
        (.seq (.blk 1
          (.seq (.reg [⟨some 24, none, .idx 3 (.t 20) (.t 22)⟩, 
                ⟨some 25, none, .ld true 3 (.t 24)⟩, 
                ⟨some 7, none, .al 28 [(.i .i64 0), (.s []), (.i .i64 0)]⟩, 
                ⟨none, none, .st 3 (.t 7) (.t 25)⟩])
            (.seq (.seq (.dreg [⟨some 26, none, .fad 2 (.t 7)⟩, 
                  ⟨some 27, none, .ld false 1 (.t 26)⟩, 
                  ⟨some 28, none, .mv (.t 5)⟩, 
                  ⟨some 29, none, .bin .lss (.t 27) (.t 28)⟩, 
                  ⟨some 30, none, .mv (.t 29)⟩, 
                  ⟨some 31, some (30, false), .fad 1 (.t 7)⟩, 
                  ⟨some 32, some (30, false), .ld false 1 (.t 31)⟩, 
                  ⟨some 33, some (30, false), .bin .eql (.t 32) (.k (.s []))⟩, 
                  ⟨some 34, none, .pick (.t 30) (.k (.b true)) (.t 33)⟩, 
                  ⟨some 35, none, .mv (.t 34)⟩, 
                  ⟨some 36, some (35, false), .fad 1 (.t 7)⟩, 
                  ⟨some 37, some (35, false), .ld false 1 (.t 36)⟩, 
                  ⟨some 38, some (35, false), .slen (.t 37)⟩, 
                  ⟨some 39, some (35, false), .mv (.t 0)⟩, 
                  ⟨some 40, some (35, false), .slen (.t 39)⟩, 
                  ⟨some 41, some (35, false), .bin .gtr (.t 38) (.t 40)⟩, 
                  ⟨some 42, none, .pick (.t 35) (.k (.b true)) (.t 41)⟩, 
                  ⟨some 43, none, .mv (.t 42)⟩, 
                  ⟨some 44, some (43, false), .fad 2 (.t 7)⟩, 
                  ⟨some 45, some (43, false), .ld false 1 (.t 44)⟩, 
                  ⟨some 46, some (43, false), .mv (.t 0)⟩, 
                  ⟨some 47, some (43, false), .slen (.t 46)⟩, 
                  ⟨some 48, some (43, false), .fad 1 (.t 7)⟩, 
                  ⟨some 49, some (43, false), .ld false 1 (.t 48)⟩, 
                  ⟨some 50, some (43, false), .slen (.t 49)⟩, 
                  ⟨some 51, some (43, false), .bin .sub (.t 47) (.t 50)⟩, 
                  ⟨some 52, some (43, false), .bin .gtr (.t 45) (.t 51)⟩, 
                  ⟨some 53, none, .pick (.t 43) (.k (.b true)) (.t 52)⟩, 
                  ⟨some 54, none, .mv (.t 53)⟩, 
                  ⟨some 55, some (54, false), .mv (.t 0)⟩, 
                  ⟨some 56, some (54, false), .fad 2 (.t 7)⟩, 
                  ⟨some 57, some (54, false), .ld false 1 (.t 56)⟩, 
                  ⟨some 58, some (54, false), .fad 2 (.t 7)⟩, 
                  ⟨some 59, some (54, false), .ld false 1 (.t 58)⟩, 
                  ⟨some 60, some (54, false), .fad 1 (.t 7)⟩, 
                  ⟨some 61, some (54, false), .ld false 1 (.t 60)⟩, 
                  ⟨some 62, some (54, false), .slen (.t 61)⟩, 
                  ⟨some 63, some (54, false), .bin .add (.t 59) (.t 62)⟩, 
                  ⟨some 64, some (54, false), .ssub (.t 55) (some (.t 57)) (some (.t 63))⟩, 
                  ⟨some 65, some (54, false), .fad 1 (.t 7)⟩, 
                  ⟨some 66, some (54, false), .ld false 1 (.t 65)⟩, 
                  ⟨some 67, some (54, false), .bin .neq (.t 64) (.t 66)⟩, 
                  ⟨some 68, none, .pick (.t 54) (.k (.b true)) (.t 67)⟩, 
                  ⟨some 69, none, .mv (.t 68)⟩, 
                  ⟨some 70, some (69, false), .fad 1 (.t 7)⟩, 
                  ⟨some 71, some (69, false), .ld false 1 (.t 70)⟩, 
                  ⟨some 72, some (69, false), .call 12 [(1, (.t 71))]⟩, 
                  ⟨some 73, some (69, false), .fad 0 (.t 7)⟩, 
                  ⟨some 74, some (69, false), .ld false 1 (.t 73)⟩, 
                  ⟨some 75, some (69, false), .bin .neq (.t 72) (.t 74)⟩, 
                  ⟨some 76, none, .pick (.t 69) (.k (.b true)) (.t 75)⟩])
              (.cond (.t 76)
              (.seq (.reg [⟨some 2, none, .mv (.k (.b false))⟩])
                (.ret))
              (.skip)))
            (.seq (.seq (.reg [⟨some 77, none, .fad 2 (.t 7)⟩, 
                  ⟨some 78, none, .ld false 1 (.t 77)⟩, 
                  ⟨some 79, none, .mv (.t 5)⟩, 
                  ⟨some 80, none, .bin .eql (.t 78) (.t 79)⟩, 
                  ⟨some 81, none, .mv (.t 80)⟩, 
                  ⟨some 82, some (81, true), .mv (.t 5)⟩, 
                  ⟨some 83, some (81, true), .bin .gtr (.t 82) (.k (.i .i64 0))⟩, 
                  ⟨some 84, none, .pick (.t 81) (.t 83) (.k (.b false))⟩, 
                  ⟨some 85, none, .mv (.t 84)⟩, 
                  ⟨some 86, some (85, true), .fad 0 (.t 7)⟩, 
                  ⟨some 87, some (85, true), .ld false 1 (.t 86)⟩, 
                  ⟨some 88, some (85, true), .bin .neq (.t 87) (.k (.i .i64 5))⟩, 
                  ⟨some 89, none, .pick (.t 85) (.t 88) (.k (.b false))⟩, 
                  ⟨some 90, none, .mv (.t 89)⟩, 
                  ⟨some 91, some (90, true), .mv (.t 0)⟩, 
                  ⟨some 92, some (90, true), .mv (.t 5)⟩, 
                  ⟨some 93, some (90, true), .bin .sub (.t 92) (.k (.i .i64 1))⟩, 
                  ⟨some 94, some (90, true), .fad 2 (.t 7)⟩, 
                  ⟨some 95, some (90, true), .ld false 1 (.t 94)⟩, 
                  ⟨some 96, some (90, true), .bin .add (.t 95) (.k (.i .i64 1))⟩, 
                  ⟨some 97, some (90, true), .ssub (.t 91) (some (.t 93)) (some (.t 96))⟩, 
                  ⟨some 98, some (90, true), .call 12 [(1, (.t 97))]⟩, 
                  ⟨some 99, some (90, true), .bin .gtr (.t 98) (.k (.i .i64 1))⟩, 
                  ⟨some 100, none, .pick (.t 90) (.t 99) (.k (.b false))⟩, 
                  ⟨some 101, none, .mv (.t 100)⟩, 
                  ⟨some 102, some (101, true), .mv (.t 0)⟩, 
                  ⟨some 103, some (101, true), .mv (.t 5)⟩, 
                  ⟨some 104, some (101, true), .bin .sub (.t 103) (.k (.i .i64 1))⟩, 
                  ⟨some 105, some (101, true), .six (.t 102) (.t 104)⟩, 
                  ⟨some 106, some (101, true), .bin .gtr (.t 105) (.k (.i .u8 57))⟩, 
                  ⟨some 107, none, .pick (.t 101) (.t 106) (.k (.b false))⟩])
              (.cond (.t 107)
              (.seq (.reg [⟨some 2, none, .mv (.k (.b false))⟩])
                (.ret))
              (.skip)))
            (.seq (.blk 2
              (.loop
                (.seq (.seq (.reg [⟨some 108, none, .mv (.t 5)⟩, 
                        ⟨some 109, none, .fad 2 (.t 7)⟩, 
                        ⟨some 110, none, .ld false 1 (.t 109)⟩, 
                        ⟨some 111, none, .bin .lss (.t 108) (.t 110)⟩])
                    (.cond (.t 111)
                    (.skip)
                    (.exit 2)))
                  (.seq (.blk 3
                    (.seq (.reg [⟨some 114, none, .mv (.t 0)⟩, 
                          ⟨some 115, none, .mv (.t 5)⟩, 
                          ⟨some 116, none, .six (.t 114) (.t 115)⟩, 
                          ⟨some 117, none, .bin .neq (.t 116) (.k (.i .u8 32))⟩, 
                          ⟨some 118, none, .mv (.t 117)⟩, 
                          ⟨some 119, some (118, true), .mv (.t 0)⟩, 
                          ⟨some 120, some (118, true), .mv (.t 5)⟩, 
                          ⟨some 121, some (118, true), .six (.t 119) (.t 120)⟩, 
                          ⟨some 122, some (118, true), .bin .neq (.t 121) (.k (.i .u8 9))⟩, 
                          ⟨some 123, none, .pick (.t 118) (.t 122) (.k (.b false))⟩])
                      (.cond (.t 123)
                      (.seq (.reg [⟨some 2, none, .mv (.k (.b false))⟩])
                        (.ret))
                      (.skip))))
                  (.reg [⟨some 112, none, .mv (.t 5)⟩, 
                    ⟨some 113, none, .bin .add (.t 112) (.k (.i .i64 1))⟩, 
                    ⟨some 5, none, .mv (.t 113)⟩])))))
            (.reg [⟨some 124, none, .fad 2 (.t 7)⟩, 
              ⟨some 125, none, .ld false 1 (.t 124)⟩, 
              ⟨some 126, none, .fad 1 (.t 7)⟩, 
              ⟨some 127, none, .ld false 1 (.t 126)⟩, 
              ⟨some 128, none, .slen (.t 127)⟩, 
              ⟨some 129, none, .bin .add (.t 125) (.t 128)⟩, 
              ⟨some 5, none, .mv (.t 129)⟩]))))))
        (.reg [⟨some 130, none, .bin .add (.t 22) (.k (.i .i64 1))⟩, 
          ⟨some 22, none, .mv (.t 130)⟩])))))))
  (.seq (.blk 4
    (.loop
      (.seq (.seq (.reg [⟨some 131, none, .mv (.t 5)⟩, 
              ⟨some 132, none, .mv (.t 0)⟩, 
              ⟨some 133, none, .slen (.t 132)⟩, 
              ⟨some 134, none, .bin .lss (.t 131) (.t 133)⟩])
          (.cond (.t 134)
          (.skip)
          (.exit 4)))
        (.seq (.blk 5
          (.seq (.reg [⟨some 137, none, .mv (.t 0)⟩, 
                ⟨some 138, none, .mv (.t 5)⟩, 
                ⟨some 139, none, .six (.t 137) (.t 138)⟩, 
                ⟨some 140, none, .bin .neq (.t 139) (.k (.i .u8 32))⟩, 
                ⟨some 141, none, .mv (.t 140)⟩, 
                ⟨some 142, some (141, true), .mv (.t 0)⟩, 
                ⟨some 143, some (141, true), .mv (.t 5)⟩, 
                ⟨some 144, some (141, true), .six (.t 142) (.t 143)⟩, 
                ⟨some 145, some (141, true), .bin .neq (.t 144) (.k (.i .u8 9))⟩, 
                ⟨some 146, none, .pick (.t 141) (.t 145) (.k (.b false))⟩])
            (.cond (.t 146)
            (.seq (.reg [⟨some 2, none, .mv (.k (.b false))⟩])
              (.ret))
            (.skip))))
        (.reg [⟨some 135, none, .mv (.t 5)⟩, 
          ⟨some 136, none, .bin .add (.t 135) (.k (.i .i64 1))⟩, 
          ⟨some 5, none, .mv (.t 136)⟩])))))
  (.seq (.reg [⟨some 2, none, .mv (.k (.b true))⟩])
  (.ret))))))))
theorem lexLies_spec (s : List UInt8) (hm : s.length ≤ 9223372036854775807) : AFun Try.prog J0 3 [.s s] (.b true) := by
  have hl := scanR_len s
  refine AFun.mk fol J0s Try.func3 rfl (ac := a3) (by kernel_rfl) rfl rfl ?_
  apply vm_start
  unfold a3
  repeat first | (refine hK _ ?_; clear hK K) | simp only [Sv, ↓reduceIte, Nat.reduceEqDiff] | ((first | refine vm_reg (fun K hK => ?_) | refine vm_dreg (fun K hK => ?_)); simp (disch := (first | omega | assumption)) only [initS, initE, Sw, Sx, Sb, pure_s2b, ↓reduceIte, Nat.reduceEqDiff, Nat.reduceAdd, Nat.reduceMul, Nat.reduceDiv, AOp.sb, AOp.mut, ↓Bool.false_eq_true, beq_self_eq_true, ite_self, decide_eq_true_eq, decide_true, decide_false, Nat.reduceLeDiff, c0, c1, c2, c3, c13, Int.cast_ofNat_Int, Int.reduceEq, Int.reduceSub, Int.reduceAdd, Int.reduceNeg, Int.reduceLT, Int.reduceLE, Nat.reduceLT, wi, tn_nat, tn0, Nat.div_one, Nat.mul_one, T_len, m3, T_row, T_nf, T_app1, Tv_nf, chk_of])
  refine clp_of _ _ (awake_spec) ?_ ?_
  · first | rfl | (simp (disch := (first | omega | assumption)) only [initS, initE, Sw, Sx, Sb, pure_s2b, ↓reduceIte, Nat.reduceEqDiff, Nat.reduceAdd, Nat.reduceMul, Nat.reduceDiv, AOp.sb, AOp.mut, ↓Bool.false_eq_true, beq_self_eq_true, ite_self, decide_eq_true_eq, decide_true, decide_false, Nat.reduceLeDiff, c0, c1, c2, c3, c13, Int.cast_ofNat_Int, Int.reduceEq, Int.reduceSub, Int.reduceAdd, Int.reduceNeg, Int.reduceLT, Int.reduceLE, Nat.reduceLT, wi, tn_nat, tn0, Nat.div_one, Nat.mul_one, T_len, m3, T_row, T_nf, T_app1, Tv_nf, chk_of])
  simp (disch := (first | omega | assumption)) only [initS, initE, Sw, Sx, Sb, pure_s2b, ↓reduceIte, Nat.reduceEqDiff, Nat.reduceAdd, Nat.reduceMul, Nat.reduceDiv, AOp.sb, AOp.mut, ↓Bool.false_eq_true, beq_self_eq_true, ite_self, decide_eq_true_eq, decide_true, decide_false, Nat.reduceLeDiff, c0, c1, c2, c3, c13, Int.cast_ofNat_Int, Int.reduceEq, Int.reduceSub, Int.reduceAdd, Int.reduceNeg, Int.reduceLT, Int.reduceLE, Nat.reduceLT, wi, tn_nat, tn0, Nat.div_one, Nat.mul_one, T_len, m3, T_row, T_nf, T_app1, Tv_nf, chk_of]
  rcases scanR_code s with ⟨h2, ts, hs, h1, hL⟩ | ⟨h2, h1⟩ | ⟨h2, h1⟩
  · rw [h1] at hl
    repeat first | (refine hK _ ?_; clear hK K) | simp only [Sv, ↓reduceIte, Nat.reduceEqDiff] | ((first | refine vm_reg (fun K hK => ?_) | refine vm_dreg (fun K hK => ?_)); simp (disch := (first | omega | assumption)) only [initS, initE, Sw, Sx, Sb, pure_s2b, ↓reduceIte, Nat.reduceEqDiff, Nat.reduceAdd, Nat.reduceMul, Nat.reduceDiv, AOp.sb, AOp.mut, ↓Bool.false_eq_true, beq_self_eq_true, ite_self, decide_eq_true_eq, decide_true, decide_false, Nat.reduceLeDiff, c0, c1, c2, c3, c13, Int.cast_ofNat_Int, Int.reduceEq, Int.reduceSub, Int.reduceAdd, Int.reduceNeg, Int.reduceLT, Int.reduceLE, Nat.reduceLT, wi, tn_nat, tn0, Nat.div_one, Nat.mul_one, T_len, m3, T_row, T_nf, T_app1, Tv_nf, chk_of, h2, h1])
    refine clp_of _ _ (scan_spec s) ?_ ?_
    · first | rfl | (simp (disch := (first | omega | assumption)) only [initS, initE, Sw, Sx, Sb, pure_s2b, ↓reduceIte, Nat.reduceEqDiff, Nat.reduceAdd, Nat.reduceMul, Nat.reduceDiv, AOp.sb, AOp.mut, ↓Bool.false_eq_true, beq_self_eq_true, ite_self, decide_eq_true_eq, decide_true, decide_false, Nat.reduceLeDiff, c0, c1, c2, c3, c13, Int.cast_ofNat_Int, Int.reduceEq, Int.reduceSub, Int.reduceAdd, Int.reduceNeg, Int.reduceLT, Int.reduceLE, Nat.reduceLT, wi, tn_nat, tn0, Nat.div_one, Nat.mul_one, T_len, m3, T_row, T_nf, T_app1, Tv_nf, chk_of, h2, h1])
    simp (disch := (first | omega | assumption)) only [initS, initE, Sw, Sx, Sb, pure_s2b, ↓reduceIte, Nat.reduceEqDiff, Nat.reduceAdd, Nat.reduceMul, Nat.reduceDiv, AOp.sb, AOp.mut, ↓Bool.false_eq_true, beq_self_eq_true, ite_self, decide_eq_true_eq, decide_true, decide_false, Nat.reduceLeDiff, c0, c1, c2, c3, c13, Int.cast_ofNat_Int, Int.reduceEq, Int.reduceSub, Int.reduceAdd, Int.reduceNeg, Int.reduceLT, Int.reduceLE, Nat.reduceLT, wi, tn_nat, tn0, Nat.div_one, Nat.mul_one, T_len, m3, T_row, T_nf, T_app1, Tv_nf, chk_of, h2, h1]
    repeat first
      | (refine hK _ ?_; clear hK K)
      | ((first | refine vm_reg (fun K hK => ?_) | refine vm_dreg (fun K hK => ?_)); simp (disch := (first | omega | assumption)) only [initS, initE, Sw, Sx, Sb, pure_s2b, ↓reduceIte, Nat.reduceEqDiff, Nat.reduceAdd, Nat.reduceMul, Nat.reduceDiv, AOp.sb, AOp.mut, ↓Bool.false_eq_true, beq_self_eq_true, ite_self, decide_eq_true_eq, decide_true, decide_false, Nat.reduceLeDiff, c0, c1, c2, c3, c13, Int.cast_ofNat_Int, Int.reduceEq, Int.reduceSub, Int.reduceAdd, Int.reduceNeg, Int.reduceLT, Int.reduceLE, Nat.reduceLT, wi, tn_nat, tn0, Nat.div_one, Nat.mul_one, T_len, m3, T_row, T_nf, T_app1, Tv_nf, chk_of]; refine hK _ ?_; clear hK K)
      | simp only [Sv, ↓reduceIte, Nat.reduceEqDiff]
    refine vm_loopA [] (Nat × Nat) (fun x => ⟨[(0, .s s), (5, .i .i64 (x.1 : Int)), (20, .l 3 (T ts)), (21, .i .i64 (ts.length : Int)), (22, .i .i64 (x.2 : Int))], [], 0⟩)
      (fun x => x.2 ≤ ts.length ∧ x.1 ≤ s.length ∧ scan s x.1 = some (ts.drop x.2) ∧ endRow s x.1) (fun x => ts.length - x.2) (0, 0) ⟨Nat.zero_le _, Nat.zero_le _, hs, .inl rfl⟩ (by simp (disch := (first | omega | assumption)) only [Sl, Sa, Sw, ↓reduceIte, Nat.reduceEqDiff, Nat.reduceLT, List.all_nil, List.all_cons, Nat.reduceBneDiff, Nat.reduceAdd, bne_iff_ne, ne_eq, reduceCtorEq, not_false_eq_true, not_true_eq_false, Bool.and_true, Bool.true_and, and_true, true_and, and_self]) (by
      simp (disch := (first | omega | assumption)) only [Sl, Sa, Sw, ↓reduceIte, Nat.reduceEqDiff, Nat.reduceLT, List.all_nil, List.all_cons, Nat.reduceBneDiff, Nat.reduceAdd, bne_iff_ne, ne_eq, reduceCtorEq, not_false_eq_true, not_true_eq_false, Bool.and_true, Bool.true_and, and_true, true_and, and_self, i_eq]
      repeat' first | rfl | omega | (simp only [List.length_append, List.length_cons, List.length_nil]; done) | apply And.intro) ?_
    rintro ⟨p, k⟩ ⟨hk, hp, hsc, hend⟩ Q' hQ he hr
    simp only [] at hk hp hsc hend ⊢
    by_cases hlt : (k : Int) < ts.length
    · have hlt' : k < ts.length := by omega
      rcases scan_inv s _ p _ rfl hp hsc with ⟨h3, _⟩ | ⟨i, n, rest, hpi, his, hbl, hn, hkd, hcons, hrest⟩
      · have := congrArg List.length h3
        rw [List.length_drop, List.length_nil] at this; omega
      · have hrl := rowLen_le (s.drop i)
        rw [List.length_drop, ← hn] at hrl
        have hn1 : 1 ≤ n := by rw [hn]; exact rowLen_pos (by rw [← hn]; exact hkd)
        have hdk : ts.drop k = ts.getD k default :: ts.drop (k + 1) := by rw [List.drop_eq_getElem_cons hlt', List.getD_eq_getElem?_getD, List.getElem?_eq_getElem hlt']; rfl
        rw [hdk] at hcons
        obtain ⟨htk, hre⟩ := List.cons.inj hcons
        have hks := kind_spec ((s.drop i).take n) (by rw [List.length_take, List.length_drop]; omega)
        have htl : ((s.drop i).take n).length = n := by rw [List.length_take, List.length_drop]; omega
        have htne : ¬ (s.drop i).take n = [] := by intro e; rw [e] at htl; simp at htl; omega
        have hsub := take_drop_range s i n
        generalize htx : (s.drop i).take n = tx at *
        have f1 : ((i : Int) < (p : Int)) = False := by simp; omega
        have f2 : ((s.length : Int) < (n : Int)) = False := by simp; omega
        have f3 : ((s.length : Int) - (n : Int) < (i : Int)) = False := by simp; omega
        have hend2 : endRow s (i + n) := .inr ⟨i, by omega, by omega, by rw [← hn]; omega⟩
        repeat first | (refine hK _ ?_; clear hK K) | simp only [Sv, ↓reduceIte, Nat.reduceEqDiff] | ((first | refine vm_reg (fun K hK => ?_) | refine vm_dreg (fun K hK => ?_)); simp (disch := (first | omega | assumption)) only [initS, initE, Sw, Sx, Sb, pure_s2b, ↓reduceIte, Nat.reduceEqDiff, Nat.reduceAdd, Nat.reduceMul, Nat.reduceDiv, AOp.sb, AOp.mut, ↓Bool.false_eq_true, beq_self_eq_true, ite_self, decide_eq_true_eq, decide_true, decide_false, Nat.reduceLeDiff, c0, c1, c2, c3, c13, Int.cast_ofNat_Int, Int.reduceEq, Int.reduceSub, Int.reduceAdd, Int.reduceNeg, Int.reduceLT, Int.reduceLE, Nat.reduceLT, wi, tn_nat, tn0, Nat.div_one, Nat.mul_one, T_len, m3, T_row, T_nf, T_app1, Tv_nf, chk_of, hlt, htk, f1, f2, f3, htl, s_nil, htne, tn_add, hsub])
        refine clp_of _ _ (hks) ?_ ?_
        · first | rfl | (simp (disch := (first | omega | assumption)) only [initS, initE, Sw, Sx, Sb, pure_s2b, ↓reduceIte, Nat.reduceEqDiff, Nat.reduceAdd, Nat.reduceMul, Nat.reduceDiv, AOp.sb, AOp.mut, ↓Bool.false_eq_true, beq_self_eq_true, ite_self, decide_eq_true_eq, decide_true, decide_false, Nat.reduceLeDiff, c0, c1, c2, c3, c13, Int.cast_ofNat_Int, Int.reduceEq, Int.reduceSub, Int.reduceAdd, Int.reduceNeg, Int.reduceLT, Int.reduceLE, Nat.reduceLT, wi, tn_nat, tn0, Nat.div_one, Nat.mul_one, T_len, m3, T_row, T_nf, T_app1, Tv_nf, chk_of, hlt, htk, f1, f2, f3, htl, s_nil, htne, tn_add, hsub])
        simp (disch := (first | omega | assumption)) only [initS, initE, Sw, Sx, Sb, pure_s2b, ↓reduceIte, Nat.reduceEqDiff, Nat.reduceAdd, Nat.reduceMul, Nat.reduceDiv, AOp.sb, AOp.mut, ↓Bool.false_eq_true, beq_self_eq_true, ite_self, decide_eq_true_eq, decide_true, decide_false, Nat.reduceLeDiff, c0, c1, c2, c3, c13, Int.cast_ofNat_Int, Int.reduceEq, Int.reduceSub, Int.reduceAdd, Int.reduceNeg, Int.reduceLT, Int.reduceLE, Nat.reduceLT, wi, tn_nat, tn0, Nat.div_one, Nat.mul_one, T_len, m3, T_row, T_nf, T_app1, Tv_nf, chk_of, hlt, htk, f1, f2, f3, htl, s_nil, htne, tn_add, hsub]
        by_cases hip : (i : Int) = (p : Int)
        · rcases Nat.eq_zero_or_pos p with h0 | h0
          · have g1 : ¬ 0 < (p : Int) := by omega
            repeat first
              | (refine hK _ ?_; clear hK K)
              | ((first | refine vm_reg (fun K hK => ?_) | refine vm_dreg (fun K hK => ?_)); simp (disch := (first | omega | assumption)) only [initS, initE, Sw, Sx, Sb, pure_s2b, ↓reduceIte, Nat.reduceEqDiff, Nat.reduceAdd, Nat.reduceMul, Nat.reduceDiv, AOp.sb, AOp.mut, ↓Bool.false_eq_true, beq_self_eq_true, ite_self, decide_eq_true_eq, decide_true, decide_false, Nat.reduceLeDiff, c0, c1, c2, c3, c13, Int.cast_ofNat_Int, Int.reduceEq, Int.reduceSub, Int.reduceAdd, Int.reduceNeg, Int.reduceLT, Int.reduceLE, Nat.reduceLT, wi, tn_nat, tn0, Nat.div_one, Nat.mul_one, T_len, m3, T_row, T_nf, T_app1, Tv_nf, chk_of, hip, g1]; refine hK _ ?_; clear hK K)
              | simp only [Sv, ↓reduceIte, Nat.reduceEqDiff]
            refine vm_loopA [] Nat (fun j => ⟨[(0, .s s), (5, .i .i64 (j : Int)), (7, .pt 0 0), (20, .l 3 (T ts)), (21, .i .i64 (ts.length : Int)), (22, .i .i64 (k : Int))], [(0, some ⟨28, 3, [.i .i64 (kind tx : Nat), .s tx, .i .i64 (i : Int)], true, true⟩)], 1⟩)
              (fun j => p ≤ j ∧ j ≤ i) (fun j => i - j) p ⟨Nat.le_refl _, hpi⟩ (by simp (disch := (first | omega | assumption)) only [Sl, Sa, Sw, ↓reduceIte, Nat.reduceEqDiff, Nat.reduceLT, List.all_nil, List.all_cons, Nat.reduceBneDiff, Nat.reduceAdd, bne_iff_ne, ne_eq, reduceCtorEq, not_false_eq_true, not_true_eq_false, Bool.and_true, Bool.true_and, and_true, true_and, and_self]) (by
              simp (disch := (first | omega | assumption)) only [Sl, Sa, Sw, ↓reduceIte, Nat.reduceEqDiff, Nat.reduceLT, List.all_nil, List.all_cons, Nat.reduceBneDiff, Nat.reduceAdd, bne_iff_ne, ne_eq, reduceCtorEq, not_false_eq_true, not_true_eq_false, Bool.and_true, Bool.true_and, and_true, true_and, and_self, i_eq]
              rw [hip]) ?_
            intro j ⟨hj1, hj2⟩ Q2 hQ2 he2 hr2
            by_cases hji : (j : Int) < i
            · rcases bl_cases (hbl j hj1 (by omega)) with hb | ⟨hb1, hb2⟩
              · repeat first
                  | (refine hK _ ?_; clear hK K)
                  | ((first | refine vm_reg (fun K hK => ?_) | refine vm_dreg (fun K hK => ?_)); simp (disch := (first | omega | assumption)) only [initS, initE, Sw, Sx, Sb, pure_s2b, ↓reduceIte, Nat.reduceEqDiff, Nat.reduceAdd, Nat.reduceMul, Nat.reduceDiv, AOp.sb, AOp.mut, ↓Bool.false_eq_true, beq_self_eq_true, ite_self, decide_eq_true_eq, decide_true, decide_false, Nat.reduceLeDiff, c0, c1, c2, c3, c13, Int.cast_ofNat_Int, Int.reduceEq, Int.reduceSub, Int.reduceAdd, Int.reduceNeg, Int.reduceLT, Int.reduceLE, Nat.reduceLT, wi, tn_nat, tn0, Nat.div_one, Nat.mul_one, T_len, m3, T_row, T_nf, T_app1, Tv_nf, chk_of, hji, hb]; refine hK _ ?_; clear hK K)
                  | simp only [Sv, ↓reduceIte, Nat.reduceEqDiff]
                refine hQ2 _ (j + 1) (by omega) (by omega) ?_
                simp (disch := (first | omega | assumption)) only [Sl, Sa, Sw, ↓reduceIte, Nat.reduceEqDiff, Nat.reduceLT, List.all_nil, List.all_cons, Nat.reduceBneDiff, Nat.reduceAdd, bne_iff_ne, ne_eq, reduceCtorEq, not_false_eq_true, not_true_eq_false, Bool.and_true, Bool.true_and, and_true, true_and, and_self, i_eq]
                repeat' first | rfl | omega | (simp only [List.length_append, List.length_cons, List.length_nil]; done) | apply And.intro
              · repeat first
                  | (refine hK _ ?_; clear hK K)
                  | ((first | refine vm_reg (fun K hK => ?_) | refine vm_dreg (fun K hK => ?_)); simp (disch := (first | omega | assumption)) only [initS, initE, Sw, Sx, Sb, pure_s2b, ↓reduceIte, Nat.reduceEqDiff, Nat.reduceAdd, Nat.reduceMul, Nat.reduceDiv, AOp.sb, AOp.mut, ↓Bool.false_eq_true, beq_self_eq_true, ite_self, decide_eq_true_eq, decide_true, decide_false, Nat.reduceLeDiff, c0, c1, c2, c3, c13, Int.cast_ofNat_Int, Int.reduceEq, Int.reduceSub, Int.reduceAdd, Int.reduceNeg, Int.reduceLT, Int.reduceLE, Nat.reduceLT, wi, tn_nat, tn0, Nat.div_one, Nat.mul_one, T_len, m3, T_row, T_nf, T_app1, Tv_nf, chk_of, hji, hb1, hb2]; refine hK _ ?_; clear hK K)
                  | simp only [Sv, ↓reduceIte, Nat.reduceEqDiff]
                refine hQ2 _ (j + 1) (by omega) (by omega) ?_
                simp (disch := (first | omega | assumption)) only [Sl, Sa, Sw, ↓reduceIte, Nat.reduceEqDiff, Nat.reduceLT, List.all_nil, List.all_cons, Nat.reduceBneDiff, Nat.reduceAdd, bne_iff_ne, ne_eq, reduceCtorEq, not_false_eq_true, not_true_eq_false, Bool.and_true, Bool.true_and, and_true, true_and, and_self, i_eq]
                repeat' first | rfl | omega | (simp only [List.length_append, List.length_cons, List.length_nil]; done) | apply And.intro
            · repeat first
                | (refine hK _ ?_; clear hK K)
                | ((first | refine vm_reg (fun K hK => ?_) | refine vm_dreg (fun K hK => ?_)); simp (disch := (first | omega | assumption)) only [initS, initE, Sw, Sx, Sb, pure_s2b, ↓reduceIte, Nat.reduceEqDiff, Nat.reduceAdd, Nat.reduceMul, Nat.reduceDiv, AOp.sb, AOp.mut, ↓Bool.false_eq_true, beq_self_eq_true, ite_self, decide_eq_true_eq, decide_true, decide_false, Nat.reduceLeDiff, c0, c1, c2, c3, c13, Int.cast_ofNat_Int, Int.reduceEq, Int.reduceSub, Int.reduceAdd, Int.reduceNeg, Int.reduceLT, Int.reduceLE, Nat.reduceLT, wi, tn_nat, tn0, Nat.div_one, Nat.mul_one, T_len, m3, T_row, T_nf, T_app1, Tv_nf, chk_of, hji]; refine hK _ ?_; clear hK K)
                | simp only [Sv, ↓reduceIte, Nat.reduceEqDiff]
              refine he2 _ _ ?_
              repeat first
                | (refine hK _ ?_; clear hK K)
                | ((first | refine vm_reg (fun K hK => ?_) | refine vm_dreg (fun K hK => ?_)); simp (disch := (first | omega | assumption)) only [initS, initE, Sw, Sx, Sb, pure_s2b, ↓reduceIte, Nat.reduceEqDiff, Nat.reduceAdd, Nat.reduceMul, Nat.reduceDiv, AOp.sb, AOp.mut, ↓Bool.false_eq_true, beq_self_eq_true, ite_self, decide_eq_true_eq, decide_true, decide_false, Nat.reduceLeDiff, c0, c1, c2, c3, c13, Int.cast_ofNat_Int, Int.reduceEq, Int.reduceSub, Int.reduceAdd, Int.reduceNeg, Int.reduceLT, Int.reduceLE, Nat.reduceLT, wi, tn_nat, tn0, Nat.div_one, Nat.mul_one, T_len, m3, T_row, T_nf, T_app1, Tv_nf, chk_of, htl]; refine hK _ ?_; clear hK K)
                | simp only [Sv, ↓reduceIte, Nat.reduceEqDiff]
              refine hQ _ (i + n, k + 1) ⟨by simp only; omega, by simp only; omega, by rw [hre]; exact hrest, hend2⟩ (by simp only; omega) ?_
              simp (disch := (first | omega | assumption)) only [Sl, Sa, Sw, ↓reduceIte, Nat.reduceEqDiff, Nat.reduceLT, List.all_nil, List.all_cons, Nat.reduceBneDiff, Nat.reduceAdd, bne_iff_ne, ne_eq, reduceCtorEq, not_false_eq_true, not_true_eq_false, Bool.and_true, Bool.true_and, and_true, true_and, and_self, i_eq]
              repeat' first | rfl | omega | (simp only [List.length_append, List.length_cons, List.length_nil]; done) | apply And.intro
          · have g1 : 0 < (p : Int) := by omega
            by_cases hk5 : ((kind tx : Nat) : Int) = 5
            · repeat first
                | (refine hK _ ?_; clear hK K)
                | ((first | refine vm_reg (fun K hK => ?_) | refine vm_dreg (fun K hK => ?_)); simp (disch := (first | omega | assumption)) only [initS, initE, Sw, Sx, Sb, pure_s2b, ↓reduceIte, Nat.reduceEqDiff, Nat.reduceAdd, Nat.reduceMul, Nat.reduceDiv, AOp.sb, AOp.mut, ↓Bool.false_eq_true, beq_self_eq_true, ite_self, decide_eq_true_eq, decide_true, decide_false, Nat.reduceLeDiff, c0, c1, c2, c3, c13, Int.cast_ofNat_Int, Int.reduceEq, Int.reduceSub, Int.reduceAdd, Int.reduceNeg, Int.reduceLT, Int.reduceLE, Nat.reduceLT, wi, tn_nat, tn0, Nat.div_one, Nat.mul_one, T_len, m3, T_row, T_nf, T_app1, Tv_nf, chk_of, hip, g1, hk5]; refine hK _ ?_; clear hK K)
                | simp only [Sv, ↓reduceIte, Nat.reduceEqDiff]
              refine vm_loopA [] Nat (fun j => ⟨[(0, .s s), (5, .i .i64 (j : Int)), (7, .pt 0 0), (20, .l 3 (T ts)), (21, .i .i64 (ts.length : Int)), (22, .i .i64 (k : Int))], [(0, some ⟨28, 3, [.i .i64 (kind tx : Nat), .s tx, .i .i64 (i : Int)], true, true⟩)], 1⟩)
                (fun j => p ≤ j ∧ j ≤ i) (fun j => i - j) p ⟨Nat.le_refl _, hpi⟩ (by simp (disch := (first | omega | assumption)) only [Sl, Sa, Sw, ↓reduceIte, Nat.reduceEqDiff, Nat.reduceLT, List.all_nil, List.all_cons, Nat.reduceBneDiff, Nat.reduceAdd, bne_iff_ne, ne_eq, reduceCtorEq, not_false_eq_true, not_true_eq_false, Bool.and_true, Bool.true_and, and_true, true_and, and_self]) (by
                simp (disch := (first | omega | assumption)) only [Sl, Sa, Sw, ↓reduceIte, Nat.reduceEqDiff, Nat.reduceLT, List.all_nil, List.all_cons, Nat.reduceBneDiff, Nat.reduceAdd, bne_iff_ne, ne_eq, reduceCtorEq, not_false_eq_true, not_true_eq_false, Bool.and_true, Bool.true_and, and_true, true_and, and_self, i_eq]
                rw [hip, hk5]) ?_
              intro j ⟨hj1, hj2⟩ Q2 hQ2 he2 hr2
              by_cases hji : (j : Int) < i
              · rcases bl_cases (hbl j hj1 (by omega)) with hb | ⟨hb1, hb2⟩
                · repeat first
                    | (refine hK _ ?_; clear hK K)
                    | ((first | refine vm_reg (fun K hK => ?_) | refine vm_dreg (fun K hK => ?_)); simp (disch := (first | omega | assumption)) only [initS, initE, Sw, Sx, Sb, pure_s2b, ↓reduceIte, Nat.reduceEqDiff, Nat.reduceAdd, Nat.reduceMul, Nat.reduceDiv, AOp.sb, AOp.mut, ↓Bool.false_eq_true, beq_self_eq_true, ite_self, decide_eq_true_eq, decide_true, decide_false, Nat.reduceLeDiff, c0, c1, c2, c3, c13, Int.cast_ofNat_Int, Int.reduceEq, Int.reduceSub, Int.reduceAdd, Int.reduceNeg, Int.reduceLT, Int.reduceLE, Nat.reduceLT, wi, tn_nat, tn0, Nat.div_one, Nat.mul_one, T_len, m3, T_row, T_nf, T_app1, Tv_nf, chk_of, hji, hb]; refine hK _ ?_; clear hK K)
                    | simp only [Sv, ↓reduceIte, Nat.reduceEqDiff]
                  refine hQ2 _ (j + 1) (by omega) (by omega) ?_
                  simp (disch := (first | omega | assumption)) only [Sl, Sa, Sw, ↓reduceIte, Nat.reduceEqDiff, Nat.reduceLT, List.all_nil, List.all_cons, Nat.reduceBneDiff, Nat.reduceAdd, bne_iff_ne, ne_eq, reduceCtorEq, not_false_eq_true, not_true_eq_false, Bool.and_true, Bool.true_and, and_true, true_and, and_self, i_eq]
                  repeat' first | rfl | omega | (simp only [List.length_append, List.length_cons, List.length_nil]; done) | apply And.intro
                · repeat first
                    | (refine hK _ ?_; clear hK K)
                    | ((first | refine vm_reg (fun K hK => ?_) | refine vm_dreg (fun K hK => ?_)); simp (disch := (first | omega | assumption)) only [initS, initE, Sw, Sx, Sb, pure_s2b, ↓reduceIte, Nat.reduceEqDiff, Nat.reduceAdd, Nat.reduceMul, Nat.reduceDiv, AOp.sb, AOp.mut, ↓Bool.false_eq_true, beq_self_eq_true, ite_self, decide_eq_true_eq, decide_true, decide_false, Nat.reduceLeDiff, c0, c1, c2, c3, c13, Int.cast_ofNat_Int, Int.reduceEq, Int.reduceSub, Int.reduceAdd, Int.reduceNeg, Int.reduceLT, Int.reduceLE, Nat.reduceLT, wi, tn_nat, tn0, Nat.div_one, Nat.mul_one, T_len, m3, T_row, T_nf, T_app1, Tv_nf, chk_of, hji, hb1, hb2]; refine hK _ ?_; clear hK K)
                    | simp only [Sv, ↓reduceIte, Nat.reduceEqDiff]
                  refine hQ2 _ (j + 1) (by omega) (by omega) ?_
                  simp (disch := (first | omega | assumption)) only [Sl, Sa, Sw, ↓reduceIte, Nat.reduceEqDiff, Nat.reduceLT, List.all_nil, List.all_cons, Nat.reduceBneDiff, Nat.reduceAdd, bne_iff_ne, ne_eq, reduceCtorEq, not_false_eq_true, not_true_eq_false, Bool.and_true, Bool.true_and, and_true, true_and, and_self, i_eq]
                  repeat' first | rfl | omega | (simp only [List.length_append, List.length_cons, List.length_nil]; done) | apply And.intro
              · repeat first
                  | (refine hK _ ?_; clear hK K)
                  | ((first | refine vm_reg (fun K hK => ?_) | refine vm_dreg (fun K hK => ?_)); simp (disch := (first | omega | assumption)) only [initS, initE, Sw, Sx, Sb, pure_s2b, ↓reduceIte, Nat.reduceEqDiff, Nat.reduceAdd, Nat.reduceMul, Nat.reduceDiv, AOp.sb, AOp.mut, ↓Bool.false_eq_true, beq_self_eq_true, ite_self, decide_eq_true_eq, decide_true, decide_false, Nat.reduceLeDiff, c0, c1, c2, c3, c13, Int.cast_ofNat_Int, Int.reduceEq, Int.reduceSub, Int.reduceAdd, Int.reduceNeg, Int.reduceLT, Int.reduceLE, Nat.reduceLT, wi, tn_nat, tn0, Nat.div_one, Nat.mul_one, T_len, m3, T_row, T_nf, T_app1, Tv_nf, chk_of, hji]; refine hK _ ?_; clear hK K)
                  | simp only [Sv, ↓reduceIte, Nat.reduceEqDiff]
                refine he2 _ _ ?_
                repeat first
                  | (refine hK _ ?_; clear hK K)
                  | ((first | refine vm_reg (fun K hK => ?_) | refine vm_dreg (fun K hK => ?_)); simp (disch := (first | omega | assumption)) only [initS, initE, Sw, Sx, Sb, pure_s2b, ↓reduceIte, Nat.reduceEqDiff, Nat.reduceAdd, Nat.reduceMul, Nat.reduceDiv, AOp.sb, AOp.mut, ↓Bool.false_eq_true, beq_self_eq_true, ite_self, decide_eq_true_eq, decide_true, decide_false, Nat.reduceLeDiff, c0, c1, c2, c3, c13, Int.cast_ofNat_Int, Int.reduceEq, Int.reduceSub, Int.reduceAdd, Int.reduceNeg, Int.reduceLT, Int.reduceLE, Nat.reduceLT, wi, tn_nat, tn0, Nat.div_one, Nat.mul_one, T_len, m3, T_row, T_nf, T_app1, Tv_nf, chk_of, htl]; refine hK _ ?_; clear hK K)
                  | simp only [Sv, ↓reduceIte, Nat.reduceEqDiff]
                refine hQ _ (i + n, k + 1) ⟨by simp only; omega, by simp only; omega, by rw [hre]; exact hrest, hend2⟩ (by simp only; omega) ?_
                simp (disch := (first | omega | assumption)) only [Sl, Sa, Sw, ↓reduceIte, Nat.reduceEqDiff, Nat.reduceLT, List.all_nil, List.all_cons, Nat.reduceBneDiff, Nat.reduceAdd, bne_iff_ne, ne_eq, reduceCtorEq, not_false_eq_true, not_true_eq_false, Bool.and_true, Bool.true_and, and_true, true_and, and_self, i_eq]
                repeat' first | rfl | omega | (simp only [List.length_append, List.length_cons, List.length_nil]; done) | apply And.intro
            · have hadj : ¬ 1 < kind ((s.take (p + 1)).drop (p - 1)) := by
                obtain ⟨q, rfl⟩ : ∃ q, p = q + 1 := ⟨p - 1, by omega⟩
                exact adj hend (by omega)
              have g2 : ¬ (1 : Int) < ((kind ((s.take (p + 1)).drop (p - 1)) : Nat) : Int) := by omega
              repeat first | (refine hK _ ?_; clear hK K) | simp only [Sv, ↓reduceIte, Nat.reduceEqDiff] | ((first | refine vm_reg (fun K hK => ?_) | refine vm_dreg (fun K hK => ?_)); simp (disch := (first | omega | assumption)) only [initS, initE, Sw, Sx, Sb, pure_s2b, ↓reduceIte, Nat.reduceEqDiff, Nat.reduceAdd, Nat.reduceMul, Nat.reduceDiv, AOp.sb, AOp.mut, ↓Bool.false_eq_true, beq_self_eq_true, ite_self, decide_eq_true_eq, decide_true, decide_false, Nat.reduceLeDiff, c0, c1, c2, c3, c13, Int.cast_ofNat_Int, Int.reduceEq, Int.reduceSub, Int.reduceAdd, Int.reduceNeg, Int.reduceLT, Int.reduceLE, Nat.reduceLT, wi, tn_nat, tn0, Nat.div_one, Nat.mul_one, T_len, m3, T_row, T_nf, T_app1, Tv_nf, chk_of, hip, g1, hk5, tn_sub1, tn_add1, g2])
              refine clp_of _ _ (kind_spec ((s.take (p + 1)).drop (p - 1)) (by rw [List.length_drop, List.length_take]; omega)) ?_ ?_
              · first | rfl | (simp (disch := (first | omega | assumption)) only [initS, initE, Sw, Sx, Sb, pure_s2b, ↓reduceIte, Nat.reduceEqDiff, Nat.reduceAdd, Nat.reduceMul, Nat.reduceDiv, AOp.sb, AOp.mut, ↓Bool.false_eq_true, beq_self_eq_true, ite_self, decide_eq_true_eq, decide_true, decide_false, Nat.reduceLeDiff, c0, c1, c2, c3, c13, Int.cast_ofNat_Int, Int.reduceEq, Int.reduceSub, Int.reduceAdd, Int.reduceNeg, Int.reduceLT, Int.reduceLE, Nat.reduceLT, wi, tn_nat, tn0, Nat.div_one, Nat.mul_one, T_len, m3, T_row, T_nf, T_app1, Tv_nf, chk_of, hip, g1, hk5, tn_sub1, tn_add1, g2])
              simp (disch := (first | omega | assumption)) only [initS, initE, Sw, Sx, Sb, pure_s2b, ↓reduceIte, Nat.reduceEqDiff, Nat.reduceAdd, Nat.reduceMul, Nat.reduceDiv, AOp.sb, AOp.mut, ↓Bool.false_eq_true, beq_self_eq_true, ite_self, decide_eq_true_eq, decide_true, decide_false, Nat.reduceLeDiff, c0, c1, c2, c3, c13, Int.cast_ofNat_Int, Int.reduceEq, Int.reduceSub, Int.reduceAdd, Int.reduceNeg, Int.reduceLT, Int.reduceLE, Nat.reduceLT, wi, tn_nat, tn0, Nat.div_one, Nat.mul_one, T_len, m3, T_row, T_nf, T_app1, Tv_nf, chk_of, hip, g1, hk5, tn_sub1, tn_add1, g2]
              repeat first
                | (refine hK _ ?_; clear hK K)
                | ((first | refine vm_reg (fun K hK => ?_) | refine vm_dreg (fun K hK => ?_)); simp (disch := (first | omega | assumption)) only [initS, initE, Sw, Sx, Sb, pure_s2b, ↓reduceIte, Nat.reduceEqDiff, Nat.reduceAdd, Nat.reduceMul, Nat.reduceDiv, AOp.sb, AOp.mut, ↓Bool.false_eq_true, beq_self_eq_true, ite_self, decide_eq_true_eq, decide_true, decide_false, Nat.reduceLeDiff, c0, c1, c2, c3, c13, Int.cast_ofNat_Int, Int.reduceEq, Int.reduceSub, Int.reduceAdd, Int.reduceNeg, Int.reduceLT, Int.reduceLE, Nat.reduceLT, wi, tn_nat, tn0, Nat.div_one, Nat.mul_one, T_len, m3, T_row, T_nf, T_app1, Tv_nf, chk_of, g2]; refine hK _ ?_; clear hK K)
                | simp only [Sv, ↓reduceIte, Nat.reduceEqDiff]
              refine vm_loopA [] Nat (fun j => ⟨[(0, .s s), (5, .i .i64 (j : Int)), (7, .pt 0 0), (20, .l 3 (T ts)), (21, .i .i64 (ts.length : Int)), (22, .i .i64 (k : Int))], [(0, some ⟨28, 3, [.i .i64 (kind tx : Nat), .s tx, .i .i64 (i : Int)], true, true⟩)], 1⟩)
                (fun j => p ≤ j ∧ j ≤ i) (fun j => i - j) p ⟨Nat.le_refl _, hpi⟩ (by simp (disch := (first | omega | assumption)) only [Sl, Sa, Sw, ↓reduceIte, Nat.reduceEqDiff, Nat.reduceLT, List.all_nil, List.all_cons, Nat.reduceBneDiff, Nat.reduceAdd, bne_iff_ne, ne_eq, reduceCtorEq, not_false_eq_true, not_true_eq_false, Bool.and_true, Bool.true_and, and_true, true_and, and_self]) (by
                simp (disch := (first | omega | assumption)) only [Sl, Sa, Sw, ↓reduceIte, Nat.reduceEqDiff, Nat.reduceLT, List.all_nil, List.all_cons, Nat.reduceBneDiff, Nat.reduceAdd, bne_iff_ne, ne_eq, reduceCtorEq, not_false_eq_true, not_true_eq_false, Bool.and_true, Bool.true_and, and_true, true_and, and_self, i_eq]
                rw [hip]) ?_
              intro j ⟨hj1, hj2⟩ Q2 hQ2 he2 hr2
              by_cases hji : (j : Int) < i
              · rcases bl_cases (hbl j hj1 (by omega)) with hb | ⟨hb1, hb2⟩
                · repeat first
                    | (refine hK _ ?_; clear hK K)
                    | ((first | refine vm_reg (fun K hK => ?_) | refine vm_dreg (fun K hK => ?_)); simp (disch := (first | omega | assumption)) only [initS, initE, Sw, Sx, Sb, pure_s2b, ↓reduceIte, Nat.reduceEqDiff, Nat.reduceAdd, Nat.reduceMul, Nat.reduceDiv, AOp.sb, AOp.mut, ↓Bool.false_eq_true, beq_self_eq_true, ite_self, decide_eq_true_eq, decide_true, decide_false, Nat.reduceLeDiff, c0, c1, c2, c3, c13, Int.cast_ofNat_Int, Int.reduceEq, Int.reduceSub, Int.reduceAdd, Int.reduceNeg, Int.reduceLT, Int.reduceLE, Nat.reduceLT, wi, tn_nat, tn0, Nat.div_one, Nat.mul_one, T_len, m3, T_row, T_nf, T_app1, Tv_nf, chk_of, hji, hb]; refine hK _ ?_; clear hK K)
                    | simp only [Sv, ↓reduceIte, Nat.reduceEqDiff]
                  refine hQ2 _ (j + 1) (by omega) (by omega) ?_
                  simp (disch := (first | omega | assumption)) only [Sl, Sa, Sw, ↓reduceIte, Nat.reduceEqDiff, Nat.reduceLT, List.all_nil, List.all_cons, Nat.reduceBneDiff, Nat.reduceAdd, bne_iff_ne, ne_eq, reduceCtorEq, not_false_eq_true, not_true_eq_false, Bool.and_true, Bool.true_and, and_true, true_and, and_self, i_eq]
                  repeat' first | rfl | omega | (simp only [List.length_append, List.length_cons, List.length_nil]; done) | apply And.intro
                · repeat first
                    | (refine hK _ ?_; clear hK K)
                    | ((first | refine vm_reg (fun K hK => ?_) | refine vm_dreg (fun K hK => ?_)); simp (disch := (first | omega | assumption)) only [initS, initE, Sw, Sx, Sb, pure_s2b, ↓reduceIte, Nat.reduceEqDiff, Nat.reduceAdd, Nat.reduceMul, Nat.reduceDiv, AOp.sb, AOp.mut, ↓Bool.false_eq_true, beq_self_eq_true, ite_self, decide_eq_true_eq, decide_true, decide_false, Nat.reduceLeDiff, c0, c1, c2, c3, c13, Int.cast_ofNat_Int, Int.reduceEq, Int.reduceSub, Int.reduceAdd, Int.reduceNeg, Int.reduceLT, Int.reduceLE, Nat.reduceLT, wi, tn_nat, tn0, Nat.div_one, Nat.mul_one, T_len, m3, T_row, T_nf, T_app1, Tv_nf, chk_of, hji, hb1, hb2]; refine hK _ ?_; clear hK K)
                    | simp only [Sv, ↓reduceIte, Nat.reduceEqDiff]
                  refine hQ2 _ (j + 1) (by omega) (by omega) ?_
                  simp (disch := (first | omega | assumption)) only [Sl, Sa, Sw, ↓reduceIte, Nat.reduceEqDiff, Nat.reduceLT, List.all_nil, List.all_cons, Nat.reduceBneDiff, Nat.reduceAdd, bne_iff_ne, ne_eq, reduceCtorEq, not_false_eq_true, not_true_eq_false, Bool.and_true, Bool.true_and, and_true, true_and, and_self, i_eq]
                  repeat' first | rfl | omega | (simp only [List.length_append, List.length_cons, List.length_nil]; done) | apply And.intro
              · repeat first
                  | (refine hK _ ?_; clear hK K)
                  | ((first | refine vm_reg (fun K hK => ?_) | refine vm_dreg (fun K hK => ?_)); simp (disch := (first | omega | assumption)) only [initS, initE, Sw, Sx, Sb, pure_s2b, ↓reduceIte, Nat.reduceEqDiff, Nat.reduceAdd, Nat.reduceMul, Nat.reduceDiv, AOp.sb, AOp.mut, ↓Bool.false_eq_true, beq_self_eq_true, ite_self, decide_eq_true_eq, decide_true, decide_false, Nat.reduceLeDiff, c0, c1, c2, c3, c13, Int.cast_ofNat_Int, Int.reduceEq, Int.reduceSub, Int.reduceAdd, Int.reduceNeg, Int.reduceLT, Int.reduceLE, Nat.reduceLT, wi, tn_nat, tn0, Nat.div_one, Nat.mul_one, T_len, m3, T_row, T_nf, T_app1, Tv_nf, chk_of, hji]; refine hK _ ?_; clear hK K)
                  | simp only [Sv, ↓reduceIte, Nat.reduceEqDiff]
                refine he2 _ _ ?_
                repeat first
                  | (refine hK _ ?_; clear hK K)
                  | ((first | refine vm_reg (fun K hK => ?_) | refine vm_dreg (fun K hK => ?_)); simp (disch := (first | omega | assumption)) only [initS, initE, Sw, Sx, Sb, pure_s2b, ↓reduceIte, Nat.reduceEqDiff, Nat.reduceAdd, Nat.reduceMul, Nat.reduceDiv, AOp.sb, AOp.mut, ↓Bool.false_eq_true, beq_self_eq_true, ite_self, decide_eq_true_eq, decide_true, decide_false, Nat.reduceLeDiff, c0, c1, c2, c3, c13, Int.cast_ofNat_Int, Int.reduceEq, Int.reduceSub, Int.reduceAdd, Int.reduceNeg, Int.reduceLT, Int.reduceLE, Nat.reduceLT, wi, tn_nat, tn0, Nat.div_one, Nat.mul_one, T_len, m3, T_row, T_nf, T_app1, Tv_nf, chk_of, htl]; refine hK _ ?_; clear hK K)
                  | simp only [Sv, ↓reduceIte, Nat.reduceEqDiff]
                refine hQ _ (i + n, k + 1) ⟨by simp only; omega, by simp only; omega, by rw [hre]; exact hrest, hend2⟩ (by simp only; omega) ?_
                simp (disch := (first | omega | assumption)) only [Sl, Sa, Sw, ↓reduceIte, Nat.reduceEqDiff, Nat.reduceLT, List.all_nil, List.all_cons, Nat.reduceBneDiff, Nat.reduceAdd, bne_iff_ne, ne_eq, reduceCtorEq, not_false_eq_true, not_true_eq_false, Bool.and_true, Bool.true_and, and_true, true_and, and_self, i_eq]
                repeat' first | rfl | omega | (simp only [List.length_append, List.length_cons, List.length_nil]; done) | apply And.intro
        · repeat first
            | (refine hK _ ?_; clear hK K)
            | ((first | refine vm_reg (fun K hK => ?_) | refine vm_dreg (fun K hK => ?_)); simp (disch := (first | omega | assumption)) only [initS, initE, Sw, Sx, Sb, pure_s2b, ↓reduceIte, Nat.reduceEqDiff, Nat.reduceAdd, Nat.reduceMul, Nat.reduceDiv, AOp.sb, AOp.mut, ↓Bool.false_eq_true, beq_self_eq_true, ite_self, decide_eq_true_eq, decide_true, decide_false, Nat.reduceLeDiff, c0, c1, c2, c3, c13, Int.cast_ofNat_Int, Int.reduceEq, Int.reduceSub, Int.reduceAdd, Int.reduceNeg, Int.reduceLT, Int.reduceLE, Nat.reduceLT, wi, tn_nat, tn0, Nat.div_one, Nat.mul_one, T_len, m3, T_row, T_nf, T_app1, Tv_nf, chk_of, hip]; refine hK _ ?_; clear hK K)
            | simp only [Sv, ↓reduceIte, Nat.reduceEqDiff]
          refine vm_loopA [] Nat (fun j => ⟨[(0, .s s), (5, .i .i64 (j : Int)), (7, .pt 0 0), (20, .l 3 (T ts)), (21, .i .i64 (ts.length : Int)), (22, .i .i64 (k : Int))], [(0, some ⟨28, 3, [.i .i64 (kind tx : Nat), .s tx, .i .i64 (i : Int)], true, true⟩)], 1⟩)
            (fun j => p ≤ j ∧ j ≤ i) (fun j => i - j) p ⟨Nat.le_refl _, hpi⟩ (by simp (disch := (first | omega | assumption)) only [Sl, Sa, Sw, ↓reduceIte, Nat.reduceEqDiff, Nat.reduceLT, List.all_nil, List.all_cons, Nat.reduceBneDiff, Nat.reduceAdd, bne_iff_ne, ne_eq, reduceCtorEq, not_false_eq_true, not_true_eq_false, Bool.and_true, Bool.true_and, and_true, true_and, and_self]) (by
            simp (disch := (first | omega | assumption)) only [Sl, Sa, Sw, ↓reduceIte, Nat.reduceEqDiff, Nat.reduceLT, List.all_nil, List.all_cons, Nat.reduceBneDiff, Nat.reduceAdd, bne_iff_ne, ne_eq, reduceCtorEq, not_false_eq_true, not_true_eq_false, Bool.and_true, Bool.true_and, and_true, true_and, and_self, i_eq]
            done) ?_
          intro j ⟨hj1, hj2⟩ Q2 hQ2 he2 hr2
          by_cases hji : (j : Int) < i
          · rcases bl_cases (hbl j hj1 (by omega)) with hb | ⟨hb1, hb2⟩
            · repeat first
                | (refine hK _ ?_; clear hK K)
                | ((first | refine vm_reg (fun K hK => ?_) | refine vm_dreg (fun K hK => ?_)); simp (disch := (first | omega | assumption)) only [initS, initE, Sw, Sx, Sb, pure_s2b, ↓reduceIte, Nat.reduceEqDiff, Nat.reduceAdd, Nat.reduceMul, Nat.reduceDiv, AOp.sb, AOp.mut, ↓Bool.false_eq_true, beq_self_eq_true, ite_self, decide_eq_true_eq, decide_true, decide_false, Nat.reduceLeDiff, c0, c1, c2, c3, c13, Int.cast_ofNat_Int, Int.reduceEq, Int.reduceSub, Int.reduceAdd, Int.reduceNeg, Int.reduceLT, Int.reduceLE, Nat.reduceLT, wi, tn_nat, tn0, Nat.div_one, Nat.mul_one, T_len, m3, T_row, T_nf, T_app1, Tv_nf, chk_of, hji, hb]; refine hK _ ?_; clear hK K)
                | simp only [Sv, ↓reduceIte, Nat.reduceEqDiff]
              refine hQ2 _ (j + 1) (by omega) (by omega) ?_
              simp (disch := (first | omega | assumption)) only [Sl, Sa, Sw, ↓reduceIte, Nat.reduceEqDiff, Nat.reduceLT, List.all_nil, List.all_cons, Nat.reduceBneDiff, Nat.reduceAdd, bne_iff_ne, ne_eq, reduceCtorEq, not_false_eq_true, not_true_eq_false, Bool.and_true, Bool.true_and, and_true, true_and, and_self, i_eq]
              repeat' first | rfl | omega | (simp only [List.length_append, List.length_cons, List.length_nil]; done) | apply And.intro
            · repeat first
                | (refine hK _ ?_; clear hK K)
                | ((first | refine vm_reg (fun K hK => ?_) | refine vm_dreg (fun K hK => ?_)); simp (disch := (first | omega | assumption)) only [initS, initE, Sw, Sx, Sb, pure_s2b, ↓reduceIte, Nat.reduceEqDiff, Nat.reduceAdd, Nat.reduceMul, Nat.reduceDiv, AOp.sb, AOp.mut, ↓Bool.false_eq_true, beq_self_eq_true, ite_self, decide_eq_true_eq, decide_true, decide_false, Nat.reduceLeDiff, c0, c1, c2, c3, c13, Int.cast_ofNat_Int, Int.reduceEq, Int.reduceSub, Int.reduceAdd, Int.reduceNeg, Int.reduceLT, Int.reduceLE, Nat.reduceLT, wi, tn_nat, tn0, Nat.div_one, Nat.mul_one, T_len, m3, T_row, T_nf, T_app1, Tv_nf, chk_of, hji, hb1, hb2]; refine hK _ ?_; clear hK K)
                | simp only [Sv, ↓reduceIte, Nat.reduceEqDiff]
              refine hQ2 _ (j + 1) (by omega) (by omega) ?_
              simp (disch := (first | omega | assumption)) only [Sl, Sa, Sw, ↓reduceIte, Nat.reduceEqDiff, Nat.reduceLT, List.all_nil, List.all_cons, Nat.reduceBneDiff, Nat.reduceAdd, bne_iff_ne, ne_eq, reduceCtorEq, not_false_eq_true, not_true_eq_false, Bool.and_true, Bool.true_and, and_true, true_and, and_self, i_eq]
              repeat' first | rfl | omega | (simp only [List.length_append, List.length_cons, List.length_nil]; done) | apply And.intro
          · repeat first
              | (refine hK _ ?_; clear hK K)
              | ((first | refine vm_reg (fun K hK => ?_) | refine vm_dreg (fun K hK => ?_)); simp (disch := (first | omega | assumption)) only [initS, initE, Sw, Sx, Sb, pure_s2b, ↓reduceIte, Nat.reduceEqDiff, Nat.reduceAdd, Nat.reduceMul, Nat.reduceDiv, AOp.sb, AOp.mut, ↓Bool.false_eq_true, beq_self_eq_true, ite_self, decide_eq_true_eq, decide_true, decide_false, Nat.reduceLeDiff, c0, c1, c2, c3, c13, Int.cast_ofNat_Int, Int.reduceEq, Int.reduceSub, Int.reduceAdd, Int.reduceNeg, Int.reduceLT, Int.reduceLE, Nat.reduceLT, wi, tn_nat, tn0, Nat.div_one, Nat.mul_one, T_len, m3, T_row, T_nf, T_app1, Tv_nf, chk_of, hji]; refine hK _ ?_; clear hK K)
              | simp only [Sv, ↓reduceIte, Nat.reduceEqDiff]
            refine he2 _ _ ?_
            repeat first
              | (refine hK _ ?_; clear hK K)
              | ((first | refine vm_reg (fun K hK => ?_) | refine vm_dreg (fun K hK => ?_)); simp (disch := (first | omega | assumption)) only [initS, initE, Sw, Sx, Sb, pure_s2b, ↓reduceIte, Nat.reduceEqDiff, Nat.reduceAdd, Nat.reduceMul, Nat.reduceDiv, AOp.sb, AOp.mut, ↓Bool.false_eq_true, beq_self_eq_true, ite_self, decide_eq_true_eq, decide_true, decide_false, Nat.reduceLeDiff, c0, c1, c2, c3, c13, Int.cast_ofNat_Int, Int.reduceEq, Int.reduceSub, Int.reduceAdd, Int.reduceNeg, Int.reduceLT, Int.reduceLE, Nat.reduceLT, wi, tn_nat, tn0, Nat.div_one, Nat.mul_one, T_len, m3, T_row, T_nf, T_app1, Tv_nf, chk_of, htl]; refine hK _ ?_; clear hK K)
              | simp only [Sv, ↓reduceIte, Nat.reduceEqDiff]
            refine hQ _ (i + n, k + 1) ⟨by simp only; omega, by simp only; omega, by rw [hre]; exact hrest, hend2⟩ (by simp only; omega) ?_
            simp (disch := (first | omega | assumption)) only [Sl, Sa, Sw, ↓reduceIte, Nat.reduceEqDiff, Nat.reduceLT, List.all_nil, List.all_cons, Nat.reduceBneDiff, Nat.reduceAdd, bne_iff_ne, ne_eq, reduceCtorEq, not_false_eq_true, not_true_eq_false, Bool.and_true, Bool.true_and, and_true, true_and, and_self, i_eq]
            repeat' first | rfl | omega | (simp only [List.length_append, List.length_cons, List.length_nil]; done) | apply And.intro
    · obtain rfl : k = ts.length := by omega
      repeat first
        | (refine hK _ ?_; clear hK K)
        | ((first | refine vm_reg (fun K hK => ?_) | refine vm_dreg (fun K hK => ?_)); simp (disch := (first | omega | assumption)) only [initS, initE, Sw, Sx, Sb, pure_s2b, ↓reduceIte, Nat.reduceEqDiff, Nat.reduceAdd, Nat.reduceMul, Nat.reduceDiv, AOp.sb, AOp.mut, ↓Bool.false_eq_true, beq_self_eq_true, ite_self, decide_eq_true_eq, decide_true, decide_false, Nat.reduceLeDiff, c0, c1, c2, c3, c13, Int.cast_ofNat_Int, Int.reduceEq, Int.reduceSub, Int.reduceAdd, Int.reduceNeg, Int.reduceLT, Int.reduceLE, Nat.reduceLT, wi, tn_nat, tn0, Nat.div_one, Nat.mul_one, T_len, m3, T_row, T_nf, T_app1, Tv_nf, chk_of, hlt]; refine hK _ ?_; clear hK K)
        | simp only [Sv, ↓reduceIte, Nat.reduceEqDiff]
      refine he _ _ ?_
      rw [List.drop_length] at hsc
      have hall : ∀ j, p ≤ j → j < s.length → isBl (s.getD j 0) = true := by
        rcases scan_inv s _ p _ rfl hp hsc with ⟨_, h⟩ | ⟨i, n, rest, _, _, _, _, _, h, _⟩
        · exact h
        · cases h
      repeat first
        | (refine hK _ ?_; clear hK K)
        | ((first | refine vm_reg (fun K hK => ?_) | refine vm_dreg (fun K hK => ?_)); simp (disch := (first | omega | assumption)) only [initS, initE, Sw, Sx, Sb, pure_s2b, ↓reduceIte, Nat.reduceEqDiff, Nat.reduceAdd, Nat.reduceMul, Nat.reduceDiv, AOp.sb, AOp.mut, ↓Bool.false_eq_true, beq_self_eq_true, ite_self, decide_eq_true_eq, decide_true, decide_false, Nat.reduceLeDiff, c0, c1, c2, c3, c13, Int.cast_ofNat_Int, Int.reduceEq, Int.reduceSub, Int.reduceAdd, Int.reduceNeg, Int.reduceLT, Int.reduceLE, Nat.reduceLT, wi, tn_nat, tn0, Nat.div_one, Nat.mul_one, T_len, m3, T_row, T_nf, T_app1, Tv_nf, chk_of]; refine hK _ ?_; clear hK K)
        | simp only [Sv, ↓reduceIte, Nat.reduceEqDiff]
      refine vm_loopA [] Nat (fun j => ⟨[(0, .s s), (5, .i .i64 (j : Int))], [], 0⟩) (fun j => p ≤ j ∧ j ≤ s.length) (fun j => s.length - j) p ⟨Nat.le_refl _, hp⟩ (by simp (disch := (first | omega | assumption)) only [Sl, Sa, Sw, ↓reduceIte, Nat.reduceEqDiff, Nat.reduceLT, List.all_nil, List.all_cons, Nat.reduceBneDiff, Nat.reduceAdd, bne_iff_ne, ne_eq, reduceCtorEq, not_false_eq_true, not_true_eq_false, Bool.and_true, Bool.true_and, and_true, true_and, and_self]) (by simp (disch := (first | omega | assumption)) only [Sl, Sa, Sw, ↓reduceIte, Nat.reduceEqDiff, Nat.reduceLT, List.all_nil, List.all_cons, Nat.reduceBneDiff, Nat.reduceAdd, bne_iff_ne, ne_eq, reduceCtorEq, not_false_eq_true, not_true_eq_false, Bool.and_true, Bool.true_and, and_true, true_and, and_self]) ?_
      intro j ⟨hj1, hj2⟩ Q2 hQ2 he2 hr2
      by_cases hji : (j : Int) < s.length
      · rcases bl_cases (hall j hj1 (by omega)) with hb | ⟨hb1, hb2⟩
        · repeat first
            | (refine hK _ ?_; clear hK K)
            | ((first | refine vm_reg (fun K hK => ?_) | refine vm_dreg (fun K hK => ?_)); simp (disch := (first | omega | assumption)) only [initS, initE, Sw, Sx, Sb, pure_s2b, ↓reduceIte, Nat.reduceEqDiff, Nat.reduceAdd, Nat.reduceMul, Nat.reduceDiv, AOp.sb, AOp.mut, ↓Bool.false_eq_true, beq_self_eq_true, ite_self, decide_eq_true_eq, decide_true, decide_false, Nat.reduceLeDiff, c0, c1, c2, c3, c13, Int.cast_ofNat_Int, Int.reduceEq, Int.reduceSub, Int.reduceAdd, Int.reduceNeg, Int.reduceLT, Int.reduceLE, Nat.reduceLT, wi, tn_nat, tn0, Nat.div_one, Nat.mul_one, T_len, m3, T_row, T_nf, T_app1, Tv_nf, chk_of, hji, hb]; refine hK _ ?_; clear hK K)
            | simp only [Sv, ↓reduceIte, Nat.reduceEqDiff]
          refine hQ2 _ (j + 1) (by omega) (by omega) ?_
          simp (disch := (first | omega | assumption)) only [Sl, Sa, Sw, ↓reduceIte, Nat.reduceEqDiff, Nat.reduceLT, List.all_nil, List.all_cons, Nat.reduceBneDiff, Nat.reduceAdd, bne_iff_ne, ne_eq, reduceCtorEq, not_false_eq_true, not_true_eq_false, Bool.and_true, Bool.true_and, and_true, true_and, and_self, i_eq]
          repeat' first | rfl | omega | (simp only [List.length_append, List.length_cons, List.length_nil]; done) | apply And.intro
        · repeat first
            | (refine hK _ ?_; clear hK K)
            | ((first | refine vm_reg (fun K hK => ?_) | refine vm_dreg (fun K hK => ?_)); simp (disch := (first | omega | assumption)) only [initS, initE, Sw, Sx, Sb, pure_s2b, ↓reduceIte, Nat.reduceEqDiff, Nat.reduceAdd, Nat.reduceMul, Nat.reduceDiv, AOp.sb, AOp.mut, ↓Bool.false_eq_true, beq_self_eq_true, ite_self, decide_eq_true_eq, decide_true, decide_false, Nat.reduceLeDiff, c0, c1, c2, c3, c13, Int.cast_ofNat_Int, Int.reduceEq, Int.reduceSub, Int.reduceAdd, Int.reduceNeg, Int.reduceLT, Int.reduceLE, Nat.reduceLT, wi, tn_nat, tn0, Nat.div_one, Nat.mul_one, T_len, m3, T_row, T_nf, T_app1, Tv_nf, chk_of, hji, hb1, hb2]; refine hK _ ?_; clear hK K)
            | simp only [Sv, ↓reduceIte, Nat.reduceEqDiff]
          refine hQ2 _ (j + 1) (by omega) (by omega) ?_
          simp (disch := (first | omega | assumption)) only [Sl, Sa, Sw, ↓reduceIte, Nat.reduceEqDiff, Nat.reduceLT, List.all_nil, List.all_cons, Nat.reduceBneDiff, Nat.reduceAdd, bne_iff_ne, ne_eq, reduceCtorEq, not_false_eq_true, not_true_eq_false, Bool.and_true, Bool.true_and, and_true, true_and, and_self, i_eq]
          repeat' first | rfl | omega | (simp only [List.length_append, List.length_cons, List.length_nil]; done) | apply And.intro
      · repeat first
          | (refine hK _ ?_; clear hK K)
          | ((first | refine vm_reg (fun K hK => ?_) | refine vm_dreg (fun K hK => ?_)); simp (disch := (first | omega | assumption)) only [initS, initE, Sw, Sx, Sb, pure_s2b, ↓reduceIte, Nat.reduceEqDiff, Nat.reduceAdd, Nat.reduceMul, Nat.reduceDiv, AOp.sb, AOp.mut, ↓Bool.false_eq_true, beq_self_eq_true, ite_self, decide_eq_true_eq, decide_true, decide_false, Nat.reduceLeDiff, c0, c1, c2, c3, c13, Int.cast_ofNat_Int, Int.reduceEq, Int.reduceSub, Int.reduceAdd, Int.reduceNeg, Int.reduceLT, Int.reduceLE, Nat.reduceLT, wi, tn_nat, tn0, Nat.div_one, Nat.mul_one, T_len, m3, T_row, T_nf, T_app1, Tv_nf, chk_of, hji]; refine hK _ ?_; clear hK K)
          | simp only [Sv, ↓reduceIte, Nat.reduceEqDiff]
        refine he2 _ _ ?_
        repeat first
          | (refine hK _ ?_; clear hK K)
          | ((first | refine vm_reg (fun K hK => ?_) | refine vm_dreg (fun K hK => ?_)); simp (disch := (first | omega | assumption)) only [initS, initE, Sw, Sx, Sb, pure_s2b, ↓reduceIte, Nat.reduceEqDiff, Nat.reduceAdd, Nat.reduceMul, Nat.reduceDiv, AOp.sb, AOp.mut, ↓Bool.false_eq_true, beq_self_eq_true, ite_self, decide_eq_true_eq, decide_true, decide_false, Nat.reduceLeDiff, c0, c1, c2, c3, c13, Int.cast_ofNat_Int, Int.reduceEq, Int.reduceSub, Int.reduceAdd, Int.reduceNeg, Int.reduceLT, Int.reduceLE, Nat.reduceLT, wi, tn_nat, tn0, Nat.div_one, Nat.mul_one, T_len, m3, T_row, T_nf, T_app1, Tv_nf, chk_of]; refine hK _ ?_; clear hK K)
          | simp only [Sv, ↓reduceIte, Nat.reduceEqDiff]
        simp (disch := (first | omega | assumption)) only [retOk, retN, ret1, V.okArg, and_true, true_and, initS, initE, Sw, Sx, Sb, pure_s2b, ↓reduceIte, Nat.reduceEqDiff, Nat.reduceAdd, Nat.reduceMul, Nat.reduceDiv, AOp.sb, AOp.mut, ↓Bool.false_eq_true, beq_self_eq_true, ite_self, decide_eq_true_eq, decide_true, decide_false, Nat.reduceLeDiff, c0, c1, c2, c3, c13, Int.cast_ofNat_Int, Int.reduceEq, Int.reduceSub, Int.reduceAdd, Int.reduceNeg, Int.reduceLT, Int.reduceLE, Nat.reduceLT, wi, tn_nat, tn0, Nat.div_one, Nat.mul_one, T_len, m3, T_row, T_nf, T_app1, Tv_nf, chk_of]
  · repeat first | (refine hK _ ?_; clear hK K) | simp only [Sv, ↓reduceIte, Nat.reduceEqDiff] | ((first | refine vm_reg (fun K hK => ?_) | refine vm_dreg (fun K hK => ?_)); simp (disch := (first | omega | assumption)) only [initS, initE, Sw, Sx, Sb, pure_s2b, ↓reduceIte, Nat.reduceEqDiff, Nat.reduceAdd, Nat.reduceMul, Nat.reduceDiv, AOp.sb, AOp.mut, ↓Bool.false_eq_true, beq_self_eq_true, ite_self, decide_eq_true_eq, decide_true, decide_false, Nat.reduceLeDiff, c0, c1, c2, c3, c13, Int.cast_ofNat_Int, Int.reduceEq, Int.reduceSub, Int.reduceAdd, Int.reduceNeg, Int.reduceLT, Int.reduceLE, Nat.reduceLT, wi, tn_nat, tn0, Nat.div_one, Nat.mul_one, T_len, m3, T_row, T_nf, T_app1, Tv_nf, chk_of, h2, h1])
    refine clp_of _ _ (scan_spec s) ?_ ?_
    · first | rfl | (simp (disch := (first | omega | assumption)) only [initS, initE, Sw, Sx, Sb, pure_s2b, ↓reduceIte, Nat.reduceEqDiff, Nat.reduceAdd, Nat.reduceMul, Nat.reduceDiv, AOp.sb, AOp.mut, ↓Bool.false_eq_true, beq_self_eq_true, ite_self, decide_eq_true_eq, decide_true, decide_false, Nat.reduceLeDiff, c0, c1, c2, c3, c13, Int.cast_ofNat_Int, Int.reduceEq, Int.reduceSub, Int.reduceAdd, Int.reduceNeg, Int.reduceLT, Int.reduceLE, Nat.reduceLT, wi, tn_nat, tn0, Nat.div_one, Nat.mul_one, T_len, m3, T_row, T_nf, T_app1, Tv_nf, chk_of, h2, h1])
    simp (disch := (first | omega | assumption)) only [initS, initE, Sw, Sx, Sb, pure_s2b, ↓reduceIte, Nat.reduceEqDiff, Nat.reduceAdd, Nat.reduceMul, Nat.reduceDiv, AOp.sb, AOp.mut, ↓Bool.false_eq_true, beq_self_eq_true, ite_self, decide_eq_true_eq, decide_true, decide_false, Nat.reduceLeDiff, c0, c1, c2, c3, c13, Int.cast_ofNat_Int, Int.reduceEq, Int.reduceSub, Int.reduceAdd, Int.reduceNeg, Int.reduceLT, Int.reduceLE, Nat.reduceLT, wi, tn_nat, tn0, Nat.div_one, Nat.mul_one, T_len, m3, T_row, T_nf, T_app1, Tv_nf, chk_of, h2, h1]
    repeat first | (refine hK _ ?_; clear hK K) | simp only [Sv, ↓reduceIte, Nat.reduceEqDiff] | ((first | refine vm_reg (fun K hK => ?_) | refine vm_dreg (fun K hK => ?_)); simp (disch := (first | omega | assumption)) only [initS, initE, Sw, Sx, Sb, pure_s2b, ↓reduceIte, Nat.reduceEqDiff, Nat.reduceAdd, Nat.reduceMul, Nat.reduceDiv, AOp.sb, AOp.mut, ↓Bool.false_eq_true, beq_self_eq_true, ite_self, decide_eq_true_eq, decide_true, decide_false, Nat.reduceLeDiff, c0, c1, c2, c3, c13, Int.cast_ofNat_Int, Int.reduceEq, Int.reduceSub, Int.reduceAdd, Int.reduceNeg, Int.reduceLT, Int.reduceLE, Nat.reduceLT, wi, tn_nat, tn0, Nat.div_one, Nat.mul_one, T_len, m3, T_row, T_nf, T_app1, Tv_nf, chk_of, T_nil, List.length_nil])
    simp (disch := (first | omega | assumption)) only [retOk, retN, ret1, V.okArg, and_true, true_and, initS, initE, Sw, Sx, Sb, pure_s2b, ↓reduceIte, Nat.reduceEqDiff, Nat.reduceAdd, Nat.reduceMul, Nat.reduceDiv, AOp.sb, AOp.mut, ↓Bool.false_eq_true, beq_self_eq_true, ite_self, decide_eq_true_eq, decide_true, decide_false, Nat.reduceLeDiff, c0, c1, c2, c3, c13, Int.cast_ofNat_Int, Int.reduceEq, Int.reduceSub, Int.reduceAdd, Int.reduceNeg, Int.reduceLT, Int.reduceLE, Nat.reduceLT, wi, tn_nat, tn0, Nat.div_one, Nat.mul_one, T_len, m3, T_row, T_nf, T_app1, Tv_nf, chk_of, T_nil, List.length_nil]
  · repeat first | (refine hK _ ?_; clear hK K) | simp only [Sv, ↓reduceIte, Nat.reduceEqDiff] | ((first | refine vm_reg (fun K hK => ?_) | refine vm_dreg (fun K hK => ?_)); simp (disch := (first | omega | assumption)) only [initS, initE, Sw, Sx, Sb, pure_s2b, ↓reduceIte, Nat.reduceEqDiff, Nat.reduceAdd, Nat.reduceMul, Nat.reduceDiv, AOp.sb, AOp.mut, ↓Bool.false_eq_true, beq_self_eq_true, ite_self, decide_eq_true_eq, decide_true, decide_false, Nat.reduceLeDiff, c0, c1, c2, c3, c13, Int.cast_ofNat_Int, Int.reduceEq, Int.reduceSub, Int.reduceAdd, Int.reduceNeg, Int.reduceLT, Int.reduceLE, Nat.reduceLT, wi, tn_nat, tn0, Nat.div_one, Nat.mul_one, T_len, m3, T_row, T_nf, T_app1, Tv_nf, chk_of, h2, h1])
    refine clp_of _ _ (scan_spec s) ?_ ?_
    · first | rfl | (simp (disch := (first | omega | assumption)) only [initS, initE, Sw, Sx, Sb, pure_s2b, ↓reduceIte, Nat.reduceEqDiff, Nat.reduceAdd, Nat.reduceMul, Nat.reduceDiv, AOp.sb, AOp.mut, ↓Bool.false_eq_true, beq_self_eq_true, ite_self, decide_eq_true_eq, decide_true, decide_false, Nat.reduceLeDiff, c0, c1, c2, c3, c13, Int.cast_ofNat_Int, Int.reduceEq, Int.reduceSub, Int.reduceAdd, Int.reduceNeg, Int.reduceLT, Int.reduceLE, Nat.reduceLT, wi, tn_nat, tn0, Nat.div_one, Nat.mul_one, T_len, m3, T_row, T_nf, T_app1, Tv_nf, chk_of, h2, h1])
    simp (disch := (first | omega | assumption)) only [initS, initE, Sw, Sx, Sb, pure_s2b, ↓reduceIte, Nat.reduceEqDiff, Nat.reduceAdd, Nat.reduceMul, Nat.reduceDiv, AOp.sb, AOp.mut, ↓Bool.false_eq_true, beq_self_eq_true, ite_self, decide_eq_true_eq, decide_true, decide_false, Nat.reduceLeDiff, c0, c1, c2, c3, c13, Int.cast_ofNat_Int, Int.reduceEq, Int.reduceSub, Int.reduceAdd, Int.reduceNeg, Int.reduceLT, Int.reduceLE, Nat.reduceLT, wi, tn_nat, tn0, Nat.div_one, Nat.mul_one, T_len, m3, T_row, T_nf, T_app1, Tv_nf, chk_of, h2, h1]
    repeat first | (refine hK _ ?_; clear hK K) | simp only [Sv, ↓reduceIte, Nat.reduceEqDiff] | ((first | refine vm_reg (fun K hK => ?_) | refine vm_dreg (fun K hK => ?_)); simp (disch := (first | omega | assumption)) only [initS, initE, Sw, Sx, Sb, pure_s2b, ↓reduceIte, Nat.reduceEqDiff, Nat.reduceAdd, Nat.reduceMul, Nat.reduceDiv, AOp.sb, AOp.mut, ↓Bool.false_eq_true, beq_self_eq_true, ite_self, decide_eq_true_eq, decide_true, decide_false, Nat.reduceLeDiff, c0, c1, c2, c3, c13, Int.cast_ofNat_Int, Int.reduceEq, Int.reduceSub, Int.reduceAdd, Int.reduceNeg, Int.reduceLT, Int.reduceLE, Nat.reduceLT, wi, tn_nat, tn0, Nat.div_one, Nat.mul_one, T_len, m3, T_row, T_nf, T_app1, Tv_nf, chk_of, T_nil, List.length_nil])
    simp (disch := (first | omega | assumption)) only [retOk, retN, ret1, V.okArg, and_true, true_and, initS, initE, Sw, Sx, Sb, pure_s2b, ↓reduceIte, Nat.reduceEqDiff, Nat.reduceAdd, Nat.reduceMul, Nat.reduceDiv, AOp.sb, AOp.mut, ↓Bool.false_eq_true, beq_self_eq_true, ite_self, decide_eq_true_eq, decide_true, decide_false, Nat.reduceLeDiff, c0, c1, c2, c3, c13, Int.cast_ofNat_Int, Int.reduceEq, Int.reduceSub, Int.reduceAdd, Int.reduceNeg, Int.reduceLT, Int.reduceLE, Nat.reduceLT, wi, tn_nat, tn0, Nat.div_one, Nat.mul_one, T_len, m3, T_row, T_nf, T_app1, Tv_nf, chk_of, T_nil, List.length_nil]
end Go.Proofs.Ytebcheabahajaaa
