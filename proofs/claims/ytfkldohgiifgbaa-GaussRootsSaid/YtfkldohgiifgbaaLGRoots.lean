/-
  GaussRoots: the law's walk.
-/
import Derived.Test.YtfkldohgiifgbaaLGKn
import Derived.Test.YtfkldohgiifgbaaGR
namespace Go.Proofs.Ytfkldohgiifgbaa
open Go Go.RowKit Ab
set_option linter.unusedSimpArgs false
set_option linter.unusedVariables false
set_option maxHeartbeats 10000000
theorem bz_LGRoots : type_of% (And.intro @W_len (And.intro @D_len (And.intro @Nat.div_one (And.intro @Nat.mul_one (And.intro @tn_nat (And.intro @W_nf (And.intro @D_nf (And.intro @W_nil (And.intro @D_nil (And.intro @wi (And.intro @nf_g (And.intro @Bool.false_and (And.intro @W_cell (And.intro @ZC_cell (@ZC_nil))))))))))))))) := And.intro @W_len (And.intro @D_len (And.intro @Nat.div_one (And.intro @Nat.mul_one (And.intro @tn_nat (And.intro @W_nf (And.intro @D_nf (And.intro @W_nil (And.intro @D_nil (And.intro @wi (And.intro @nf_g (And.intro @Bool.false_and (And.intro @W_cell (And.intro @ZC_cell (@ZC_nil))))))))))))))

theorem tf {p : Prop} (h : p) : p = True := eq_true h
theorem ff {p : Prop} (h : ¬ p) : p = False := eq_false h
theorem aroundZ (xs : List Int) (hx : ∀ c, c ∈ xs → c.natAbs < 18446744073709551616) (lx : xs.length ≤ 100000000) (mid : Int) (r : Nat) (hr : r < 100) : AFun Try.prog J0 28 [.l 2 (ZC (nfl xs)), .g [.i .i64 mid, .i .i64 0], .i .i64 (r : Int)] (.t [.i .i64 (arF xs (mid, 0) r), .i .i64 (arE xs (mid, 0) r)]) := by
  have := garoundS (nfl xs) 100000000 (by decide) (ZOk_small lx hx) (mid, 0) (r : Int) (by unfold Pi; omega)
  rwa [zcs_nfl] at this
theorem kA_of {D : Int} {R : Nat} {F E : Int} (hD : 0 ≤ D) (h1 : D.natAbs < R → F = 1 ∧ E = 0) (h2 : R < D.natAbs → F = 0 ∧ E = 0) (h3 : D.natAbs = R → E = 1) :
    ((D < (R : Int)) = True ∧ ((R : Int) < D) = False ∧ (D = (R : Int)) = False ∧ F = 1 ∧ E = 0) ∨ ((D < (R : Int)) = False ∧ ((R : Int) < D) = True ∧ (D = (R : Int)) = False ∧ F = 0 ∧ E = 0) ∨
    ((D < (R : Int)) = False ∧ ((R : Int) < D) = False ∧ (D = (R : Int)) = True ∧ F = F ∧ E = 1) := by
  rcases Int.lt_trichotomy D (R : Int) with h | h | h
  · exact .inl ⟨tf h, ff (by omega), ff (by omega), h1 (by omega)⟩
  · exact .inr (.inr ⟨ff (by omega), ff (by omega), tf h, rfl, h3 (by omega)⟩)
  · exact .inr (.inl ⟨ff (by omega), tf h, ff (by omega), h2 (by omega)⟩)
theorem kB_of {C : Int} {R : Nat} {F E : Int} (hC : 0 ≤ C) (h1 : C.natAbs = R → E = 1) (h2 : C.natAbs + 1 < R → 6 < R → F = 2 ∧ E = 0) (h3 : R + 2 < C.natAbs → E = 0 → F = 0) :
    ((C = (R : Int)) = True ∧ (C < (R : Int) - 1) = False ∧ ((6 : Int) < (R : Int)) = ((6 : Int) < (R : Int)) ∧ ((R : Int) + 2 < C) = False ∧ (E = 1) ∧ F = F) ∨
    ((C = (R : Int)) = False ∧ (C < (R : Int) - 1) = True ∧ ((6 : Int) < (R : Int)) = True ∧ ((R : Int) + 2 < C) = False ∧ E = 0 ∧ F = 2) ∨
    ((C = (R : Int)) = False ∧ (C < (R : Int) - 1) = True ∧ ((6 : Int) < (R : Int)) = False ∧ ((R : Int) + 2 < C) = False ∧ E = E ∧ F = F) ∨
    ((C = (R : Int)) = False ∧ (C < (R : Int) - 1) = False ∧ ((6 : Int) < (R : Int)) = ((6 : Int) < (R : Int)) ∧ ((R : Int) + 2 < C) = False ∧ E = E ∧ F = F) ∨
    ((C = (R : Int)) = False ∧ (C < (R : Int) - 1) = False ∧ ((6 : Int) < (R : Int)) = ((6 : Int) < (R : Int)) ∧ ((R : Int) + 2 < C) = True ∧ E = 0 ∧ F = 0) ∨
    ((C = (R : Int)) = False ∧ (C < (R : Int) - 1) = False ∧ ((6 : Int) < (R : Int)) = ((6 : Int) < (R : Int)) ∧ ((R : Int) + 2 < C) = True ∧ (E = 0) = False ∧ F = F) := by
  by_cases c1 : C = (R : Int)
  · exact .inl ⟨tf c1, ff (by omega), rfl, ff (by omega), h1 (by omega), rfl⟩
  · refine .inr ?_
    by_cases c2 : C < (R : Int) - 1
    · by_cases c3 : (6 : Int) < (R : Int)
      · exact .inl ⟨ff c1, tf c2, tf c3, ff (by omega), (h2 (by omega) (by omega)).2, (h2 (by omega) (by omega)).1⟩
      · exact .inr (.inl ⟨ff c1, tf c2, ff c3, ff (by omega), rfl, rfl⟩)
    · refine .inr (.inr ?_)
      by_cases c4 : (R : Int) + 2 < C
      · by_cases c5 : E = 0
        · exact .inr (.inl ⟨ff c1, ff c2, rfl, tf c4, c5, h3 (by omega) c5⟩)
        · exact .inr (.inr ⟨ff c1, ff c2, rfl, tf c4, ff c5, rfl⟩)
      · exact .inl ⟨ff c1, ff c2, rfl, ff c4, rfl, rfl⟩
/-- what is behind two ways is walked once: 'P': what is known there -/
theorem vmc_share {F G : Nat → List V → V → Prop} {v : V} {a b b2 r : AC} {k : List Fr} {Q : Ex → St → Prop} {s : St} (P : St → Prop)
    (h2 : ∀ s', P s' → vm F G (.c r :: k) Q s') (h1 : ∀ r', (∀ s', P s' → vm F G (.c r' :: k) Q s') → vmc F G v a b (.c (.seq b2 r') :: k) Q s) : vmc F G v a b (.c (.seq b2 r) :: k) Q s := h1 r h2
-- surd/surdlaw23.GaussRoots
def a7 : AC := .seq (.reg [⟨some 6, none, .mv (.k (.b false))⟩])
  (.seq (.seq (.reg [⟨some 15, none, .call 12 []⟩, 
        ⟨some 16, none, .un .not (.t 15)⟩])
    (.cond (.t 16)
    (.seq (.reg [⟨some 6, none, .mv (.k (.b false))⟩])
      (.ret))
    (.skip)))
  (.seq (.reg [⟨some 17, none, .mv (.t 2)⟩, 
      ⟨some 18, none, .cvt .u64 (.t 17)⟩, 
      ⟨some 19, none, .bin .rem (.t 18) (.k (.i .u64 9))⟩, 
      ⟨some 20, none, .cvt .i64 (.t 19)⟩, 
      ⟨some 21, none, .bin .add (.k (.i .i64 4)) (.t 20)⟩, 
      ⟨some 2, none, .mv (.t 21)⟩])
  (.seq (.reg [⟨some 22, none, .mv (.t 1)⟩, 
      ⟨some 23, none, .bin .rem (.t 22) (.k (.i .i64 10))⟩, 
      ⟨some 1, none, .mv (.t 23)⟩])
  (.seq (.seq (.reg [⟨some 7, none, .mv (.k (.i .i64 0))⟩])
    (.blk 0
    (.loop
      (.seq (.seq (.reg [⟨some 24, none, .mv (.t 7)⟩, 
              ⟨some 25, none, .mv (.t 0)⟩, 
              ⟨some 26, none, .len (.t 25)⟩, 
              ⟨some 27, none, .bin .lss (.t 24) (.t 26)⟩])
          (.cond (.t 27)
          (.skip)
          (.exit 0)))
        (.seq (.blk 1
          (.seq (.reg [⟨some 30, none, .mv (.t 0)⟩, 
                ⟨some 31, none, .mv (.t 7)⟩, 
                ⟨some 32, none, .idx 1 (.t 30) (.t 31)⟩, 
                ⟨some 33, none, .ld false 1 (.t 32)⟩, 
                ⟨some 34, none, .bin .rem (.t 33) (.k (.i .i64 40))⟩, 
                ⟨some 8, none, .mv (.t 34)⟩])
            (.seq (.reg [⟨some 36, none, .mv (.t 8)⟩, 
                ⟨some 37, none, .un .neg (.t 36)⟩, 
                ⟨some 38, none, .bsl 3 1 2 [(.i .i64 0), (.i .i64 0)] [(0, (.t 37)), (1, (.k (.i .i64 1)))]⟩, 
                ⟨some 39, none, .call 30 [(1, (.t 38))]⟩, 
                ⟨some 40, none, .mv (.t 1)⟩, 
                ⟨some 41, none, .bld [(.i .i64 0), (.i .i64 0)] [(0, 1, (.t 40))]⟩, 
                ⟨some 42, none, .mv (.t 2)⟩, 
                ⟨some 43, none, .call 28 [(2, (.t 39)), (1, (.t 41)), (1, (.t 42))]⟩, 
                ⟨some 35, none, .mv (.t 43)⟩, 
                ⟨some 44, none, .ext (.t 35) 0⟩, 
                ⟨some 45, none, .ext (.t 35) 1⟩, 
                ⟨some 9, none, .mv (.t 44)⟩, 
                ⟨some 10, none, .mv (.t 45)⟩])
            (.seq (.reg [⟨some 46, none, .mv (.t 8)⟩, 
                ⟨some 47, none, .mv (.t 1)⟩, 
                ⟨some 48, none, .bin .sub (.t 46) (.t 47)⟩, 
                ⟨some 11, none, .mv (.t 48)⟩])
            (.seq (.seq (.reg [⟨some 49, none, .mv (.t 11)⟩, 
                  ⟨some 50, none, .bin .lss (.t 49) (.k (.i .i64 0))⟩])
              (.cond (.t 50)
              (.reg [⟨some 51, none, .mv (.t 11)⟩, 
                  ⟨some 52, none, .un .neg (.t 51)⟩, 
                  ⟨some 11, none, .mv (.t 52)⟩])
              (.skip)))
            (.seq (.blk 2
              (.seq (.seq (.reg [⟨some 54, none, .mv (.t 11)⟩, 
                      ⟨some 55, none, .mv (.t 2)⟩, 
                      ⟨some 56, none, .bin .lss (.t 54) (.t 55)⟩, 
                      ⟨some 57, none, .mv (.t 56)⟩, 
                      ⟨some 58, some (57, true), .mv (.t 9)⟩, 
                      ⟨some 59, some (57, true), .bin .neq (.t 58) (.k (.i .i64 1))⟩, 
                      ⟨some 60, some (57, true), .mv (.t 59)⟩, 
                      ⟨some 61, some (60, false), .mv (.t 10)⟩, 
                      ⟨some 62, some (60, false), .bin .neq (.t 61) (.k (.i .i64 0))⟩, 
                      ⟨some 63, some (57, true), .pick (.t 60) (.k (.b true)) (.t 62)⟩, 
                      ⟨some 64, none, .pick (.t 57) (.t 63) (.k (.b false))⟩, 
                      ⟨some 53, none, .mv (.t 64)⟩])
                  (.cond (.t 53)
                  (.skip)
                  (.seq (.reg [⟨some 65, none, .mv (.t 11)⟩, 
                        ⟨some 66, none, .mv (.t 2)⟩, 
                        ⟨some 67, none, .bin .gtr (.t 65) (.t 66)⟩, 
                        ⟨some 68, none, .mv (.t 67)⟩, 
                        ⟨some 69, some (68, true), .mv (.t 9)⟩, 
                        ⟨some 70, some (68, true), .bin .neq (.t 69) (.k (.i .i64 0))⟩, 
                        ⟨some 71, some (68, true), .mv (.t 70)⟩, 
                        ⟨some 72, some (71, false), .mv (.t 10)⟩, 
                        ⟨some 73, some (71, false), .bin .neq (.t 72) (.k (.i .i64 0))⟩, 
                        ⟨some 74, some (68, true), .pick (.t 71) (.k (.b true)) (.t 73)⟩, 
                        ⟨some 75, none, .pick (.t 68) (.t 74) (.k (.b false))⟩, 
                        ⟨some 53, none, .mv (.t 75)⟩])
                    (.cond (.t 53)
                    (.skip)
                    (.reg [⟨some 76, none, .mv (.t 11)⟩, 
                        ⟨some 77, none, .mv (.t 2)⟩, 
                        ⟨some 78, none, .bin .eql (.t 76) (.t 77)⟩, 
                        ⟨some 79, none, .mv (.t 78)⟩, 
                        ⟨some 80, some (79, true), .mv (.t 10)⟩, 
                        ⟨some 81, some (79, true), .bin .neq (.t 80) (.k (.i .i64 1))⟩, 
                        ⟨some 82, none, .pick (.t 79) (.t 81) (.k (.b false))⟩, 
                        ⟨some 53, none, .mv (.t 82)⟩])))))
                (.cond (.t 53)
                (.seq (.reg [⟨some 6, none, .mv (.k (.b false))⟩])
                  (.ret))
                (.skip))))
            (.seq (.seq (.reg [⟨some 83, none, .mv (.t 8)⟩, 
                  ⟨some 84, none, .bin .eql (.t 83) (.k (.i .i64 0))⟩])
              (.cond (.t 84)
              (.exit 1)
              (.skip)))
            (.seq (.reg [⟨some 86, none, .mv (.t 8)⟩, 
                ⟨some 87, none, .mv (.t 8)⟩, 
                ⟨some 88, none, .bin .mul (.t 86) (.t 87)⟩, 
                ⟨some 89, none, .bsl 3 1 3 [(.i .i64 0), (.i .i64 0), (.i .i64 0)] [(0, (.t 88)), (1, (.k (.i .i64 0))), (2, (.k (.i .i64 1)))]⟩, 
                ⟨some 90, none, .call 30 [(1, (.t 89))]⟩, 
                ⟨some 91, none, .bld [(.i .i64 0), (.i .i64 0)] []⟩, 
                ⟨some 92, none, .mv (.t 2)⟩, 
                ⟨some 93, none, .call 28 [(2, (.t 90)), (1, (.t 91)), (1, (.t 92))]⟩, 
                ⟨some 85, none, .mv (.t 93)⟩, 
                ⟨some 94, none, .ext (.t 85) 0⟩, 
                ⟨some 95, none, .ext (.t 85) 1⟩, 
                ⟨some 12, none, .mv (.t 94)⟩, 
                ⟨some 10, none, .mv (.t 95)⟩])
            (.seq (.seq (.reg [⟨some 96, none, .mv (.t 8)⟩, 
                  ⟨some 97, none, .bin .lss (.t 96) (.k (.i .i64 0))⟩])
              (.cond (.t 97)
              (.reg [⟨some 98, none, .mv (.t 8)⟩, 
                  ⟨some 99, none, .un .neg (.t 98)⟩, 
                  ⟨some 8, none, .mv (.t 99)⟩])
              (.skip)))
            (.blk 3
            (.seq (.seq (.reg [⟨some 101, none, .mv (.t 8)⟩, 
                    ⟨some 102, none, .mv (.t 2)⟩, 
                    ⟨some 103, none, .bin .eql (.t 101) (.t 102)⟩, 
                    ⟨some 104, none, .mv (.t 103)⟩, 
                    ⟨some 105, some (104, true), .mv (.t 10)⟩, 
                    ⟨some 106, some (104, true), .bin .neq (.t 105) (.k (.i .i64 1))⟩, 
                    ⟨some 107, none, .pick (.t 104) (.t 106) (.k (.b false))⟩, 
                    ⟨some 100, none, .mv (.t 107)⟩])
                (.cond (.t 100)
                (.skip)
                (.seq (.reg [⟨some 108, none, .mv (.t 8)⟩, 
                      ⟨some 109, none, .mv (.t 2)⟩, 
                      ⟨some 110, none, .bin .sub (.t 109) (.k (.i .i64 1))⟩, 
                      ⟨some 111, none, .bin .lss (.t 108) (.t 110)⟩, 
                      ⟨some 112, none, .mv (.t 111)⟩, 
                      ⟨some 113, some (112, true), .mv (.t 2)⟩, 
                      ⟨some 114, some (112, true), .bin .gtr (.t 113) (.k (.i .i64 6))⟩, 
                      ⟨some 115, none, .pick (.t 112) (.t 114) (.k (.b false))⟩, 
                      ⟨some 116, none, .mv (.t 115)⟩, 
                      ⟨some 117, some (116, true), .mv (.t 12)⟩, 
                      ⟨some 118, some (116, true), .bin .neq (.t 117) (.k (.i .i64 2))⟩, 
                      ⟨some 119, some (116, true), .mv (.t 118)⟩, 
                      ⟨some 120, some (119, false), .mv (.t 10)⟩, 
                      ⟨some 121, some (119, false), .bin .neq (.t 120) (.k (.i .i64 0))⟩, 
                      ⟨some 122, some (116, true), .pick (.t 119) (.k (.b true)) (.t 121)⟩, 
                      ⟨some 123, none, .pick (.t 116) (.t 122) (.k (.b false))⟩, 
                      ⟨some 100, none, .mv (.t 123)⟩])
                  (.cond (.t 100)
                  (.skip)
                  (.reg [⟨some 124, none, .mv (.t 8)⟩, 
                      ⟨some 125, none, .mv (.t 2)⟩, 
                      ⟨some 126, none, .bin .add (.t 125) (.k (.i .i64 2))⟩, 
                      ⟨some 127, none, .bin .gtr (.t 124) (.t 126)⟩, 
                      ⟨some 128, none, .mv (.t 127)⟩, 
                      ⟨some 129, some (128, true), .mv (.t 10)⟩, 
                      ⟨some 130, some (128, true), .bin .eql (.t 129) (.k (.i .i64 0))⟩, 
                      ⟨some 131, none, .pick (.t 128) (.t 130) (.k (.b false))⟩, 
                      ⟨some 132, none, .mv (.t 131)⟩, 
                      ⟨some 133, some (132, true), .mv (.t 12)⟩, 
                      ⟨some 134, some (132, true), .bin .neq (.t 133) (.k (.i .i64 0))⟩, 
                      ⟨some 135, none, .pick (.t 132) (.t 134) (.k (.b false))⟩, 
                      ⟨some 100, none, .mv (.t 135)⟩])))))
              (.cond (.t 100)
              (.seq (.reg [⟨some 6, none, .mv (.k (.b false))⟩])
                (.ret))
              (.skip)))))))))))))
        (.reg [⟨some 28, none, .mv (.t 7)⟩, 
          ⟨some 29, none, .bin .add (.t 28) (.k (.i .i64 1))⟩, 
          ⟨some 7, none, .mv (.t 29)⟩]))))))
  (.seq (.reg [⟨some 137, none, .bsl 3 1 1 [(.i .i64 0)] [(0, (.k (.i .i64 7)))]⟩, 
      ⟨some 138, none, .call 30 [(1, (.t 137))]⟩, 
      ⟨some 139, none, .mv (.t 1)⟩, 
      ⟨some 140, none, .bld [(.i .i64 0), (.i .i64 0)] [(0, 1, (.t 139))]⟩, 
      ⟨some 141, none, .mv (.t 2)⟩, 
      ⟨some 142, none, .call 28 [(2, (.t 138)), (1, (.t 140)), (1, (.t 141))]⟩, 
      ⟨some 136, none, .mv (.t 142)⟩, 
      ⟨some 143, none, .ext (.t 136) 0⟩, 
      ⟨some 144, none, .ext (.t 136) 1⟩, 
      ⟨some 13, none, .mv (.t 143)⟩, 
      ⟨some 14, none, .mv (.t 144)⟩])
  (.seq (.reg [⟨some 145, none, .mv (.t 13)⟩, 
      ⟨some 146, none, .bin .eql (.t 145) (.k (.i .i64 0))⟩, 
      ⟨some 147, none, .mv (.t 146)⟩, 
      ⟨some 148, some (147, true), .mv (.t 14)⟩, 
      ⟨some 149, some (147, true), .bin .eql (.t 148) (.k (.i .i64 0))⟩, 
      ⟨some 150, none, .pick (.t 147) (.t 149) (.k (.b false))⟩, 
      ⟨some 6, none, .mv (.t 150)⟩])
  (.ret)))))))
set_option maxRecDepth 100000 in
theorem gaussRoots_spec (cs : List Int) (mid r : Int) (lc : cs.length ≤ 9223372036854775807) : AFun Try.prog J0 7 [.l 1 (I64 cs), .i .i64 mid, .i .i64 r] (.b true) := by
  have hcl := I64_len cs
  obtain ⟨q, hq1, hq2⟩ : ∃ q : Nat, q < 9 ∧ (IntKind.u64.wrap r).tmod 9 = (q : Int) := by
    have h1 : 0 ≤ IntKind.u64.wrap r := by rw [IntKind.wrap_u64]; omega
    obtain ⟨u, hu⟩ : ∃ u : Nat, IntKind.u64.wrap r = (u : Int) := ⟨(IntKind.u64.wrap r).toNat, by omega⟩
    exact ⟨u % 9, Nat.mod_lt _ (by decide), by rw [hu]; rfl⟩
  obtain ⟨R, hR⟩ : ∃ R, R = 4 + q := ⟨_, rfl⟩
  have hRI : (4 : Int) + (q : Int) = (R : Int) := by omega
  obtain ⟨M, hM⟩ : ∃ M, M = mid.tmod 10 := ⟨_, rfl⟩
  have hMb : M.natAbs ≤ 9 := by rw [hM, Int.natAbs_tmod]; have := Nat.mod_lt mid.natAbs (show 0 < 10 by decide); show mid.natAbs % 10 ≤ 9; omega
  have g4 : 4 ≤ R := by omega
  have g12 : R ≤ 12 := by omega
  have pc := polyZ [7] (by decide) (by decide)
  have ac := aroundZ [7] (by decide) (by decide) M R (by omega)
  rw [(roots_con g4 g12 hMb).1, (roots_con g4 g12 hMb).2] at ac
  rw [show I64 [7] = [.i .i64 7] from rfl] at pc
  have w1 : IntKind.i64.wrap ((R : Int) - 1) = (R : Int) - 1 := wi (by omega)
  have w2 : IntKind.i64.wrap ((R : Int) + 2) = (R : Int) + 2 := wi (by omega)
  have w3 : IntKind.i64.wrap (q : Int) = (q : Int) := wi (by omega)
  have w4 : IntKind.i64.wrap (R : Int) = (R : Int) := wi (by omega)
  refine AFun.mk fol J0s Try.func7 rfl (ac := a7) (by kernel_rfl) rfl rfl ?_
  apply vm_start
  unfold a7
  simp only [init_eq, initE]
  have zc1 := gknown_spec
  repeat first | (refine hK _ ?_; clear hK K) | simp only [Sv, ↓reduceIte, Nat.reduceEqDiff] | ((first | refine vm_reg (fun K hK => ?_) | refine vm_dreg (fun K hK => ?_) | refine clp_q ?_ | refine clq_mk (by assumption) ?_); simp (disch := (first | omega | assumption)) only [S1, ↓reduceIte, Nat.reduceEqDiff, Nat.reduceAdd, Nat.reduceMul, Nat.reduceDiv, AOp.sb, AOp.mut, ↓Bool.false_eq_true, beq_self_eq_true, ite_self, Nat.reduceLeDiff, Int.reduceEq, Int.reduceSub, Int.reduceAdd, Int.reduceNeg, Int.reduceLT, Int.reduceLE, Nat.reduceLT, bz_LGRoots, hq2, w3, hRI, w4, ← hM])
  refine vm_loopA [] Nat (fun i => ⟨[(0, .l 1 (I64 cs)), (1, .i .i64 M), (2, .i .i64 (R : Int)), (7, .i .i64 (i : Int))], [], 0⟩)
    (fun i => i ≤ cs.length) (fun i => cs.length - i) 0 (Nat.zero_le _) (by simp (disch := (first | omega | assumption)) only [Sl, Sa, Sw, ↓reduceIte, Nat.reduceEqDiff, Nat.reduceLT, List.all_nil, List.all_cons, Nat.reduceBneDiff, Nat.reduceAdd, bne_iff_ne, ne_eq, reduceCtorEq, not_false_eq_true, not_true_eq_false, Bool.and_true, Bool.true_and, and_true, true_and, and_self]) (by
    simp (disch := (first | omega | assumption)) only [Sl, Sa, Sw, ↓reduceIte, Nat.reduceEqDiff, Nat.reduceLT, List.all_nil, List.all_cons, Nat.reduceBneDiff, Nat.reduceAdd, bne_iff_ne, ne_eq, reduceCtorEq, not_false_eq_true, not_true_eq_false, Bool.and_true, Bool.true_and, and_true, true_and, and_self, i_eq]
    repeat' first | rfl | omega | (simp only [List.length_append, List.length_cons, List.length_nil]; done) | apply And.intro) ?_
  intro i hi Q' hQ he hr
  by_cases h : (i : Int) < (cs.length : Int)
  · have hic : i < cs.length := by omega
    have hi1 : i + 1 ≤ cs.length := hic
    have hi2 : cs.length - (i + 1) < cs.length - i := by omega
    have hg := I64_get cs i hic
    generalize cs.getD i 0 = c0 at *
    obtain ⟨c, hc⟩ : ∃ c, c = c0.tmod 40 := ⟨_, rfl⟩
    have hcb : c.natAbs ≤ 39 := by rw [hc, Int.natAbs_tmod]; have := Nat.mod_lt c0.natAbs (show 0 < 40 by decide); show c0.natAbs % 40 ≤ 39; omega
    have pl := polyZ [-c, 1] (by intro x hx; simp only [List.mem_cons, List.not_mem_nil, or_false] at hx; omega) (by simp)
    have al := aroundZ [-c, 1] (by intro x hx; simp only [List.mem_cons, List.not_mem_nil, or_false] at hx; omega) (by simp) M R (by omega)
    rw [show I64 [-c, 1] = [.i .i64 (-c), .i .i64 1] from rfl] at pl
    have hcc : (c * c).natAbs ≤ 39 * 39 := by rw [Int.natAbs_mul]; exact Nat.mul_le_mul hcb hcb
    have pq := polyZ [c * c, 0, 1] (by intro x hx; simp only [List.mem_cons, List.not_mem_nil, or_false] at hx; omega) (by simp)
    have aq := aroundZ [c * c, 0, 1] (by intro x hx; simp only [List.mem_cons, List.not_mem_nil, or_false] at hx; omega) (by simp) 0 R (by omega)
    rw [show I64 [c * c, 0, 1] = [.i .i64 (c * c), .i .i64 0, .i .i64 1] from rfl] at pq
    have wc : IntKind.i64.wrap (0 - c) = -c := by rw [wi (by omega)]; omega
    have wq : IntKind.i64.wrap (c * c) = c * c := wi (by omega)
    obtain ⟨d, hd⟩ : ∃ d, d = c - M := ⟨_, rfl⟩
    have wd0 : IntKind.i64.wrap (c - M) = d := by rw [hd]; exact wi (by omega)
    have wd : IntKind.i64.wrap (0 - d) = -d := by rw [wi (by omega)]; omega
    have kS : ∃ D, 0 ≤ D ∧ D.natAbs = d.natAbs ∧ (((d < 0) = True ∧ D = -d) ∨ ((d < 0) = False ∧ D = d)) := by
      clear pl al pq aq wq hcc
      by_cases hs : d < 0
      · exact ⟨-d, by omega, by omega, .inl ⟨tf hs, rfl⟩⟩
      · exact ⟨d, by omega, by omega, .inr ⟨ff hs, rfl⟩⟩
    have kT : ∃ C, 0 ≤ C ∧ C.natAbs = c.natAbs ∧ (((c < 0) = True ∧ C = -c) ∨ ((c < 0) = False ∧ C = c)) := by
      clear pl al pq aq wq hcc
      by_cases hs : c < 0
      · exact ⟨-c, by omega, by omega, .inl ⟨tf hs, rfl⟩⟩
      · exact ⟨c, by omega, by omega, .inr ⟨ff hs, rfl⟩⟩
    obtain ⟨D, hD0, hD1, kS⟩ := kS
    obtain ⟨C, hC0, hC1, kT⟩ := kT
    obtain ⟨l1, l2, l3⟩ := roots_lin (c := c) g4 g12 hMb hcb
    have hqua := fun h0 => roots_qua (c := c) g4 g12 hcb h0
    rw [← hd] at l1 l2 l3
    generalize nfl [-c, 1] = P1 at *
    generalize nfl [c * c, 0, 1] = P2 at *
    generalize arF [-c, 1] (M, 0) R = F at *
    generalize arE [-c, 1] (M, 0) R = E at *
    generalize arF [c * c, 0, 1] (0, 0) R = F2 at *
    generalize arE [c * c, 0, 1] (0, 0) R = E2 at *
    have kA := kA_of (D := D) (R := R) (F := F) (E := E) hD0 (by rw [hD1]; exact l1) (by rw [hD1]; exact l2) (by rw [hD1]; exact l3)
    clear l1 l2 l3
    have zc2 := pl
    have zc3 := al
    repeat first | (refine hK _ ?_; clear hK K) | simp only [Sv, ↓reduceIte, Nat.reduceEqDiff] | ((first | refine vm_reg (fun K hK => ?_) | refine vm_dreg (fun K hK => ?_) | refine clp_q ?_ | refine clq_mk (by assumption) ?_); simp (disch := (first | omega | assumption)) only [S1, ↓reduceIte, Nat.reduceEqDiff, Nat.reduceAdd, Nat.reduceMul, Nat.reduceDiv, AOp.sb, AOp.mut, ↓Bool.false_eq_true, beq_self_eq_true, ite_self, Nat.reduceLeDiff, Int.reduceEq, Int.reduceSub, Int.reduceAdd, Int.reduceNeg, Int.reduceLT, Int.reduceLE, Nat.reduceLT, bz_LGRoots, h, hcl, hg, ← hc, wc, wd0])
    refine vmc_share (fun s' => lk s'.env 0 = .l 1 (I64 cs) ∧ lk s'.env 1 = .i .i64 M ∧ lk s'.env 2 = .i .i64 (R : Int) ∧ lk s'.env 7 = .i .i64 (i : Int) ∧ lk s'.env 8 = .i .i64 c) ?_ ?_
    · rintro ⟨env, obs, nx⟩ ⟨v0, v1, v2, v7, v8⟩
      simp only [] at v0 v1 v2 v7 v8
      clear kA kS
      by_cases hc0 : c = 0
      · replace hc0 := tf hc0
        repeat first
          | (refine hK _ ?_; clear hK K)
          | ((first | refine vm_reg (fun K hK => ?_) | refine vm_dreg (fun K hK => ?_)); simp (disch := (first | omega | assumption)) only [S1, ↓reduceIte, Nat.reduceEqDiff, Nat.reduceAdd, Nat.reduceMul, Nat.reduceDiv, AOp.sb, AOp.mut, ↓Bool.false_eq_true, beq_self_eq_true, ite_self, Nat.reduceLeDiff, Int.reduceEq, Int.reduceSub, Int.reduceAdd, Int.reduceNeg, Int.reduceLT, Int.reduceLE, Nat.reduceLT, bz_LGRoots, v0, v1, v2, v7, v8, hc0]; refine hK _ ?_; clear hK K)
          | simp only [Sv, ↓reduceIte, Nat.reduceEqDiff]
        refine hQ _ (i + 1) hi1 hi2 ?_
        simp (disch := (first | omega | assumption)) only [Sl, Sa, Sw, ↓reduceIte, Nat.reduceEqDiff, Nat.reduceLT, List.all_nil, List.all_cons, Nat.reduceBneDiff, Nat.reduceAdd, bne_iff_ne, ne_eq, reduceCtorEq, not_false_eq_true, not_true_eq_false, Bool.and_true, Bool.true_and, and_true, true_and, and_self, i_eq, v0, v1, v2, v7, v8]
        repeat' first | rfl | omega | (simp only [List.length_append, List.length_cons, List.length_nil]; done) | apply And.intro
      · have kB := kB_of (C := C) (R := R) (F := F2) (E := E2) hC0 (by rw [hC1]; exact (hqua hc0).1) (by rw [hC1]; exact (hqua hc0).2.1) (by rw [hC1]; exact (hqua hc0).2.2)
        replace hc0 := ff hc0
        clear hqua
        rcases kT with ⟨t1, rfl⟩ | ⟨t1, rfl⟩ <;>
          rcases kB with ⟨b1, b2, -, b4, rfl, -⟩ | ⟨b1, b2, b3, b4, rfl, rfl⟩ | ⟨b1, b2, b3, b4, -, -⟩ | ⟨b1, b2, -, b4, -, -⟩ | ⟨b1, b2, -, b4, rfl, rfl⟩ | ⟨b1, b2, -, b4, b3, -⟩
        all_goals
          first | (have b5 := b3) | (have b5 : ((0 : Int) < 0) = False := ff (by decide))
          have zc4 := pq
          have zc5 := aq
          repeat first | (refine hK _ ?_; clear hK K) | simp only [Sv, ↓reduceIte, Nat.reduceEqDiff] | ((first | refine vm_reg (fun K hK => ?_) | refine vm_dreg (fun K hK => ?_) | refine clp_q ?_ | refine clq_mk (by assumption) ?_); simp (disch := (first | omega | assumption)) only [S1, ↓reduceIte, Nat.reduceEqDiff, Nat.reduceAdd, Nat.reduceMul, Nat.reduceDiv, AOp.sb, AOp.mut, ↓Bool.false_eq_true, beq_self_eq_true, ite_self, Nat.reduceLeDiff, Int.reduceEq, Int.reduceSub, Int.reduceAdd, Int.reduceNeg, Int.reduceLT, Int.reduceLE, Nat.reduceLT, bz_LGRoots, v0, v1, v2, v7, v8, hc0, wq, eq_self, t1, wc, b1, b2, b5, b4, w1, w2])
          refine hQ _ (i + 1) hi1 hi2 ?_
          simp (disch := (first | omega | assumption)) only [Sl, Sa, Sw, ↓reduceIte, Nat.reduceEqDiff, Nat.reduceLT, List.all_nil, List.all_cons, Nat.reduceBneDiff, Nat.reduceAdd, bne_iff_ne, ne_eq, reduceCtorEq, not_false_eq_true, not_true_eq_false, Bool.and_true, Bool.true_and, and_true, true_and, and_self, i_eq, v0, v1, v2, v7, v8]
          repeat' first | rfl | omega | (simp only [List.length_append, List.length_cons, List.length_nil]; done) | apply And.intro
    · intro r' ph
      rcases kA with ⟨a1, a2, a3, rfl, rfl⟩ | ⟨a1, a2, a3, rfl, rfl⟩ | ⟨a1, a2, a3, -, rfl⟩ <;> rcases kS with ⟨s1, rfl⟩ | ⟨s1, rfl⟩
      all_goals
        simp (disch := (first | omega | assumption)) only [S1, ↓reduceIte, Nat.reduceEqDiff, Nat.reduceAdd, Nat.reduceMul, Nat.reduceDiv, AOp.sb, AOp.mut, ↓Bool.false_eq_true, beq_self_eq_true, ite_self, Nat.reduceLeDiff, Int.reduceEq, Int.reduceSub, Int.reduceAdd, Int.reduceNeg, Int.reduceLT, Int.reduceLE, Nat.reduceLT, bz_LGRoots, s1]
        repeat first
          | (refine hK _ ?_; clear hK K)
          | ((first | refine vm_reg (fun K hK => ?_) | refine vm_dreg (fun K hK => ?_)); simp (disch := (first | omega | assumption)) only [S1, ↓reduceIte, Nat.reduceEqDiff, Nat.reduceAdd, Nat.reduceMul, Nat.reduceDiv, AOp.sb, AOp.mut, ↓Bool.false_eq_true, beq_self_eq_true, ite_self, Nat.reduceLeDiff, Int.reduceEq, Int.reduceSub, Int.reduceAdd, Int.reduceNeg, Int.reduceLT, Int.reduceLE, Nat.reduceLT, bz_LGRoots, wd, a1, a2, a3, s1]; refine hK _ ?_; clear hK K)
          | simp only [Sv, ↓reduceIte, Nat.reduceEqDiff]
        refine ph _ ?_
        exact ⟨rfl, rfl, rfl, rfl, rfl⟩
  · obtain rfl : i = cs.length := by omega
    repeat first
      | (refine hK _ ?_; clear hK K)
      | ((first | refine vm_reg (fun K hK => ?_) | refine vm_dreg (fun K hK => ?_)); simp (disch := (first | omega | assumption)) only [S1, ↓reduceIte, Nat.reduceEqDiff, Nat.reduceAdd, Nat.reduceMul, Nat.reduceDiv, AOp.sb, AOp.mut, ↓Bool.false_eq_true, beq_self_eq_true, ite_self, Nat.reduceLeDiff, Int.reduceEq, Int.reduceSub, Int.reduceAdd, Int.reduceNeg, Int.reduceLT, Int.reduceLE, Nat.reduceLT, bz_LGRoots, h, hcl]; refine hK _ ?_; clear hK K)
      | simp only [Sv, ↓reduceIte, Nat.reduceEqDiff]
    refine he _ _ ?_
    have zc6 := pc
    have zc7 := ac
    repeat first | (refine hK _ ?_; clear hK K) | simp only [Sv, ↓reduceIte, Nat.reduceEqDiff] | ((first | refine vm_reg (fun K hK => ?_) | refine vm_dreg (fun K hK => ?_) | refine clp_q ?_ | refine clq_mk (by assumption) ?_); simp (disch := (first | omega | assumption)) only [S1, ↓reduceIte, Nat.reduceEqDiff, Nat.reduceAdd, Nat.reduceMul, Nat.reduceDiv, AOp.sb, AOp.mut, ↓Bool.false_eq_true, beq_self_eq_true, ite_self, Nat.reduceLeDiff, Int.reduceEq, Int.reduceSub, Int.reduceAdd, Int.reduceNeg, Int.reduceLT, Int.reduceLE, Nat.reduceLT, bz_LGRoots])
    simp (disch := (first | omega | assumption)) only [retOk, retN, ret1, retF, ret1F, V.okArg, and_true, true_and, S1, ↓reduceIte, Nat.reduceEqDiff, Nat.reduceAdd, Nat.reduceMul, Nat.reduceDiv, AOp.sb, AOp.mut, ↓Bool.false_eq_true, beq_self_eq_true, ite_self, Nat.reduceLeDiff, Int.reduceEq, Int.reduceSub, Int.reduceAdd, Int.reduceNeg, Int.reduceLT, Int.reduceLE, Nat.reduceLT, bz_LGRoots]
end Go.Proofs.Ytfkldohgiifgbaa
