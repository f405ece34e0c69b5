/-
  ZzDivides: the law's walk.
-/
import Derived.Test.YtnjjeephbeoakaaDoorLZKn
import Derived.Test.YtnjjeephbeoakaaDoorZ10
import Derived.Test.YtnjjeephbeoakaaDoorZ7
import Derived.Test.YtnjjeephbeoakaaDoorLZRing
import Derived.Test.YtnjjeephbeoakaaDoorLZPowers
namespace Go.Proofs.YtnjjeephbeoakaaDoor
open Go Go.RowKit Ab
set_option linter.unusedSimpArgs false
set_option linter.unusedVariables false
set_option maxHeartbeats 10000000
theorem bz_LZDivides : type_of% (And.intro @Bool.false_and (And.intro @wi (And.intro @tn_nat (And.intro @Nat.div_one (And.intro @Nat.mul_one (And.intro @W_len (And.intro @W_nf (And.intro @W_cell (And.intro @W_nil (And.intro @W_get (@nf_g))))))))))) := And.intro @Bool.false_and (And.intro @wi (And.intro @tn_nat (And.intro @Nat.div_one (And.intro @Nat.mul_one (And.intro @W_len (And.intro @W_nf (And.intro @W_cell (And.intro @W_nil (And.intro @W_get (@nf_g))))))))))

theorem zexactG {v w : V} {x y : Int} {m : Nat} (hm : m ≤ 100000000) (hv : ZV v x m) (hw : ZV w y m) {q e : Int} (h1 : zxQ x y = q) (h2 : zxE x y = e) : AFun Tryd.prog J0 21 [v, w] (.t [zN q, .i .i64 e]) := by
  obtain ⟨s, a, rfl, ha, la, rfl⟩ := hv
  obtain ⟨t, b, rfl, hb, lb, rfl⟩ := hw
  rw [← h1, ← h2]
  exact zexact_spec s t a b ha hb (by omega) (by omega)
theorem zfloorG {v w : V} {x y : Int} {m : Nat} (hm : m ≤ 100000000) (hv : ZV v x m) (hw : ZV w y m) : AFun Tryd.prog J0 15 [v, w] (.t [zN (x.fdiv y), .i .i64 (ze y)]) := by
  obtain ⟨s, a, rfl, ha, la, rfl⟩ := hv
  obtain ⟨t, b, rfl, hb, lb, rfl⟩ := hw
  exact zfloor_spec s t a b ha hb (by omega) (by omega)
theorem zshlG {v : V} {x : Int} {m n : Nat} (hm : m ≤ 100000000) (hv : ZV v x m) (hn : n ≤ 1048576) {r : Int} (e : x * 2 ^ n = r) : AFun Tryd.prog J0 11 [v, .i .i64 (n : Int)] (.t [zN r, .i .i64 0]) := by
  obtain ⟨s, a, rfl, ha, la, rfl⟩ := hv
  have := zshl_spec s a (n : Int) ha (by omega)
  rwa [show zlV (zv s a) (n : Int) = zv s a * 2 ^ n from if_neg (by omega), show zlE (n : Int) = 0 from if_neg (by omega), e] at this
theorem zshrG {v : V} {x : Int} {m n : Nat} (hm : m ≤ 100000000) (hv : ZV v x m) (hn : n ≤ 1048576) {r : Int} (e : x.fdiv (2 ^ n) = r) : AFun Tryd.prog J0 13 [v, .i .i64 (n : Int)] (.t [zN r, .i .i64 0]) := by
  obtain ⟨s, a, rfl, ha, la, rfl⟩ := hv
  have := zshr_spec s a (n : Int) ha (by omega) (by omega)
  rwa [show zrV (zv s a) (n : Int) = (zv s a).fdiv (2 ^ n) from if_neg (by omega), show zrE (n : Int) = 0 from if_neg (by omega), e] at this
theorem znatN (u : Nat) {m : Nat} (h : u < B ^ m) (hm : m ≤ 100000000) : AFun Tryd.prog J0 22 [.b false, .l 1 (W (dg B u))] (zN (u : Int)) := by
  have := znat_spec false (dg B u) (Wd_dg _) (by have := dlen h; omega)
  rwa [show zv false (dg B u) = (u : Int) from by unfold zv zI; rw [nv_dgB]; rfl] at this
theorem zabsG {v : V} {x : Int} {m : Nat} (hm : m ≤ 100000000) (hv : ZV v x m) : AFun Tryd.prog J0 23 [v] (.l 1 (W (dg B x.natAbs))) := by
  obtain ⟨s, a, rfl, ha, la, rfl⟩ := hv
  rw [zv_abs]
  exact (zabs_spec s a ha (by omega)).frozen
theorem cz_self (x : Int) : cz x x = 0 := by unfold cz; rw [if_neg (by omega), if_pos rfl]
theorem cz_lt {x y : Int} (h : x < y) : cz x y = -1 := by unfold cz; rw [if_pos h]
theorem cz_le {x y : Int} (h : x ≤ y) : ¬ 0 < cz x y := by
  unfold cz
  split
  · decide
  · split
    · decide
    · exfalso; omega
theorem cz_ge {x y : Int} (h : y ≤ x) : ¬ cz x y < 0 := by
  unfold cz
  rw [if_neg (by omega)]
  split <;> decide
theorem cz_gt {x y : Int} (h : y < x) : cz x y = 1 := by rw [cz_swap, cz_lt h]; rfl
theorem floor_bnd (x y : Int) (h : y ≠ 0) : (0 < y → x.fdiv y * y ≤ x ∧ x < (x.fdiv y + 1) * y) ∧ (y < 0 → x ≤ x.fdiv y * y ∧ (x.fdiv y + 1) * y < x) := by
  have e := Int.mul_fdiv_add_fmod x y
  rw [Int.mul_comm] at e
  rw [Int.add_mul, Int.one_mul]
  refine ⟨fun hp => ?_, fun hn => ?_⟩
  · have h1 := Int.fmod_nonneg_of_pos x hp
    have h2 := Int.fmod_lt_of_pos x hp
    omega
  · have h3 : x.fmod y = -((-x).fmod (-y)) := by rw [Int.neg_fmod_neg, Int.neg_neg]
    have h1 := Int.fmod_nonneg_of_pos (-x) (show 0 < -y by omega)
    have h2 := Int.fmod_lt_of_pos (-x) (show 0 < -y by omega)
    omega
theorem gf2 (p q : Bool × List Nat) : gf [p, q] = Nat.gcd (nv B p.2) (nv B q.2) := by
  show Nat.gcd (Nat.gcd 0 _) _ = _
  rw [Nat.gcd_zero_left]
theorem gf3 (p q : Bool × List Nat) : gf [p, q, p] = Nat.gcd (nv B p.2) (nv B q.2) := by
  show Nat.gcd (Nat.gcd (Nat.gcd 0 _) _) _ = _
  rw [Nat.gcd_zero_left, Nat.gcd_comm, ← Nat.gcd_assoc, Nat.gcd_self]
theorem tdiv_nab {x : Int} {g : Nat} : (x.tdiv (g : Int)).natAbs = x.natAbs / g := by rw [Int.natAbs_tdiv, Int.natAbs_natCast]; rfl
theorem mod150 (n : Int) (h1 : -9223372036854775808 ≤ n) (h2 : n < 9223372036854775808) : ∃ m : Nat, m < 150 ∧ IntKind.i64.wrap ((IntKind.u64.wrap n).tmod 150) = (m : Int) := by
  obtain ⟨u, hu⟩ : ∃ u : Nat, IntKind.u64.wrap n = (u : Int) := ⟨(IntKind.u64.wrap n).toNat, by rw [IntKind.wrap_u64]; omega⟩
  refine ⟨u % 150, Nat.mod_lt _ (by decide), ?_⟩
  rw [hu, show ((u : Nat) : Int).tmod 150 = ((u % 150 : Nat) : Int) from rfl]
  exact wi ⟨by omega, by have := Nat.mod_lt u (show 0 < 150 by decide); omega⟩
theorem sgz_n0 {z : Int} (h : z ≠ 0) : ¬ sgz z = 0 := by
  unfold sgz
  split
  · decide
  · split
    · decide
    · exfalso; omega
theorem gcd_co {m n : Nat} (h : 0 < Nat.gcd m n) : Nat.gcd (m / Nat.gcd m n) (n / Nat.gcd m n) = 1 := Nat.coprime_div_gcd_div_gcd h
theorem sg_tmod {x y : Int} (h : x.tmod y ≠ 0) : sgz (x.tmod y) = sgz x := by
  rcases Int.lt_or_gt_of_ne h with h2 | h2
  · have : x < 0 := by
      rcases Int.lt_or_le x 0 with h3 | h3
      · exact h3
      · have := Int.tmod_nonneg y h3; omega
    rw [show sgz (x.tmod y) = -1 from if_pos h2, show sgz x = -1 from if_pos this]
  · have : 0 < x := by
      rcases Int.lt_or_le 0 x with h3 | h3
      · exact h3
      · have h4 : (-x).tmod y = -(x.tmod y) := Int.neg_tmod x y
        have := Int.tmod_nonneg y (show 0 ≤ -x by omega); omega
    rw [show sgz (x.tmod y) = 1 from (if_neg (by omega)).trans (if_pos h2), show sgz x = 1 from (if_neg (by omega)).trans (if_pos this)]
theorem emod_tmod {x y : Int} (h : y ≠ 0) : x.emod y = 0 ↔ x.tmod y = 0 := by
  show x % y = 0 ↔ _
  rw [← Int.dvd_iff_emod_eq_zero, ← Int.dvd_iff_tmod_eq_zero]
-- surd/surdlaw07.ZzDivides
def a4 : AC := .seq (.reg [⟨some 3, none, .bx 25 (.t 0)⟩, 
      ⟨some 4, none, .bx 25 (.t 1)⟩, 
      ⟨some 6, none, .mv (.k (.b false))⟩])
  (.seq (.seq (.reg [⟨some 38, none, .call 5 []⟩, 
        ⟨some 39, none, .un .not (.t 38)⟩])
    (.cond (.t 39)
    (.seq (.reg [⟨some 6, none, .mv (.k (.b false))⟩])
      (.ret))
    (.skip)))
  (.seq (.reg [⟨some 40, none, .mv (.t 2)⟩, 
      ⟨some 41, none, .cvt .u64 (.t 40)⟩, 
      ⟨some 42, none, .bin .rem (.t 41) (.k (.i .u64 150))⟩, 
      ⟨some 43, none, .cvt .i64 (.t 42)⟩, 
      ⟨some 2, none, .mv (.t 43)⟩])
  (.seq (.reg [⟨some 45, none, .call 14 [(1, (.k (.i .i64 1)))]⟩, 
      ⟨some 46, none, .mv (.t 2)⟩, 
      ⟨some 47, none, .call 11 [(1, (.t 45)), (1, (.t 46))]⟩, 
      ⟨some 44, none, .mv (.t 47)⟩, 
      ⟨some 48, none, .ext (.t 44) 0⟩, 
      ⟨some 49, none, .ext (.t 44) 1⟩, 
      ⟨some 7, none, .al 25 [(.b false), (.l 1 [])]⟩, 
      ⟨none, none, .st 2 (.t 7) (.t 48)⟩, 
      ⟨some 8, none, .mv (.t 49)⟩])
  (.seq (.reg [⟨some 51, none, .ld true 2 (.t 3)⟩, 
      ⟨some 52, none, .mv (.t 2)⟩, 
      ⟨some 53, none, .call 13 [(1, (.t 51)), (1, (.t 52))]⟩, 
      ⟨some 50, none, .mv (.t 53)⟩, 
      ⟨some 54, none, .ext (.t 50) 0⟩, 
      ⟨some 55, none, .ext (.t 50) 1⟩, 
      ⟨some 9, none, .al 25 [(.b false), (.l 1 [])]⟩, 
      ⟨none, none, .st 2 (.t 9) (.t 54)⟩, 
      ⟨some 10, none, .mv (.t 55)⟩])
  (.seq (.reg [⟨some 57, none, .ld true 2 (.t 3)⟩, 
      ⟨some 58, none, .ld true 2 (.t 7)⟩, 
      ⟨some 59, none, .call 15 [(1, (.t 57)), (1, (.t 58))]⟩, 
      ⟨some 56, none, .mv (.t 59)⟩, 
      ⟨some 60, none, .ext (.t 56) 0⟩, 
      ⟨some 61, none, .ext (.t 56) 1⟩, 
      ⟨some 11, none, .al 25 [(.b false), (.l 1 [])]⟩, 
      ⟨none, none, .st 2 (.t 11) (.t 60)⟩, 
      ⟨some 12, none, .mv (.t 61)⟩])
  (.seq (.reg [⟨some 63, none, .ld true 2 (.t 3)⟩, 
      ⟨some 64, none, .mv (.t 2)⟩, 
      ⟨some 65, none, .call 11 [(1, (.t 63)), (1, (.t 64))]⟩, 
      ⟨some 62, none, .mv (.t 65)⟩, 
      ⟨some 66, none, .ext (.t 62) 0⟩, 
      ⟨some 67, none, .ext (.t 62) 1⟩, 
      ⟨some 13, none, .al 25 [(.b false), (.l 1 [])]⟩, 
      ⟨none, none, .st 2 (.t 13) (.t 66)⟩, 
      ⟨some 14, none, .mv (.t 67)⟩])
  (.seq (.reg [⟨some 69, none, .ld true 2 (.t 13)⟩, 
      ⟨some 70, none, .mv (.t 2)⟩, 
      ⟨some 71, none, .call 13 [(1, (.t 69)), (1, (.t 70))]⟩, 
      ⟨some 68, none, .mv (.t 71)⟩, 
      ⟨some 72, none, .ext (.t 68) 0⟩, 
      ⟨some 73, none, .ext (.t 68) 1⟩, 
      ⟨some 15, none, .al 25 [(.b false), (.l 1 [])]⟩, 
      ⟨none, none, .st 2 (.t 15) (.t 72)⟩, 
      ⟨some 16, none, .mv (.t 73)⟩])
  (.seq (.seq (.dreg [⟨some 74, none, .mv (.t 8)⟩, 
        ⟨some 75, none, .bin .neq (.t 74) (.k (.i .i64 0))⟩, 
        ⟨some 76, none, .mv (.t 75)⟩, 
        ⟨some 77, some (76, false), .mv (.t 10)⟩, 
        ⟨some 78, some (76, false), .bin .neq (.t 77) (.k (.i .i64 0))⟩, 
        ⟨some 79, none, .pick (.t 76) (.k (.b true)) (.t 78)⟩, 
        ⟨some 80, none, .mv (.t 79)⟩, 
        ⟨some 81, some (80, false), .mv (.t 12)⟩, 
        ⟨some 82, some (80, false), .bin .neq (.t 81) (.k (.i .i64 0))⟩, 
        ⟨some 83, none, .pick (.t 80) (.k (.b true)) (.t 82)⟩, 
        ⟨some 84, none, .mv (.t 83)⟩, 
        ⟨some 85, some (84, false), .mv (.t 14)⟩, 
        ⟨some 86, some (84, false), .bin .neq (.t 85) (.k (.i .i64 0))⟩, 
        ⟨some 87, none, .pick (.t 84) (.k (.b true)) (.t 86)⟩, 
        ⟨some 88, none, .mv (.t 87)⟩, 
        ⟨some 89, some (88, false), .mv (.t 16)⟩, 
        ⟨some 90, some (88, false), .bin .neq (.t 89) (.k (.i .i64 0))⟩, 
        ⟨some 91, none, .pick (.t 88) (.k (.b true)) (.t 90)⟩, 
        ⟨some 92, none, .mv (.t 91)⟩, 
        ⟨some 93, some (92, false), .ld true 2 (.t 9)⟩, 
        ⟨some 94, some (92, false), .ld true 2 (.t 11)⟩, 
        ⟨some 95, some (92, false), .call 9 [(1, (.t 93)), (1, (.t 94))]⟩, 
        ⟨some 96, some (92, false), .un .not (.t 95)⟩, 
        ⟨some 97, none, .pick (.t 92) (.k (.b true)) (.t 96)⟩, 
        ⟨some 98, none, .mv (.t 97)⟩, 
        ⟨some 99, some (98, false), .ld true 2 (.t 13)⟩, 
        ⟨some 100, some (98, false), .ld true 2 (.t 3)⟩, 
        ⟨some 101, some (98, false), .ld true 2 (.t 7)⟩, 
        ⟨some 102, some (98, false), .call 16 [(1, (.t 100)), (1, (.t 101))]⟩, 
        ⟨some 103, some (98, false), .call 9 [(1, (.t 99)), (1, (.t 102))]⟩, 
        ⟨some 104, some (98, false), .un .not (.t 103)⟩, 
        ⟨some 105, none, .pick (.t 98) (.k (.b true)) (.t 104)⟩, 
        ⟨some 106, none, .mv (.t 105)⟩, 
        ⟨some 107, some (106, false), .ld true 2 (.t 15)⟩, 
        ⟨some 108, some (106, false), .ld true 2 (.t 3)⟩, 
        ⟨some 109, some (106, false), .call 17 [(1, (.t 108))]⟩, 
        ⟨some 110, some (106, false), .call 9 [(1, (.t 107)), (1, (.t 109))]⟩, 
        ⟨some 111, some (106, false), .un .not (.t 110)⟩, 
        ⟨some 112, none, .pick (.t 106) (.k (.b true)) (.t 111)⟩])
    (.cond (.t 112)
    (.seq (.reg [⟨some 6, none, .mv (.k (.b false))⟩])
      (.ret))
    (.skip)))
  (.seq (.seq (.reg [⟨some 113, none, .ld true 2 (.t 4)⟩, 
        ⟨some 114, none, .call 18 [(1, (.t 113))]⟩, 
        ⟨some 115, none, .bin .eql (.t 114) (.k (.i .i64 0))⟩])
    (.cond (.t 115)
    (.seq (.reg [⟨some 117, none, .ld true 2 (.t 3)⟩, 
          ⟨some 118, none, .ld true 2 (.t 4)⟩, 
          ⟨some 119, none, .call 19 [(1, (.t 117)), (1, (.t 118))]⟩, 
          ⟨some 116, none, .mv (.t 119)⟩, 
          ⟨some 120, none, .ext (.t 116) 0⟩, 
          ⟨some 121, none, .ext (.t 116) 1⟩, 
          ⟨some 122, none, .ext (.t 116) 2⟩, 
          ⟨some 17, none, .al 25 [(.b false), (.l 1 [])]⟩, 
          ⟨none, none, .st 2 (.t 17) (.t 120)⟩, 
          ⟨some 18, none, .mv (.t 121)⟩, 
          ⟨some 19, none, .mv (.t 122)⟩])
      (.seq (.reg [⟨some 124, none, .ld true 2 (.t 3)⟩, 
          ⟨some 125, none, .ld true 2 (.t 4)⟩, 
          ⟨some 126, none, .call 20 [(1, (.t 124)), (1, (.t 125))]⟩, 
          ⟨some 123, none, .mv (.t 126)⟩, 
          ⟨some 127, none, .ext (.t 123) 0⟩, 
          ⟨some 128, none, .ext (.t 123) 1⟩, 
          ⟨some 129, none, .ext (.t 123) 2⟩, 
          ⟨some 20, none, .al 25 [(.b false), (.l 1 [])]⟩, 
          ⟨some 21, none, .al 25 [(.b false), (.l 1 [])]⟩, 
          ⟨none, none, .st 2 (.t 20) (.t 127)⟩, 
          ⟨none, none, .st 2 (.t 21) (.t 128)⟩, 
          ⟨some 22, none, .mv (.t 129)⟩])
      (.seq (.reg [⟨some 131, none, .ld true 2 (.t 3)⟩, 
          ⟨some 132, none, .ld true 2 (.t 4)⟩, 
          ⟨some 133, none, .call 21 [(1, (.t 131)), (1, (.t 132))]⟩, 
          ⟨some 130, none, .mv (.t 133)⟩, 
          ⟨some 134, none, .ext (.t 130) 0⟩, 
          ⟨some 135, none, .ext (.t 130) 1⟩, 
          ⟨some 23, none, .al 25 [(.b false), (.l 1 [])]⟩, 
          ⟨none, none, .st 2 (.t 23) (.t 134)⟩, 
          ⟨some 24, none, .mv (.t 135)⟩])
      (.seq (.reg [⟨some 136, none, .mv (.t 19)⟩, 
          ⟨some 137, none, .bin .eql (.t 136) (.k (.i .i64 1))⟩, 
          ⟨some 138, none, .mv (.t 137)⟩, 
          ⟨some 139, some (138, true), .mv (.t 22)⟩, 
          ⟨some 140, some (138, true), .bin .eql (.t 139) (.k (.i .i64 1))⟩, 
          ⟨some 141, none, .pick (.t 138) (.t 140) (.k (.b false))⟩, 
          ⟨some 142, none, .mv (.t 141)⟩, 
          ⟨some 143, some (142, true), .mv (.t 24)⟩, 
          ⟨some 144, some (142, true), .bin .eql (.t 143) (.k (.i .i64 1))⟩, 
          ⟨some 145, none, .pick (.t 142) (.t 144) (.k (.b false))⟩, 
          ⟨some 6, none, .mv (.t 145)⟩])
      (.ret)))))
    (.skip)))
  (.seq (.reg [⟨some 147, none, .ld true 2 (.t 3)⟩, 
      ⟨some 148, none, .ld true 2 (.t 4)⟩, 
      ⟨some 149, none, .call 19 [(1, (.t 147)), (1, (.t 148))]⟩, 
      ⟨some 146, none, .mv (.t 149)⟩, 
      ⟨some 150, none, .ext (.t 146) 0⟩, 
      ⟨some 151, none, .ext (.t 146) 1⟩, 
      ⟨some 152, none, .ext (.t 146) 2⟩, 
      ⟨some 25, none, .al 25 [(.b false), (.l 1 [])]⟩, 
      ⟨none, none, .st 2 (.t 25) (.t 150)⟩, 
      ⟨some 26, none, .mv (.t 151)⟩, 
      ⟨some 8, none, .mv (.t 152)⟩])
  (.seq (.reg [⟨some 154, none, .ld true 2 (.t 3)⟩, 
      ⟨some 155, none, .ld true 2 (.t 4)⟩, 
      ⟨some 156, none, .call 20 [(1, (.t 154)), (1, (.t 155))]⟩, 
      ⟨some 153, none, .mv (.t 156)⟩, 
      ⟨some 157, none, .ext (.t 153) 0⟩, 
      ⟨some 158, none, .ext (.t 153) 1⟩, 
      ⟨some 159, none, .ext (.t 153) 2⟩, 
      ⟨some 27, none, .al 25 [(.b false), (.l 1 [])]⟩, 
      ⟨some 28, none, .al 25 [(.b false), (.l 1 [])]⟩, 
      ⟨none, none, .st 2 (.t 27) (.t 157)⟩, 
      ⟨none, none, .st 2 (.t 28) (.t 158)⟩, 
      ⟨some 10, none, .mv (.t 159)⟩])
  (.seq (.reg [⟨some 161, none, .ld true 2 (.t 3)⟩, 
      ⟨some 162, none, .ld true 2 (.t 4)⟩, 
      ⟨some 163, none, .call 15 [(1, (.t 161)), (1, (.t 162))]⟩, 
      ⟨some 160, none, .mv (.t 163)⟩, 
      ⟨some 164, none, .ext (.t 160) 0⟩, 
      ⟨some 165, none, .ext (.t 160) 1⟩, 
      ⟨none, none, .st 2 (.t 11) (.t 164)⟩, 
      ⟨some 12, none, .mv (.t 165)⟩])
  (.seq (.reg [⟨some 166, none, .mv (.t 26)⟩, 
      ⟨some 167, none, .call 22 [(1, (.k (.b false))), (1, (.t 166))]⟩, 
      ⟨some 29, none, .al 25 [(.b false), (.l 1 [])]⟩, 
      ⟨none, none, .st 2 (.t 29) (.t 167)⟩])
  (.seq (.reg [⟨some 168, none, .ld true 2 (.t 4)⟩, 
      ⟨some 169, none, .call 23 [(1, (.t 168))]⟩, 
      ⟨some 170, none, .call 22 [(1, (.k (.b false))), (1, (.t 169))]⟩, 
      ⟨some 30, none, .al 25 [(.b false), (.l 1 [])]⟩, 
      ⟨none, none, .st 2 (.t 30) (.t 170)⟩])
  (.seq (.seq (.dreg [⟨some 171, none, .mv (.t 8)⟩, 
        ⟨some 172, none, .bin .neq (.t 171) (.k (.i .i64 0))⟩, 
        ⟨some 173, none, .mv (.t 172)⟩, 
        ⟨some 174, some (173, false), .mv (.t 10)⟩, 
        ⟨some 175, some (173, false), .bin .neq (.t 174) (.k (.i .i64 0))⟩, 
        ⟨some 176, none, .pick (.t 173) (.k (.b true)) (.t 175)⟩, 
        ⟨some 177, none, .mv (.t 176)⟩, 
        ⟨some 178, some (177, false), .mv (.t 12)⟩, 
        ⟨some 179, some (177, false), .bin .neq (.t 178) (.k (.i .i64 0))⟩, 
        ⟨some 180, none, .pick (.t 177) (.k (.b true)) (.t 179)⟩, 
        ⟨some 181, none, .mv (.t 180)⟩, 
        ⟨some 182, some (181, false), .ld true 2 (.t 25)⟩, 
        ⟨some 183, some (181, false), .ld true 2 (.t 4)⟩, 
        ⟨some 184, some (181, false), .call 16 [(1, (.t 182)), (1, (.t 183))]⟩, 
        ⟨some 185, some (181, false), .ld true 2 (.t 29)⟩, 
        ⟨some 186, some (181, false), .call 25 [(1, (.t 184)), (1, (.t 185))]⟩, 
        ⟨some 187, some (181, false), .ld true 2 (.t 3)⟩, 
        ⟨some 188, some (181, false), .call 24 [(1, (.t 186)), (1, (.t 187))]⟩, 
        ⟨some 189, some (181, false), .bin .neq (.t 188) (.k (.i .i64 0))⟩, 
        ⟨some 190, none, .pick (.t 181) (.k (.b true)) (.t 189)⟩, 
        ⟨some 191, none, .mv (.t 190)⟩, 
        ⟨some 192, some (191, false), .ld true 2 (.t 29)⟩, 
        ⟨some 193, some (191, false), .ld true 2 (.t 30)⟩, 
        ⟨some 194, some (191, false), .call 24 [(1, (.t 192)), (1, (.t 193))]⟩, 
        ⟨some 195, some (191, false), .bin .geq (.t 194) (.k (.i .i64 0))⟩, 
        ⟨some 196, none, .pick (.t 191) (.k (.b true)) (.t 195)⟩, 
        ⟨some 197, none, .mv (.t 196)⟩, 
        ⟨some 198, some (197, false), .ld true 2 (.t 29)⟩, 
        ⟨some 199, some (197, false), .call 18 [(1, (.t 198))]⟩, 
        ⟨some 200, some (197, false), .bin .lss (.t 199) (.k (.i .i64 0))⟩, 
        ⟨some 201, none, .pick (.t 197) (.k (.b true)) (.t 200)⟩])
    (.cond (.t 201)
    (.seq (.reg [⟨some 6, none, .mv (.k (.b false))⟩])
      (.ret))
    (.skip)))
  (.seq (.seq (.dreg [⟨some 202, none, .ld true 2 (.t 27)⟩, 
        ⟨some 203, none, .ld true 2 (.t 4)⟩, 
        ⟨some 204, none, .call 16 [(1, (.t 202)), (1, (.t 203))]⟩, 
        ⟨some 205, none, .ld true 2 (.t 28)⟩, 
        ⟨some 206, none, .call 25 [(1, (.t 204)), (1, (.t 205))]⟩, 
        ⟨some 207, none, .ld true 2 (.t 3)⟩, 
        ⟨some 208, none, .call 24 [(1, (.t 206)), (1, (.t 207))]⟩, 
        ⟨some 209, none, .bin .neq (.t 208) (.k (.i .i64 0))⟩, 
        ⟨some 210, none, .mv (.t 209)⟩, 
        ⟨some 211, some (210, false), .ld true 2 (.t 28)⟩, 
        ⟨some 212, some (210, false), .call 18 [(1, (.t 211))]⟩, 
        ⟨some 213, some (210, false), .bin .neq (.t 212) (.k (.i .i64 0))⟩, 
        ⟨some 214, some (210, false), .mv (.t 213)⟩, 
        ⟨some 215, some (214, true), .ld true 2 (.t 28)⟩, 
        ⟨some 216, some (214, true), .call 18 [(1, (.t 215))]⟩, 
        ⟨some 217, some (214, true), .ld true 2 (.t 3)⟩, 
        ⟨some 218, some (214, true), .call 18 [(1, (.t 217))]⟩, 
        ⟨some 219, some (214, true), .bin .neq (.t 216) (.t 218)⟩, 
        ⟨some 220, some (210, false), .pick (.t 214) (.t 219) (.k (.b false))⟩, 
        ⟨some 221, none, .pick (.t 210) (.k (.b true)) (.t 220)⟩, 
        ⟨some 222, none, .mv (.t 221)⟩, 
        ⟨some 223, some (222, false), .ld true 2 (.t 28)⟩, 
        ⟨some 224, some (222, false), .call 23 [(1, (.t 223))]⟩, 
        ⟨some 225, some (222, false), .call 22 [(1, (.k (.b false))), (1, (.t 224))]⟩, 
        ⟨some 226, some (222, false), .ld true 2 (.t 30)⟩, 
        ⟨some 227, some (222, false), .call 24 [(1, (.t 225)), (1, (.t 226))]⟩, 
        ⟨some 228, some (222, false), .bin .geq (.t 227) (.k (.i .i64 0))⟩, 
        ⟨some 229, none, .pick (.t 222) (.k (.b true)) (.t 228)⟩])
    (.cond (.t 229)
    (.seq (.reg [⟨some 6, none, .mv (.k (.b false))⟩])
      (.ret))
    (.skip)))
  (.seq (.dreg [⟨some 230, none, .ld true 2 (.t 11)⟩, 
      ⟨some 231, none, .ld true 2 (.t 4)⟩, 
      ⟨some 232, none, .call 16 [(1, (.t 230)), (1, (.t 231))]⟩, 
      ⟨some 233, none, .ld true 2 (.t 11)⟩, 
      ⟨some 234, none, .call 14 [(1, (.k (.i .i64 1)))]⟩, 
      ⟨some 235, none, .call 25 [(1, (.t 233)), (1, (.t 234))]⟩, 
      ⟨some 236, none, .ld true 2 (.t 4)⟩, 
      ⟨some 237, none, .call 16 [(1, (.t 235)), (1, (.t 236))]⟩, 
      ⟨some 31, none, .al 25 [(.b false), (.l 1 [])]⟩, 
      ⟨some 32, none, .al 25 [(.b false), (.l 1 [])]⟩, 
      ⟨none, none, .st 2 (.t 31) (.t 232)⟩, 
      ⟨none, none, .st 2 (.t 32) (.t 237)⟩])
  (.seq (.seq (.reg [⟨some 238, none, .ld true 2 (.t 4)⟩, 
        ⟨some 239, none, .call 18 [(1, (.t 238))]⟩, 
        ⟨some 240, none, .bin .gtr (.t 239) (.k (.i .i64 0))⟩, 
        ⟨some 241, none, .mv (.t 240)⟩, 
        ⟨some 242, some (241, true), .ld true 2 (.t 31)⟩, 
        ⟨some 243, some (241, true), .ld true 2 (.t 3)⟩, 
        ⟨some 244, some (241, true), .call 24 [(1, (.t 242)), (1, (.t 243))]⟩, 
        ⟨some 245, some (241, true), .bin .gtr (.t 244) (.k (.i .i64 0))⟩, 
        ⟨some 246, some (241, true), .mv (.t 245)⟩, 
        ⟨some 247, some (246, false), .ld true 2 (.t 32)⟩, 
        ⟨some 248, some (246, false), .ld true 2 (.t 3)⟩, 
        ⟨some 249, some (246, false), .call 24 [(1, (.t 247)), (1, (.t 248))]⟩, 
        ⟨some 250, some (246, false), .bin .leq (.t 249) (.k (.i .i64 0))⟩, 
        ⟨some 251, some (241, true), .pick (.t 246) (.k (.b true)) (.t 250)⟩, 
        ⟨some 252, none, .pick (.t 241) (.t 251) (.k (.b false))⟩, 
        ⟨some 253, none, .mv (.t 252)⟩, 
        ⟨some 254, some (253, false), .ld true 2 (.t 4)⟩, 
        ⟨some 255, some (253, false), .call 18 [(1, (.t 254))]⟩, 
        ⟨some 256, some (253, false), .bin .lss (.t 255) (.k (.i .i64 0))⟩, 
        ⟨some 257, some (253, false), .mv (.t 256)⟩, 
        ⟨some 258, some (257, true), .ld true 2 (.t 31)⟩, 
        ⟨some 259, some (257, true), .ld true 2 (.t 3)⟩, 
        ⟨some 260, some (257, true), .call 24 [(1, (.t 258)), (1, (.t 259))]⟩, 
        ⟨some 261, some (257, true), .bin .lss (.t 260) (.k (.i .i64 0))⟩, 
        ⟨some 262, some (257, true), .mv (.t 261)⟩, 
        ⟨some 263, some (262, false), .ld true 2 (.t 32)⟩, 
        ⟨some 264, some (262, false), .ld true 2 (.t 3)⟩, 
        ⟨some 265, some (262, false), .call 24 [(1, (.t 263)), (1, (.t 264))]⟩, 
        ⟨some 266, some (262, false), .bin .geq (.t 265) (.k (.i .i64 0))⟩, 
        ⟨some 267, some (257, true), .pick (.t 262) (.k (.b true)) (.t 266)⟩, 
        ⟨some 268, some (253, false), .pick (.t 257) (.t 267) (.k (.b false))⟩, 
        ⟨some 269, none, .pick (.t 253) (.k (.b true)) (.t 268)⟩])
    (.cond (.t 269)
    (.seq (.reg [⟨some 6, none, .mv (.k (.b false))⟩])
      (.ret))
    (.skip)))
  (.seq (.dreg [⟨some 271, none, .ld true 2 (.t 3)⟩, 
      ⟨some 272, none, .ld true 2 (.t 4)⟩, 
      ⟨some 273, none, .call 16 [(1, (.t 271)), (1, (.t 272))]⟩, 
      ⟨some 274, none, .ld true 2 (.t 4)⟩, 
      ⟨some 275, none, .call 21 [(1, (.t 273)), (1, (.t 274))]⟩, 
      ⟨some 270, none, .mv (.t 275)⟩, 
      ⟨some 276, none, .ext (.t 270) 0⟩, 
      ⟨some 277, none, .ext (.t 270) 1⟩, 
      ⟨some 33, none, .al 25 [(.b false), (.l 1 [])]⟩, 
      ⟨none, none, .st 2 (.t 33) (.t 276)⟩, 
      ⟨some 8, none, .mv (.t 277)⟩])
  (.seq (.reg [⟨some 279, none, .ld true 2 (.t 3)⟩, 
      ⟨some 280, none, .ld true 2 (.t 4)⟩, 
      ⟨some 281, none, .call 21 [(1, (.t 279)), (1, (.t 280))]⟩, 
      ⟨some 278, none, .mv (.t 281)⟩, 
      ⟨some 282, none, .ext (.t 278) 0⟩, 
      ⟨some 283, none, .ext (.t 278) 1⟩, 
      ⟨some 10, none, .mv (.t 283)⟩])
  (.seq (.seq (.dreg [⟨some 284, none, .mv (.t 8)⟩, 
        ⟨some 285, none, .bin .neq (.t 284) (.k (.i .i64 0))⟩, 
        ⟨some 286, none, .mv (.t 285)⟩, 
        ⟨some 287, some (286, false), .ld true 2 (.t 33)⟩, 
        ⟨some 288, some (286, false), .ld true 2 (.t 3)⟩, 
        ⟨some 289, some (286, false), .call 17 [(1, (.t 288))]⟩, 
        ⟨some 290, some (286, false), .call 9 [(1, (.t 287)), (1, (.t 289))]⟩, 
        ⟨some 291, some (286, false), .un .not (.t 290)⟩, 
        ⟨some 292, none, .pick (.t 286) (.k (.b true)) (.t 291)⟩, 
        ⟨some 293, none, .mv (.t 292)⟩, 
        ⟨some 294, some (293, false), .mv (.t 10)⟩, 
        ⟨some 295, some (293, false), .bin .eql (.t 294) (.k (.i .i64 0))⟩, 
        ⟨some 296, some (293, false), .mv (.t 26)⟩, 
        ⟨some 297, some (293, false), .len (.t 296)⟩, 
        ⟨some 298, some (293, false), .bin .eql (.t 297) (.k (.i .i64 0))⟩, 
        ⟨some 299, some (293, false), .eqb true (.t 295) (.t 298)⟩, 
        ⟨some 300, none, .pick (.t 293) (.k (.b true)) (.t 299)⟩])
    (.cond (.t 300)
    (.seq (.reg [⟨some 6, none, .mv (.k (.b false))⟩])
      (.ret))
    (.skip)))
  (.seq (.reg [⟨some 301, none, .ld true 2 (.t 3)⟩, 
      ⟨some 302, none, .ld true 2 (.t 4)⟩, 
      ⟨some 303, none, .bsl 25 2 2 [(.b false), (.l 1 []), (.b false), (.l 1 [])] [(0, (.t 301)), (1, (.t 302))]⟩, 
      ⟨some 304, none, .call 26 [(2, (.t 303))]⟩, 
      ⟨some 305, none, .call 22 [(1, (.k (.b false))), (1, (.t 304))]⟩, 
      ⟨some 34, none, .al 25 [(.b false), (.l 1 [])]⟩, 
      ⟨none, none, .st 2 (.t 34) (.t 305)⟩])
  (.seq (.reg [⟨some 307, none, .ld true 2 (.t 3)⟩, 
      ⟨some 308, none, .ld true 2 (.t 34)⟩, 
      ⟨some 309, none, .call 21 [(1, (.t 307)), (1, (.t 308))]⟩, 
      ⟨some 306, none, .mv (.t 309)⟩, 
      ⟨some 310, none, .ext (.t 306) 0⟩, 
      ⟨some 311, none, .ext (.t 306) 1⟩, 
      ⟨some 35, none, .al 25 [(.b false), (.l 1 [])]⟩, 
      ⟨none, none, .st 2 (.t 35) (.t 310)⟩, 
      ⟨some 8, none, .mv (.t 311)⟩])
  (.seq (.reg [⟨some 313, none, .ld true 2 (.t 4)⟩, 
      ⟨some 314, none, .ld true 2 (.t 34)⟩, 
      ⟨some 315, none, .call 21 [(1, (.t 313)), (1, (.t 314))]⟩, 
      ⟨some 312, none, .mv (.t 315)⟩, 
      ⟨some 316, none, .ext (.t 312) 0⟩, 
      ⟨some 317, none, .ext (.t 312) 1⟩, 
      ⟨some 36, none, .al 25 [(.b false), (.l 1 [])]⟩, 
      ⟨none, none, .st 2 (.t 36) (.t 316)⟩, 
      ⟨some 10, none, .mv (.t 317)⟩])
  (.seq (.reg [⟨some 318, none, .ld true 2 (.t 35)⟩, 
      ⟨some 319, none, .ld true 2 (.t 36)⟩, 
      ⟨some 320, none, .ld true 2 (.t 35)⟩, 
      ⟨some 321, none, .bsl 25 2 3 [(.b false), (.l 1 []), (.b false), (.l 1 []), (.b false), (.l 1 [])] [(0, (.t 318)), (1, (.t 319)), (2, (.t 320))]⟩, 
      ⟨some 322, none, .call 26 [(2, (.t 321))]⟩, 
      ⟨some 37, none, .mv (.t 322)⟩])
  (.seq (.reg [⟨some 323, none, .mv (.t 8)⟩, 
      ⟨some 324, none, .bin .eql (.t 323) (.k (.i .i64 0))⟩, 
      ⟨some 325, none, .mv (.t 324)⟩, 
      ⟨some 326, some (325, true), .mv (.t 10)⟩, 
      ⟨some 327, some (325, true), .bin .eql (.t 326) (.k (.i .i64 0))⟩, 
      ⟨some 328, none, .pick (.t 325) (.t 327) (.k (.b false))⟩, 
      ⟨some 329, none, .mv (.t 328)⟩, 
      ⟨some 330, some (329, true), .mv (.t 37)⟩, 
      ⟨some 331, some (329, true), .len (.t 330)⟩, 
      ⟨some 332, some (329, true), .bin .eql (.t 331) (.k (.i .i64 1))⟩, 
      ⟨some 333, none, .pick (.t 329) (.t 332) (.k (.b false))⟩, 
      ⟨some 334, none, .mv (.t 333)⟩, 
      ⟨some 335, some (334, true), .mv (.t 37)⟩, 
      ⟨some 336, some (334, true), .idx 1 (.t 335) (.k (.i .i64 0))⟩, 
      ⟨some 337, some (334, true), .ld false 1 (.t 336)⟩, 
      ⟨some 338, some (334, true), .bin .eql (.t 337) (.k (.i .u64 1))⟩, 
      ⟨some 339, none, .pick (.t 334) (.t 338) (.k (.b false))⟩, 
      ⟨some 340, none, .mv (.t 339)⟩, 
      ⟨some 341, some (340, true), .ld true 2 (.t 34)⟩, 
      ⟨some 342, some (340, true), .call 18 [(1, (.t 341))]⟩, 
      ⟨some 343, some (340, true), .bin .eql (.t 342) (.k (.i .i64 1))⟩, 
      ⟨some 344, none, .pick (.t 340) (.t 343) (.k (.b false))⟩, 
      ⟨some 6, none, .mv (.t 344)⟩])
  (.ret)))))))))))))))))))))))))))
set_option maxRecDepth 100000 in
theorem zzDivides_spec (s t : Bool) (a b : List Nat) (n0 : Int) (m : Nat) (hm : m ≤ 2000000) (hm1 : 1 ≤ m) (ha : Wd a) (hb : Wd b) (la : a.length ≤ m) (lb : b.length ≤ m) (n1 : -9223372036854775808 ≤ n0) (n2 : n0 < 9223372036854775808) :
    AFun Tryd.prog J0 4 [zL s a, zL t b, .i .i64 n0] (.b true) := by
  obtain ⟨n, hn, hw⟩ := mod150 n0 n1 n2
  have hw15 : ¬ (150 : Int) = 0 := by decide
  obtain ⟨M, hM⟩ : ∃ M, M = 4 * m + 20 := ⟨_, rfl⟩
  have hM1 : M ≤ 100000000 := by omega
  have up : ∀ {u : Nat} (k : Nat), u < B ^ k → k ≤ M → u < B ^ M := fun k h hk => Nat.lt_of_lt_of_le h (Nat.pow_le_pow_right (by decide) hk)
  have va := ZVr (s := s) ha (show a.length ≤ M by omega)
  have vb := ZVr (s := t) hb (show b.length ≤ M by omega)
  have bx := zv_lt (s := s) ha la
  have b_y := zv_lt (s := t) hb lb
  have hno := znorm_spec s a ha (by omega)
  have hdiv := zdiv_spec s t a b m (by omega) ha hb la lb
  have hquo := zquo_spec s t a b ha hb (by omega) (by omega)
  have hg1 := zgcd_spec [(s, a), (t, b)] m (by omega) (by simp) (fun p hp => by
    rcases List.mem_cons.1 hp with h | h
    · rw [h]; exact ⟨ha, la⟩
    · rw [List.mem_singleton.1 h]; exact ⟨hb, lb⟩)
  rw [gf2, show ZC [(s, a), (t, b)] = [.b s, .l 1 (W a), .b t, .l 1 (W b)] from rfl, show nv B (s, a).2 = nv B a from rfl, show nv B (t, b).2 = nv B b from rfl, ← zv_abs s a, ← zv_abs t b] at hg1
  obtain ⟨X, hX⟩ : ∃ x, x = zv s a := ⟨_, rfl⟩
  obtain ⟨Y, hY⟩ : ∃ x, x = zv t b := ⟨_, rfl⟩
  rw [← hX] at va bx hno hdiv hquo hg1
  rw [← hY] at vb b_y hdiv hquo hg1
  clear hX hY
  -- the first part
  have o1 := zofn_spec 1 (by decide) (by decide)
  have v1 : ZV (zN 1) 1 M := ZVo (up 1 (by decide) (by omega))
  have h2n : ((2 : Int) ^ n).natAbs < B ^ 3 := by
    rw [Int.natAbs_pow]
    exact Nat.lt_of_lt_of_le (Nat.pow_lt_pow_right (by decide) (show n < 192 by omega)) (by decide)
  obtain ⟨P, hP⟩ : ∃ p, p = (2 : Int) ^ n := ⟨_, rfl⟩
  have hP0 : 0 < P := by rw [hP]; exact Int.pow_pos (by decide)
  rw [← hP] at h2n
  have c1 := zshlG hM1 v1 (show n ≤ 1048576 by omega) (show 1 * 2 ^ n = P by rw [hP, Int.one_mul])
  have vP : ZV (zN P) P M := ZVo (up 3 h2n (by omega))
  obtain ⟨F, hF⟩ : ∃ f, f = X.fdiv P := ⟨_, rfl⟩
  have c2 := zshrG hM1 va (show n ≤ 1048576 by omega) (show X.fdiv (2 ^ n) = F by rw [hF, hP])
  have c3 := zfloorG hM1 va vP
  rw [← hF, ze_p (show P ≠ 0 by omega)] at c3
  have bF : F.natAbs < B ^ M := by
    have h1 := fdivA X P
    have h2 : B ^ m * 2 ≤ B ^ (m + 1) := Nat.mul_le_mul_left _ (by decide)
    rw [hF]; exact up (m + 1) (by omega) (by omega)
  obtain ⟨U, hU⟩ : ∃ f, f = X * P := ⟨_, rfl⟩
  have bU : U.natAbs < B ^ M := by rw [hU]; exact up (m + 3) (nab_mul bx h2n) (by omega)
  have c4 := zshlG hM1 va (show n ≤ 1048576 by omega) (show X * 2 ^ n = U by rw [hU, hP])
  have vU : ZV (zN U) U M := ZVo bU
  have c5 := zshrG hM1 vU (show n ≤ 1048576 by omega) (show U.fdiv (2 ^ n) = X by rw [hU, hP, Int.mul_fdiv_cancel _ (by rw [← hP]; omega)])
  have c6 := zmulG hM1 va vP hU.symm
  have q1 := zsame_true (rfl : F = F) bF (by omega)
  have q2 := zsame_true (rfl : U = U) bU (by omega)
  have q3 := zsame_true (rfl : X = X) bx (by omega)
  clear hU hP
  by_cases hy : Y = 0
  · have sb := zsignG hM1 vb (show sgz Y = 0 by rw [hy]; rfl)
    have e1 := zexactG hM1 va vb rfl (show zxE X Y = 1 from if_pos hy)
    rw [show ze Y = 1 from if_pos hy] at hdiv hquo
    generalize X.ediv Y = w1 at *
    generalize zdR X Y = w2 at *
    generalize zq X Y = w3 at *
    generalize zr X Y = w4 at *
    generalize zxQ X Y = w5 at *
    refine AFun.mk fol J0s Tryd.func4 rfl (ac := a4) (by kernel_rfl) rfl rfl ?_
    apply vm_start
    unfold a4
    simp only [init_eq, initE]
    have zc1 := zknown_spec
    have zc2 := o1
    have zc3 := c1
    have zc4 := c2
    have zc5 := c3
    have zc6 := c4
    have zc7 := c5
    have zc8 := q1
    have zc9 := c6
    have zc10 := q2
    have zc11 := hno
    have zc12 := q3
    have zc13 := sb
    have zc14 := hdiv
    have zc15 := hquo
    have zc16 := e1
    repeat first | (refine hK _ ?_; clear hK K) | simp only [Sv, ↓reduceIte, Nat.reduceEqDiff] | ((first | refine vm_reg (fun K hK => ?_) | refine vm_dreg (fun K hK => ?_) | refine vm_dregx (fun K hK => ?_) | refine clp_q ?_ | refine clq_mk (by assumption) ?_); simp (disch := (first | omega | assumption)) only [S1, ↓reduceIte, Nat.reduceEqDiff, Nat.reduceAdd, Nat.reduceMul, Nat.reduceDiv, AOp.sb, AOp.mut, ↓Bool.false_eq_true, beq_self_eq_true, ite_self, Nat.reduceLeDiff, Int.reduceEq, Int.reduceSub, Int.reduceAdd, Int.reduceNeg, Int.reduceLT, Int.reduceLE, Nat.reduceLT, bz_LZDivides, List.length_nil, hw, hw15])
    simp (disch := (first | omega | assumption)) only [retOk, retN, ret1, retF, ret1F, V.okArg, and_true, true_and, S1, ↓reduceIte, Nat.reduceEqDiff, Nat.reduceAdd, Nat.reduceMul, Nat.reduceDiv, AOp.sb, AOp.mut, ↓Bool.false_eq_true, beq_self_eq_true, ite_self, Nat.reduceLeDiff, Int.reduceEq, Int.reduceSub, Int.reduceAdd, Int.reduceNeg, Int.reduceLT, Int.reduceLE, Nat.reduceLT, bz_LZDivides, List.length_nil, hw, hw15]
  · -- the quotients
    have hsY := sgz_n0 hy
    have sb := zsignG hM1 vb rfl
    have sa := zsignG hM1 va rfl
    rw [ze_p hy, show zdR X Y = (X.emod Y).natAbs from if_neg hy] at hdiv
    rw [ze_p hy, zr_p hy, show zq X Y = X.tdiv Y from rfl] at hquo
    have hfl := zfloorG hM1 va vb
    rw [ze_p hy] at hfl
    obtain ⟨Q, hQ⟩ : ∃ q, q = X.ediv Y := ⟨_, rfl⟩
    obtain ⟨R, hR⟩ : ∃ q, q = (X.emod Y).natAbs := ⟨_, rfl⟩
    obtain ⟨S, hS⟩ : ∃ q, q = X.tdiv Y := ⟨_, rfl⟩
    obtain ⟨T, hT⟩ : ∃ q, q = X.tmod Y := ⟨_, rfl⟩
    obtain ⟨G, hG⟩ : ∃ q, q = X.fdiv Y := ⟨_, rfl⟩
    have em0 := Int.emod_nonneg X hy
    have em1 := Int.emod_lt X hy
    have em2 := Int.mul_ediv_add_emod X Y
    have hR' : (R : Int) = X.emod Y := by rw [hR]; show ((X % Y).natAbs : Int) = X % Y; omega
    have hRz : R = 0 ↔ T = 0 := by rw [hT, ← emod_tmod hy, ← hR']; omega
    have bQ : Q.natAbs < B ^ m := by rw [hQ]; exact Nat.lt_of_le_of_lt (Int.natAbs_ediv_le_natAbs X Y) bx
    have bR : R < B ^ m := by rw [hR]; exact Nat.lt_of_lt_of_le (show (X % Y).natAbs < Y.natAbs by omega) (Nat.le_of_lt b_y)
    have bS : S.natAbs < B ^ m := by rw [hS]; exact Nat.lt_of_le_of_lt (Int.natAbs_tdiv_le_natAbs X Y) bx
    have tm2 := Int.mul_tdiv_add_tmod X Y
    have tm3 : T.natAbs < Y.natAbs := by rw [hT, Int.natAbs_tmod]; exact Nat.mod_lt _ (by omega)
    have bT : T.natAbs < B ^ m := Nat.lt_trans tm3 b_y
    have bG : G.natAbs < B ^ (m + 1) := by
      have h1 := fdivA X Y
      have h2 : B ^ m * 2 ≤ B ^ (m + 1) := Nat.mul_le_mul_left _ (by decide)
      rw [hG]; omega
    rw [← hQ, ← hR] at hdiv
    rw [← hS, ← hT] at hquo
    rw [← hG] at hfl
    have vQ : ZV (zN Q) Q M := ZVo (up m bQ (by omega))
    have vR : ZV (zN (R : Int)) R M := ZVo (by rw [Int.natAbs_natCast]; exact up m bR (by omega))
    have vS : ZV (zN S) S M := ZVo (up m bS (by omega))
    have vT : ZV (zN T) T M := ZVo (up m bT (by omega))
    have vG : ZV (zN G) G M := ZVo (up (m + 1) bG (by omega))
    have vY : ZV (zN (Y.natAbs : Int)) Y.natAbs M := ZVo (by rw [Int.natAbs_natCast]; exact up m b_y (by omega))
    have vT2 : ZV (zN (T.natAbs : Int)) T.natAbs M := ZVo (by rw [Int.natAbs_natCast]; exact up m bT (by omega))
    have d1 := znatN R bR (by omega)
    have d2 := zabsG hM1 vb
    have d3 := znatN Y.natAbs b_y (by omega)
    obtain ⟨QY, hQY⟩ : ∃ q, q = Q * Y := ⟨_, rfl⟩
    have d4 := zmulG hM1 vQ vb hQY.symm
    have vQY : ZV (zN QY) QY M := ZVo (by rw [hQY]; exact up (m + m) (nab_mul bQ b_y) (by omega))
    have d5 := zaddG hM1 vQY vR (show QY + (R : Int) = X by rw [hQY, hR', hQ]; rw [Int.mul_comm]; exact em2)
    have vX : ZV (zN X) X M := ZVo (up m bx (by omega))
    have d6 := zcmpG hM1 vX va (cz_self X)
    have d7 := zcmpG hM1 vR vY (cz_lt (show (R : Int) < (Y.natAbs : Int) by rw [hR']; show X % Y < _; omega))
    have d8 := zsignG hM1 vR rfl
    have s8 : ¬ sgz (R : Int) < 0 := by rw [sgz_neg]; omega
    obtain ⟨SY, hSY⟩ : ∃ q, q = S * Y := ⟨_, rfl⟩
    have d9 := zmulG hM1 vS vb hSY.symm
    have vSY : ZV (zN SY) SY M := ZVo (by rw [hSY]; exact up (m + m) (nab_mul bS b_y) (by omega))
    have d10 := zaddG hM1 vSY vT (show SY + T = X by rw [hSY, hT, hS, Int.mul_comm]; exact tm2)
    have d11 := zsignG hM1 vT rfl
    have d12 := zabsG hM1 vT
    have d13 := znatN T.natAbs bT (by omega)
    have d14 := zcmpG hM1 vT2 vY (cz_lt (show (T.natAbs : Int) < (Y.natAbs : Int) by omega))
    -- the floor
    obtain ⟨GY, hGY⟩ : ∃ q, q = G * Y := ⟨_, rfl⟩
    obtain ⟨G1, hG1⟩ : ∃ q, q = G + 1 := ⟨_, rfl⟩
    obtain ⟨HY, hHY⟩ : ∃ q, q = G1 * Y := ⟨_, rfl⟩
    have bG1 : G1.natAbs < B ^ (m + 2) := by
      have h2 : B ^ (m + 1) * 2 ≤ B ^ (m + 2) := Nat.mul_le_mul_left _ (by decide)
      rw [hG1]; omega
    have f1 := zmulG hM1 vG vb hGY.symm
    have f2 := zaddG hM1 vG v1 hG1.symm
    have vG1 : ZV (zN G1) G1 M := ZVo (up (m + 2) bG1 (by omega))
    have f3 := zmulG hM1 vG1 vb hHY.symm
    have vGY : ZV (zN GY) GY M := ZVo (by rw [hGY]; exact up (m + 1 + m) (nab_mul bG b_y) (by omega))
    have vHY : ZV (zN HY) HY M := ZVo (by rw [hHY]; exact up (m + 2 + m) (nab_mul bG1 b_y) (by omega))
    have f4 := zcmpG hM1 vGY va rfl
    have f5 := zcmpG hM1 vHY va rfl
    obtain ⟨fb1, fb2⟩ := floor_bnd X Y hy
    rw [← hG, ← hGY, ← hG1, ← hHY] at fb1 fb2
    -- what divides
    obtain ⟨XY, hXY⟩ : ∃ q, q = X * Y := ⟨_, rfl⟩
    have g1 := zmulG hM1 va vb hXY.symm
    have vXY : ZV (zN XY) XY M := ZVo (by rw [hXY]; exact up (m + m) (nab_mul bx b_y) (by omega))
    have hxy0 : XY.tmod Y = 0 := by rw [hXY]; exact Int.mul_tmod_left X Y
    have g2 := zexactG hM1 vXY vb (show zxQ XY Y = X by unfold zxQ; rw [if_pos hxy0, hXY]; exact Int.mul_tdiv_cancel X hy) (show zxE XY Y = 0 by unfold zxE; rw [if_neg hy, if_pos hxy0])
    have g3 := zexactG hM1 va vb rfl rfl
    have hD0 : 0 < Nat.gcd X.natAbs Y.natAbs := Nat.gcd_pos_of_pos_right _ (by omega)
    have hDx : Nat.gcd X.natAbs Y.natAbs ∣ X.natAbs := Nat.gcd_dvd_left _ _
    have hDy : Nat.gcd X.natAbs Y.natAbs ∣ Y.natAbs := Nat.gcd_dvd_right _ _
    have hco := gcd_co hD0
    obtain ⟨D, hD⟩ : ∃ d, d = Nat.gcd X.natAbs Y.natAbs := ⟨_, rfl⟩
    rw [← hD] at hD0 hDx hDy hco hg1
    have bD : D < B ^ m := Nat.lt_of_le_of_lt (Nat.le_of_dvd (by omega) hDy) b_y
    have k1 := znatN D bD (by omega)
    have vD : ZV (zN (D : Int)) D M := ZVo (by rw [Int.natAbs_natCast]; exact up m bD (by omega))
    have tx : X.tmod (D : Int) = 0 := Int.tmod_eq_zero_of_dvd (Int.ofNat_dvd_left.2 hDx)
    have ty : Y.tmod (D : Int) = 0 := Int.tmod_eq_zero_of_dvd (Int.ofNat_dvd_left.2 hDy)
    have hDi : ¬ (D : Int) = 0 := by omega
    obtain ⟨Xd, hXd⟩ : ∃ q, q = X.tdiv (D : Int) := ⟨_, rfl⟩
    obtain ⟨Yd, hYd⟩ : ∃ q, q = Y.tdiv (D : Int) := ⟨_, rfl⟩
    have k2 := zexactG hM1 va vD (show zxQ X D = Xd by unfold zxQ; rw [if_pos tx, hXd]) (show zxE X D = 0 by unfold zxE; rw [if_neg hDi, if_pos tx])
    have k3 := zexactG hM1 vb vD (show zxQ Y D = Yd by unfold zxQ; rw [if_pos ty, hYd]) (show zxE Y D = 0 by unfold zxE; rw [if_neg hDi, if_pos ty])
    have bXd : Xd.natAbs < B ^ m := by rw [hXd, tdiv_nab]; exact Nat.lt_of_le_of_lt (Nat.div_le_self _ _) bx
    have bYd : Yd.natAbs < B ^ m := by rw [hYd, tdiv_nab]; exact Nat.lt_of_le_of_lt (Nat.div_le_self _ _) b_y
    have k4 := zgcd_spec [nfp Xd, nfp Yd, nfp Xd] m (by omega) (by simp) (fun p hp => by
      have hx : Wd (nfp Xd).2 ∧ (nfp Xd).2.length ≤ m := ⟨Wd_dg _, dlen bXd⟩
      have hy : Wd (nfp Yd).2 ∧ (nfp Yd).2.length ≤ m := ⟨Wd_dg _, dlen bYd⟩
      rcases List.mem_cons.1 hp with h | h
      · rw [h]; exact hx
      · rcases List.mem_cons.1 h with h | h
        · rw [h]; exact hy
        · rw [List.mem_singleton.1 h]; exact hx)
    rw [gf3, show nv B (nfp Xd).2 = Xd.natAbs from nv_dgB _, show nv B (nfp Yd).2 = Yd.natAbs from nv_dgB _, hXd, hYd, tdiv_nab, tdiv_nab, hco, ← hXd, ← hYd, dg_one (by decide) (by decide),
      show ZC [nfp Xd, nfp Yd, nfp Xd] = [.b (decide (Xd < 0)), .l 1 (W (dg B Xd.natAbs)), .b (decide (Yd < 0)), .l 1 (W (dg B Yd.natAbs)), .b (decide (Xd < 0)), .l 1 (W (dg B Xd.natAbs))] from rfl] at k4
    have k5 := zsignG hM1 vD (show sgz (D : Int) = 1 from (if_neg (by omega)).trans (if_pos (by omega)))
    have hT0 : T = 0 → zxE X Y = 0 ∧ ((dg B R).length : Int) = 0 ∧ sgz T = 0 := fun h => ⟨by unfold zxE; rw [if_neg hy, if_pos (by rw [← hT]; exact h)], by rw [hRz.2 h, dg_zero]; rfl, by rw [h]; rfl⟩
    have hT1 : T ≠ 0 → zxE X Y = 4 ∧ ¬ ((dg B R).length : Int) = 0 ∧ ¬ sgz T = 0 ∧ sgz T = sgz X := fun h => ⟨by unfold zxE; rw [if_neg hy, if_neg (by rw [← hT]; exact h)], fun h1 => h (hRz.1 ((dg_nil B2).1 (List.eq_nil_of_length_eq_zero (by omega)))), sgz_n0 h, by rw [hT]; exact sg_tmod (by rw [← hT]; exact h)⟩
    generalize zxQ X Y = w5 at *
    generalize zxE X Y = w6 at *
    generalize sgz (R : Int) = w7 at *
    generalize sgz T = w8 at *
    generalize sgz X = gx at *
    have fin : ∀ (y1 c1 c2 : Int), AFun Tryd.prog J0 18 [zL t b] (.i .i64 y1) → AFun Tryd.prog J0 24 [zN GY, zL s a] (.i .i64 c1) → AFun Tryd.prog J0 24 [zN HY, zL s a] (.i .i64 c2) → (y1 = 1 ∧ ¬ 0 < c1 ∧ c2 = 1 ∨ y1 = -1 ∧ ¬ c1 < 0 ∧ c2 = -1) →
        (w6 = 0 ∧ (((dg B R).length : Int) = 0) = True ∧ w8 = 0 ∧ ¬ (1 : Int) = 0 ∨ w6 = 4 ∧ (((dg B R).length : Int) = 0) = False ∧ w8 = gx ∧ ¬ gx = 0) → AFun Tryd.prog J0 4 [zL s a, zL t b, .i .i64 n0] (.b true) := by
      clear sb f4 f5 hT0 hT1 fb1 fb2
      intro y1 c1 c2 sb f4 f5 h1 h2
      generalize hlen : ((dg B R).length : Int) = ln at *
      rcases h1 with ⟨rfl, h3, rfl⟩ | ⟨rfl, h3, rfl⟩
      all_goals rcases h2 with ⟨rfl, h4, rfl, h5⟩ | ⟨rfl, h4, rfl, h5⟩
      all_goals
        refine AFun.mk fol J0s Tryd.func4 rfl (ac := a4) (by kernel_rfl) rfl rfl ?_
        apply vm_start
        unfold a4
        simp only [init_eq, initE]
        have zc17 := zknown_spec
        have zc18 := o1
        have zc19 := c1
        have zc20 := c2
        have zc21 := c3
        have zc22 := c4
        have zc23 := c5
        have zc24 := q1
        have zc25 := c6
        have zc26 := q2
        have zc27 := hno
        have zc28 := q3
        have zc29 := sb
        have zc30 := hdiv
        have zc31 := hquo
        have zc32 := hfl
        have zc33 := d1
        have zc34 := d2
        have zc35 := d3
        have zc36 := d4
        have zc37 := d5
        have zc38 := d6
        have zc39 := d7
        have zc40 := d8
        have zc41 := d9
        have zc42 := d10
        have zc43 := d11
        have zc44 := sa
        have zc45 := d12
        have zc46 := d13
        have zc47 := d14
        have zc48 := f1
        have zc49 := f2
        have zc50 := f3
        have zc51 := f4
        have zc52 := f5
        have zc53 := g1
        have zc54 := g2
        have zc55 := g3
        have zc56 := hg1
        have zc57 := k1
        have zc58 := k2
        have zc59 := k3
        have zc60 := k4
        have zc61 := k5
        repeat first | (refine hK _ ?_; clear hK K) | simp only [Sv, ↓reduceIte, Nat.reduceEqDiff] | ((first | refine vm_reg (fun K hK => ?_) | refine vm_dreg (fun K hK => ?_) | refine vm_dregx (fun K hK => ?_) | refine clp_q ?_ | refine clq_mk (by assumption) ?_); simp (disch := (first | omega | assumption)) only [S1, ↓reduceIte, Nat.reduceEqDiff, Nat.reduceAdd, Nat.reduceMul, Nat.reduceDiv, AOp.sb, AOp.mut, ↓Bool.false_eq_true, beq_self_eq_true, ite_self, Nat.reduceLeDiff, Int.reduceEq, Int.reduceSub, Int.reduceAdd, Int.reduceNeg, Int.reduceLT, Int.reduceLE, Nat.reduceLT, bz_LZDivides, List.length_nil, hw, hw15, h3, h4, h5, hlen, s8, W1, Int.toNat_zero, getD_z])
        simp (disch := (first | omega | assumption)) only [retOk, retN, ret1, retF, ret1F, V.okArg, and_true, true_and, S1, ↓reduceIte, Nat.reduceEqDiff, Nat.reduceAdd, Nat.reduceMul, Nat.reduceDiv, AOp.sb, AOp.mut, ↓Bool.false_eq_true, beq_self_eq_true, ite_self, Nat.reduceLeDiff, Int.reduceEq, Int.reduceSub, Int.reduceAdd, Int.reduceNeg, Int.reduceLT, Int.reduceLE, Nat.reduceLT, bz_LZDivides, List.length_nil, hw, hw15, h3, h4, h5, hlen, s8, W1, Int.toNat_zero, getD_z]
    have hTT : w6 = 0 ∧ (((dg B R).length : Int) = 0) = True ∧ w8 = 0 ∧ ¬ (1 : Int) = 0 ∨ w6 = 4 ∧ (((dg B R).length : Int) = 0) = False ∧ w8 = gx ∧ ¬ gx = 0 := by
      by_cases h : T = 0
      · obtain ⟨h1, h2, h3⟩ := hT0 h
        exact .inl ⟨h1, eq_true h2, h3, by decide⟩
      · obtain ⟨h1, h2, h3, h4⟩ := hT1 h
        exact .inr ⟨h1, eq_false h2, h4, h4 ▸ h3⟩
    rcases Int.lt_or_gt_of_ne hy with hYn | hYp
    · obtain ⟨k6, k7⟩ := fb2 hYn
      refine fin (-1) (cz GY X) (-1) ?_ f4 ?_ (.inr ⟨rfl, cz_ge k6, rfl⟩) hTT
      · rwa [show sgz Y = -1 from if_pos hYn] at sb
      · rwa [cz_lt k7] at f5
    · obtain ⟨k6, k7⟩ := fb1 hYp
      refine fin 1 (cz GY X) 1 ?_ f4 ?_ (.inl ⟨rfl, cz_le k6, rfl⟩) hTT
      · rwa [show sgz Y = 1 from (if_neg (by omega)).trans (if_pos hYp)] at sb
      · rwa [cz_gt k7] at f5
end Go.Proofs.YtnjjeephbeoakaaDoor
