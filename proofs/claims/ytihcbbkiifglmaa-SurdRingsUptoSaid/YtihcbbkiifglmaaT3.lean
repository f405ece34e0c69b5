/-
  surdtop.SurdRings.
-/
import Derived.Test.YtihcbbkiifglmaaT2b
namespace Go.Proofs.Ytihcbbkiifglmaa
open Go Go.RowKit Ab
set_option linter.unusedSimpArgs false
set_option linter.unusedVariables false
set_option maxHeartbeats 10000000
theorem bz_T3 : type_of% (And.intro @W_len (And.intro @D_len (And.intro @Nat.div_one (And.intro @Nat.mul_one (And.intro @tn_nat (And.intro @W_nf (And.intro @D_nf (And.intro @W_nil (And.intro @D_nil (And.intro @wi (And.intro @nf_g (And.intro @Bool.false_and (And.intro @W_cell (And.intro @ZC_cell (@ZC_nil))))))))))))))) := And.intro @W_len (And.intro @D_len (And.intro @Nat.div_one (And.intro @Nat.mul_one (And.intro @tn_nat (And.intro @W_nf (And.intro @D_nf (And.intro @W_nil (And.intro @D_nil (And.intro @wi (And.intro @nf_g (And.intro @Bool.false_and (And.intro @W_cell (And.intro @ZC_cell (@ZC_nil))))))))))))))

theorem vmc_share {F G : Nat → List V → V → Prop} {v : V} {a b b2 r : AC} {k : List Fr} {Q : Ex → St → Prop} {s : St} (P : St → Prop)
    (h2 : ∀ s', P s' → vm F G (.c r :: k) Q s') (h1 : ∀ r', (∀ s', P s' → vm F G (.c r' :: k) Q s') → vmc F G v a b (.c (.seq b2 r') :: k) Q s) : vmc F G v a b (.c (.seq b2 r) :: k) Q s := h1 r h2
theorem vmc_share2 {F G : Nat → List V → V → Prop} {v : V} {a b b2 b3 r : AC} {k : List Fr} {Q : Ex → St → Prop} {s : St} (P : St → Prop)
    (h2 : ∀ s', P s' → vm F G (.c r :: k) Q s') (h1 : ∀ r', (∀ s', P s' → vm F G (.c r' :: k) Q s') → vmc F G v a b (.c (.seq b2 (.seq b3 r')) :: k) Q s) : vmc F G v a b (.c (.seq b2 (.seq b3 r)) :: k) Q s := h1 r h2
theorem mull_le (a b : List Int) : (mull a b).length ≤ a.length + b.length := by
  unfold mull
  split
  · simp
  · exact Nat.le_trans (tzi_len _) (by rw [mulF_len]; omega)
/-- the first forty -/
def p40 (l : List (Bool × List Nat)) : List (Bool × List Nat) := if 40 < l.length then l.take 40 else l
theorem p40_len (l : List (Bool × List Nat)) : (p40 l).length ≤ 40 := by
  unfold p40
  split
  · rw [List.length_take]; omega
  · omega
theorem p40_Zk {l : List (Bool × List Nat)} {m : Nat} (h : Zk l m) : Zk (p40 l) m := by
  unfold p40; split
  · exact fun p hp => h p (List.mem_of_mem_take hp)
  · exact h
theorem ZC_take : ∀ (l : List (Bool × List Nat)) (n : Nat), (ZC l).take (n * 2) = ZC (l.take n)
  | [], n => by simp [ZC]
  | p :: r, 0 => by simp [ZC]
  | p :: r, n + 1 => by
    rw [show (n + 1) * 2 = n * 2 + 1 + 1 from by omega]
    simp only [ZC, List.take_succ_cons, ZC_take r n]
theorem zk_up {l : List (Bool × List Nat)} {m n : Nat} (h : Zk l m) (hn : m ≤ n) : Zk l n := fun p hp => ⟨(h p hp).1, Nat.le_trans (h p hp).2 hn⟩
theorem Cz_drv' {l : List Int} {m : Nat} (h : Cz l m) (ll : l.length ≤ 1000) : Cz (tzi (drv l)) (m + 1) := Cz_tzi (Cz_drv h (by omega))
-- surd/surdtop.SurdRings
def a3 : AC := .seq (.reg [⟨some 6, none, .mv (.k (.b false))⟩])
  (.seq (.seq (.reg [⟨some 15, none, .bsl 3 1 2 [(.i .i64 0), (.i .i64 0)] [(0, (.k (.i .i64 (-1)))), (1, (.k (.i .i64 1)))]⟩, 
        ⟨some 16, none, .call 6 [(1, (.t 15))]⟩, 
        ⟨some 17, none, .bsl 3 1 2 [(.i .i64 0), (.i .i64 0)] [(0, (.k (.i .i64 1))), (1, (.k (.i .i64 1)))]⟩, 
        ⟨some 18, none, .call 6 [(1, (.t 17))]⟩, 
        ⟨some 19, none, .call 5 [(2, (.t 16)), (2, (.t 18))]⟩, 
        ⟨some 20, none, .bsl 3 1 3 [(.i .i64 0), (.i .i64 0), (.i .i64 0)] [(0, (.k (.i .i64 (-1)))), (1, (.k (.i .i64 0))), (2, (.k (.i .i64 1)))]⟩, 
        ⟨some 21, none, .call 6 [(1, (.t 20))]⟩, 
        ⟨some 22, none, .call 4 [(2, (.t 19)), (2, (.t 21))]⟩, 
        ⟨some 23, none, .un .not (.t 22)⟩])
    (.cond (.t 23)
    (.seq (.reg [⟨some 6, none, .mv (.k (.b false))⟩])
      (.ret))
    (.skip)))
  (.seq (.seq (.reg [⟨some 24, none, .mv (.t 0)⟩, 
        ⟨some 25, none, .len (.t 24)⟩, 
        ⟨some 26, none, .bin .gtr (.t 25) (.k (.i .i64 40))⟩])
    (.cond (.t 26)
    (.reg [⟨some 27, none, .mv (.t 0)⟩, 
        ⟨some 28, none, .sub 2 (.t 27) none (some (.k (.i .i64 40)))⟩, 
        ⟨some 0, none, .mv (.t 28)⟩])
    (.skip)))
  (.seq (.seq (.reg [⟨some 29, none, .mv (.t 1)⟩, 
        ⟨some 30, none, .len (.t 29)⟩, 
        ⟨some 31, none, .bin .gtr (.t 30) (.k (.i .i64 40))⟩])
    (.cond (.t 31)
    (.reg [⟨some 32, none, .mv (.t 1)⟩, 
        ⟨some 33, none, .sub 2 (.t 32) none (some (.k (.i .i64 40)))⟩, 
        ⟨some 1, none, .mv (.t 33)⟩])
    (.skip)))
  (.seq (.seq (.reg [⟨some 34, none, .mv (.t 2)⟩, 
        ⟨some 35, none, .len (.t 34)⟩, 
        ⟨some 36, none, .bin .gtr (.t 35) (.k (.i .i64 40))⟩])
    (.cond (.t 36)
    (.reg [⟨some 37, none, .mv (.t 2)⟩, 
        ⟨some 38, none, .sub 2 (.t 37) none (some (.k (.i .i64 40)))⟩, 
        ⟨some 2, none, .mv (.t 38)⟩])
    (.skip)))
  (.seq (.reg [⟨some 39, none, .mv (.t 0)⟩, 
      ⟨some 40, none, .call 7 [(2, (.t 39))]⟩, 
      ⟨some 41, none, .mv (.t 1)⟩, 
      ⟨some 42, none, .call 7 [(2, (.t 41))]⟩, 
      ⟨some 43, none, .call 5 [(2, (.t 40)), (2, (.t 42))]⟩, 
      ⟨some 7, none, .mv (.t 43)⟩])
  (.seq (.seq (.reg [⟨some 44, none, .mv (.t 7)⟩, 
        ⟨some 45, none, .mv (.t 1)⟩, 
        ⟨some 46, none, .call 7 [(2, (.t 45))]⟩, 
        ⟨some 47, none, .mv (.t 0)⟩, 
        ⟨some 48, none, .call 7 [(2, (.t 47))]⟩, 
        ⟨some 49, none, .call 5 [(2, (.t 46)), (2, (.t 48))]⟩, 
        ⟨some 50, none, .call 4 [(2, (.t 44)), (2, (.t 49))]⟩, 
        ⟨some 51, none, .un .not (.t 50)⟩, 
        ⟨some 52, none, .mv (.t 51)⟩, 
        ⟨some 53, some (52, false), .mv (.t 0)⟩, 
        ⟨some 54, some (52, false), .call 7 [(2, (.t 53))]⟩, 
        ⟨some 55, some (52, false), .mv (.t 1)⟩, 
        ⟨some 56, some (52, false), .call 7 [(2, (.t 55))]⟩, 
        ⟨some 57, some (52, false), .mv (.t 2)⟩, 
        ⟨some 58, some (52, false), .call 7 [(2, (.t 57))]⟩, 
        ⟨some 59, some (52, false), .call 8 [(2, (.t 56)), (2, (.t 58))]⟩, 
        ⟨some 60, some (52, false), .call 5 [(2, (.t 54)), (2, (.t 59))]⟩, 
        ⟨some 61, some (52, false), .mv (.t 7)⟩, 
        ⟨some 62, some (52, false), .call 7 [(2, (.t 61))]⟩, 
        ⟨some 63, some (52, false), .mv (.t 0)⟩, 
        ⟨some 64, some (52, false), .call 7 [(2, (.t 63))]⟩, 
        ⟨some 65, some (52, false), .mv (.t 2)⟩, 
        ⟨some 66, some (52, false), .call 7 [(2, (.t 65))]⟩, 
        ⟨some 67, some (52, false), .call 5 [(2, (.t 64)), (2, (.t 66))]⟩, 
        ⟨some 68, some (52, false), .call 8 [(2, (.t 62)), (2, (.t 67))]⟩, 
        ⟨some 69, some (52, false), .call 4 [(2, (.t 60)), (2, (.t 68))]⟩, 
        ⟨some 70, some (52, false), .un .not (.t 69)⟩, 
        ⟨some 71, none, .pick (.t 52) (.k (.b true)) (.t 70)⟩, 
        ⟨some 72, none, .mv (.t 71)⟩, 
        ⟨some 73, some (72, false), .mv (.t 0)⟩, 
        ⟨some 74, some (72, false), .call 7 [(2, (.t 73))]⟩, 
        ⟨some 75, some (72, false), .mv (.t 1)⟩, 
        ⟨some 76, some (72, false), .call 7 [(2, (.t 75))]⟩, 
        ⟨some 77, some (72, false), .call 8 [(2, (.t 74)), (2, (.t 76))]⟩, 
        ⟨some 78, some (72, false), .mv (.t 1)⟩, 
        ⟨some 79, some (72, false), .call 7 [(2, (.t 78))]⟩, 
        ⟨some 80, some (72, false), .call 9 [(2, (.t 77)), (2, (.t 79))]⟩, 
        ⟨some 81, some (72, false), .mv (.t 0)⟩, 
        ⟨some 82, some (72, false), .call 7 [(2, (.t 81))]⟩, 
        ⟨some 83, some (72, false), .call 10 [(2, (.t 82))]⟩, 
        ⟨some 84, some (72, false), .call 4 [(2, (.t 80)), (2, (.t 83))]⟩, 
        ⟨some 85, some (72, false), .un .not (.t 84)⟩, 
        ⟨some 86, none, .pick (.t 72) (.k (.b true)) (.t 85)⟩])
    (.cond (.t 86)
    (.seq (.reg [⟨some 6, none, .mv (.k (.b false))⟩])
      (.ret))
    (.skip)))
  (.seq (.reg [⟨some 87, none, .mv (.t 7)⟩, 
      ⟨some 88, none, .call 7 [(2, (.t 87))]⟩, 
      ⟨some 89, none, .call 11 [(2, (.t 88))]⟩, 
      ⟨some 8, none, .mv (.t 89)⟩])
  (.seq (.reg [⟨some 90, none, .mv (.t 0)⟩, 
      ⟨some 91, none, .call 7 [(2, (.t 90))]⟩, 
      ⟨some 92, none, .call 11 [(2, (.t 91))]⟩, 
      ⟨some 93, none, .mv (.t 1)⟩, 
      ⟨some 94, none, .call 7 [(2, (.t 93))]⟩, 
      ⟨some 95, none, .call 5 [(2, (.t 92)), (2, (.t 94))]⟩, 
      ⟨some 96, none, .mv (.t 0)⟩, 
      ⟨some 97, none, .call 7 [(2, (.t 96))]⟩, 
      ⟨some 98, none, .mv (.t 1)⟩, 
      ⟨some 99, none, .call 7 [(2, (.t 98))]⟩, 
      ⟨some 100, none, .call 11 [(2, (.t 99))]⟩, 
      ⟨some 101, none, .call 5 [(2, (.t 97)), (2, (.t 100))]⟩, 
      ⟨some 102, none, .call 8 [(2, (.t 95)), (2, (.t 101))]⟩, 
      ⟨some 9, none, .mv (.t 102)⟩])
  (.seq (.seq (.reg [⟨some 103, none, .mv (.t 8)⟩, 
        ⟨some 104, none, .mv (.t 9)⟩, 
        ⟨some 105, none, .call 4 [(2, (.t 103)), (2, (.t 104))]⟩, 
        ⟨some 106, none, .un .not (.t 105)⟩])
    (.cond (.t 106)
    (.seq (.reg [⟨some 6, none, .mv (.k (.b false))⟩])
      (.ret))
    (.skip)))
  (.seq (.reg [⟨some 107, none, .mv (.t 0)⟩, 
      ⟨some 108, none, .call 7 [(2, (.t 107))]⟩, 
      ⟨some 109, none, .call 12 [(2, (.t 108))]⟩, 
      ⟨some 110, none, .mv (.t 1)⟩, 
      ⟨some 111, none, .call 7 [(2, (.t 110))]⟩, 
      ⟨some 112, none, .call 12 [(2, (.t 111))]⟩, 
      ⟨some 10, none, .mv (.t 109)⟩, 
      ⟨some 11, none, .mv (.t 112)⟩])
  (.seq (.seq (.reg [⟨some 113, none, .mv (.t 0)⟩, 
        ⟨some 114, none, .call 13 [(2, (.t 113))]⟩, 
        ⟨some 115, none, .mv (.t 10)⟩, 
        ⟨some 116, none, .bin .eql (.t 115) (.k (.i .i64 (-1)))⟩, 
        ⟨some 117, none, .eqb true (.t 114) (.t 116)⟩, 
        ⟨some 118, none, .mv (.t 117)⟩, 
        ⟨some 119, some (118, false), .mv (.t 10)⟩, 
        ⟨some 120, some (118, false), .bin .geq (.t 119) (.k (.i .i64 0))⟩, 
        ⟨some 121, some (118, false), .mv (.t 120)⟩, 
        ⟨some 122, some (121, true), .mv (.t 11)⟩, 
        ⟨some 123, some (121, true), .bin .geq (.t 122) (.k (.i .i64 0))⟩, 
        ⟨some 124, some (118, false), .pick (.t 121) (.t 123) (.k (.b false))⟩, 
        ⟨some 125, some (118, false), .mv (.t 124)⟩, 
        ⟨some 126, some (125, true), .mv (.t 7)⟩, 
        ⟨some 127, some (125, true), .call 7 [(2, (.t 126))]⟩, 
        ⟨some 128, some (125, true), .call 12 [(2, (.t 127))]⟩, 
        ⟨some 129, some (125, true), .mv (.t 10)⟩, 
        ⟨some 130, some (125, true), .mv (.t 11)⟩, 
        ⟨some 131, some (125, true), .bin .add (.t 129) (.t 130)⟩, 
        ⟨some 132, some (125, true), .bin .neq (.t 128) (.t 131)⟩, 
        ⟨some 133, some (118, false), .pick (.t 125) (.t 132) (.k (.b false))⟩, 
        ⟨some 134, none, .pick (.t 118) (.k (.b true)) (.t 133)⟩])
    (.cond (.t 134)
    (.seq (.reg [⟨some 6, none, .mv (.k (.b false))⟩])
      (.ret))
    (.skip)))
  (.seq (.reg [⟨some 135, none, .mv (.t 0)⟩, 
      ⟨some 136, none, .call 7 [(2, (.t 135))]⟩, 
      ⟨some 137, none, .call 14 [(2, (.t 136))]⟩, 
      ⟨some 12, none, .al 33 [(.b false), (.l 1 [])]⟩, 
      ⟨none, none, .st 2 (.t 12) (.t 137)⟩])
  (.seq (.reg [⟨some 138, none, .mv (.t 0)⟩, 
      ⟨some 139, none, .call 7 [(2, (.t 138))]⟩, 
      ⟨some 140, none, .call 15 [(2, (.t 139))]⟩, 
      ⟨some 13, none, .mv (.t 140)⟩])
  (.seq (.seq (.dreg [⟨some 141, none, .mv (.t 13)⟩, 
        ⟨some 142, none, .call 7 [(2, (.t 141))]⟩, 
        ⟨some 143, none, .ld true 2 (.t 12)⟩, 
        ⟨some 144, none, .call 17 [(1, (.t 143))]⟩, 
        ⟨some 145, none, .call 16 [(2, (.t 142)), (1, (.t 144))]⟩, 
        ⟨some 146, none, .mv (.t 0)⟩, 
        ⟨some 147, none, .call 7 [(2, (.t 146))]⟩, 
        ⟨some 148, none, .call 10 [(2, (.t 147))]⟩, 
        ⟨some 149, none, .call 4 [(2, (.t 145)), (2, (.t 148))]⟩, 
        ⟨some 150, none, .un .not (.t 149)⟩])
    (.cond (.t 150)
    (.seq (.reg [⟨some 6, none, .mv (.k (.b false))⟩])
      (.ret))
    (.skip)))
  (.seq (.reg [⟨some 151, none, .mv (.t 7)⟩, 
      ⟨some 152, none, .call 7 [(2, (.t 151))]⟩, 
      ⟨some 153, none, .call 15 [(2, (.t 152))]⟩, 
      ⟨some 14, none, .mv (.t 153)⟩])
  (.seq (.dreg [⟨some 154, none, .mv (.t 14)⟩, 
      ⟨some 155, none, .mv (.t 13)⟩, 
      ⟨some 156, none, .mv (.t 1)⟩, 
      ⟨some 157, none, .call 7 [(2, (.t 156))]⟩, 
      ⟨some 158, none, .call 15 [(2, (.t 157))]⟩, 
      ⟨some 159, none, .call 5 [(2, (.t 155)), (2, (.t 158))]⟩, 
      ⟨some 160, none, .call 4 [(2, (.t 154)), (2, (.t 159))]⟩, 
      ⟨some 161, none, .mv (.t 160)⟩, 
      ⟨some 162, some (161, true), .mv (.t 7)⟩, 
      ⟨some 163, some (161, true), .call 14 [(2, (.t 162))]⟩, 
      ⟨some 164, some (161, true), .ld true 2 (.t 12)⟩, 
      ⟨some 165, some (161, true), .mv (.t 1)⟩, 
      ⟨some 166, some (161, true), .call 7 [(2, (.t 165))]⟩, 
      ⟨some 167, some (161, true), .call 14 [(2, (.t 166))]⟩, 
      ⟨some 168, some (161, true), .call 19 [(1, (.t 164)), (1, (.t 167))]⟩, 
      ⟨some 169, some (161, true), .call 18 [(1, (.t 163)), (1, (.t 168))]⟩, 
      ⟨some 170, none, .pick (.t 161) (.t 169) (.k (.b false))⟩, 
      ⟨some 6, none, .mv (.t 170)⟩])
  (.ret)))))))))))))))))
set_option maxRecDepth 100000 in
theorem surdRings_spec (p0 q0 r0 : List (Bool × List Nat)) (lp0 : p0.length ≤ 1048576) (lq0 : q0.length ≤ 1048576) (lr0 : r0.length ≤ 1048576) (zp0 : Zk p0 1048576) (zq0 : Zk q0 1048576) (zr0 : Zk r0 1048576) :
    AFun Try.prog J0 3 [.l 2 (ZC p0), .l 2 (ZC q0), .l 2 (ZC r0)] (.b true) := by
  have k1 := (tpoly_spec [-1, 1] (by decide) (by decide)).frozen
  have k2 := (tpoly_spec [1, 1] (by decide) (by decide)).frozen
  have k3 := (tpoly_spec [-1, 0, 1] (by decide) (by decide)).frozen
  rw [show I64 [-1, 1] = [.i .i64 (-1), .i .i64 1] from rfl] at k1
  rw [show I64 [1, 1] = [.i .i64 1, .i .i64 1] from rfl] at k2
  rw [show I64 [-1, 0, 1] = [.i .i64 (-1), .i .i64 0, .i .i64 1] from rfl] at k3
  have sm : ∀ (l : List Int), (∀ c, c ∈ l → c = -1 ∨ c = 0 ∨ c = 1) → Cz l 1 := fun l h i => by
    by_cases hi : i < l.length
    · rw [List.getD_eq_getElem?_getD, List.getElem?_eq_getElem hi]
      have := h _ (List.getElem_mem hi)
      refine Nat.lt_of_le_of_lt (show _ ≤ 1 from ?_) (by decide)
      show (l[i]).natAbs ≤ 1
      omega
    · rw [gD0 (by omega)]; decide
  have k4 := zpmul_spec (nfl [-1, 1]) (nfl [1, 1]) 1 (by decide) (by decide) (by decide) (Zk_nfl (sm _ (by decide))) (Zk_nfl (sm _ (by decide)))
  rw [zcs_nfl, zcs_nfl, show mull (tzi [-1, 1]) (tzi [1, 1]) = [-1, 0, 1] from by decide +kernel] at k4
  have k5 := tsameZ_spec (nfl [-1, 0, 1]) 1 (by decide) (by decide) (Zk_nfl (sm _ (by decide)))
  clear sm
  generalize nfl [-1, 1] = x1 at *
  generalize nfl [1, 1] = x2 at *
  generalize nfl [-1, 0, 1] = x3 at *
  have hz0 := ZC_len p0
  have hz1 := ZC_len q0
  have hz2 := ZC_len r0
  have hd0 : p0.length * 2 / 2 = p0.length := by omega
  have hd1 : q0.length * 2 / 2 = q0.length := by omega
  have hd2 : r0.length * 2 / 2 = r0.length := by omega
  have t0 : (ZC p0).take (Int.toNat 40 * 2) = ZC (p0.take 40) := ZC_take p0 40
  have t1 : (ZC q0).take (Int.toNat 40 * 2) = ZC (q0.take 40) := ZC_take q0 40
  have t2 : (ZC r0).take (Int.toNat 40 * 2) = ZC (r0.take 40) := ZC_take r0 40
  refine AFun.mk fol J0s Try.func3 rfl (ac := a3) (by kernel_rfl) rfl rfl rfl ?_
  apply vm_start
  unfold a3
  simp only [init_eq, initE]
  have zc1 := k1
  have zc2 := k2
  have zc3 := k4
  have zc4 := k3
  have zc5 := k5
  repeat first | (refine hK _ ?_; clear hK K) | simp only [Sv, ↓reduceIte, Nat.reduceEqDiff] | ((first | refine vm_reg (fun K hK => ?_) | refine vm_dreg (fun K hK => ?_) | refine vm_dregx (fun K hK => ?_) | refine clp_q ?_ | refine clq_mk (by assumption) ?_ | refine mcq_q ?_ | (apply mcr_mk; assumption)); simp (disch := (first | omega | assumption)) only [S1, ↓reduceIte, Nat.reduceEqDiff, Nat.reduceAdd, Nat.reduceMul, Nat.reduceDiv, AOp.sb, AOp.mut, ↓Bool.false_eq_true, beq_self_eq_true, ite_self, Nat.reduceLeDiff, Int.reduceEq, Int.reduceSub, Int.reduceAdd, Int.reduceNeg, Int.reduceLT, Int.reduceLE, Nat.reduceLT, bz_T3, hz0, hd0])
  refine vmc_share2 (fun s' => lk s'.env 0 = .l 2 (ZC (p40 p0)) ∧ lk s'.env 1 = .l 2 (ZC (p40 q0)) ∧ lk s'.env 2 = .l 2 (ZC (p40 r0))) ?_ ?_
  · rintro ⟨env, obs, nx⟩ ⟨v0, v1, v2⟩
    simp only [] at v0 v1 v2
    have lp := p40_len p0
    have lq := p40_len q0
    have lr := p40_len r0
    have zp := p40_Zk zp0
    have zq := p40_Zk zq0
    have zr := p40_Zk zr0
    obtain ⟨M0, hM0⟩ : ∃ M0, M0 = 1048576 := ⟨_, rfl⟩
    rw [← hM0] at zp zq zr
    generalize p40 p0 = p at *
    generalize p40 q0 = q at *
    generalize p40 r0 = r at *
    clear zp0 zq0 zr0 lp0 lq0 lr0 hz0 hz1 hz2 hd0 hd1 hd2 t0 t1 t2 k1 k2 k3 k4 k5
    have la : (zcs p).length ≤ 40 := by rw [zcs_len]; exact lp
    have lb : (zcs q).length ≤ 40 := by rw [zcs_len]; exact lq
    have lc : (zcs r).length ≤ 40 := by rw [zcs_len]; exact lr
    have bP := Zk_Cz zp
    have bQ := Zk_Cz zq
    have bR := Zk_Cz zr
    -- copies
    have cp := (tcopyZ_spec p M0 (by omega) (by omega) zp).frozen
    have cq := (tcopyZ_spec q M0 (by omega) (by omega) zq).frozen
    have cr := (tcopyZ_spec r M0 (by omega) (by omega) zr).frozen
    -- the lists
    have ta := tzi_len (zcs p)
    have tb := tzi_len (zcs q)
    have tc := tzi_len (zcs r)
    have bA := Cz_tzi bP
    have bB := Cz_tzi bQ
    have bC := Cz_tzi bR
    have ea : tzi (tzi (zcs p)) = tzi (zcs p) := tzi_idem _
    have eb : tzi (tzi (zcs q)) = tzi (zcs q) := tzi_idem _
    -- p q
    obtain ⟨PQ, hPQ⟩ : ∃ PQ, PQ = mull (tzi (zcs p)) (tzi (zcs q)) := ⟨_, rfl⟩
    have bPQ : Cz PQ (2 * M0 + 1) := by rw [hPQ]; exact Cz_up (Cz_mull bA bB (by omega)) (by omega)
    have lPQ : PQ.length ≤ 80 := by rw [hPQ]; exact Nat.le_trans (mull_le _ _) (by omega)
    have tPQ : tzi PQ = PQ := by rw [hPQ]; exact mull_tzi _ _
    have m1 := zpmul_spec p q M0 (by omega) (by omega) (by omega) zp zq
    have m2 := zpmul_spec q p M0 (by omega) (by omega) (by omega) zq zp
    rw [mull_comm, ← hPQ] at m2
    rw [← hPQ] at m1
    have zPQ := Zk_nfl bPQ
    have s1 := tsameZ_spec (nfl PQ) (2 * M0 + 1) (by omega) (by rw [nfl_len]; omega) zPQ
    have cpq := (tcopyZ_spec (nfl PQ) (2 * M0 + 1) (by omega) (by rw [nfl_len]; omega) zPQ).frozen
    -- p (q + r)
    have a1 := zpadd_spec q r M0 (by omega) (by omega) (by omega) zq zr
    have bS := Cz_tzi (Cz_addl bQ bR)
    have lS : (tzi (addl (zcs q) (zcs r))).length ≤ 40 := Nat.le_trans (tzi_len _) (by rw [addl_len]; omega)
    have m3 := zpmul_spec p (nfl (tzi (addl (zcs q) (zcs r)))) (M0 + 1) (by omega) (by omega) (by rw [nfl_len]; omega) (zk_up zp (by omega)) (Zk_nfl bS)
    rw [zcs_nfl, tzi_idem] at m3
    obtain ⟨U, hU⟩ : ∃ U, U = mull (tzi (zcs p)) (tzi (addl (zcs q) (zcs r))) := ⟨_, rfl⟩
    have bU : Cz U (2 * (M0 + 1) + 1) := by rw [hU]; exact Cz_up (Cz_mull (Cz_up bA (Nat.le_succ M0)) bS (by omega)) (by omega)
    have lU : U.length ≤ 80 := by rw [hU]; exact Nat.le_trans (mull_le _ _) (by omega)
    have m4 := zpmul_spec p r M0 (by omega) (by omega) (by omega) zp zr
    have bPR : Cz (mull (tzi (zcs p)) (tzi (zcs r))) (2 * M0 + 1) := Cz_up (Cz_mull bA bC (by omega)) (by omega)
    have lPR : (mull (tzi (zcs p)) (tzi (zcs r))).length ≤ 80 := Nat.le_trans (mull_le _ _) (by omega)
    have a2 := zpadd_spec (nfl PQ) (nfl (mull (tzi (zcs p)) (tzi (zcs r)))) (2 * M0 + 1) (by omega) (by rw [nfl_len]; omega) (by rw [nfl_len]; omega) zPQ (Zk_nfl bPR)
    rw [zcs_nfl, zcs_nfl, show tzi (addl PQ (mull (tzi (zcs p)) (tzi (zcs r)))) = U from by
      rw [hU, mull_addl, hPQ]
      exact addl_congr (fun k => by rw [mull_congr (fun _ => rfl) (fun k => tzi_cf (zcs q) k)]) (fun k => by rw [mull_congr (fun _ => rfl) (fun k => tzi_cf (zcs r) k)])] at a2
    rw [← hU] at m3
    have s2 := tsameZ_spec (nfl U) (2 * (M0 + 1) + 1) (by omega) (by rw [nfl_len]; omega) (Zk_nfl bU)
    -- p + q - q
    have a3 := zpadd_spec p q M0 (by omega) (by omega) (by omega) zp zq
    have bS2 := Cz_tzi (Cz_addl bP bQ)
    have lS2 : (tzi (addl (zcs p) (zcs q))).length ≤ 40 := Nat.le_trans (tzi_len _) (by rw [addl_len]; omega)
    have d1 := zpsub_spec (nfl (tzi (addl (zcs p) (zcs q)))) q (M0 + 1) (by omega) (by omega) (by rw [nfl_len]; omega) (by omega) (Zk_nfl bS2) (zk_up zq (by omega))
    rw [zcs_nfl, sub_back] at d1
    have n1 := (zpnorm_spec p M0 (by omega) (by omega) zp).frozen
    have s3 := tsameZ_spec (nfl (tzi (zcs p))) M0 (by omega) (by rw [nfl_len]; omega) (Zk_nfl bA)
    -- derivatives
    have v1' := zpderiv_spec (nfl PQ) (2 * M0 + 1) (by omega) (by omega) (by rw [nfl_len]; omega) zPQ
    rw [zcs_nfl, tPQ] at v1'
    have v2' := zpderiv_spec p M0 (by omega) (by omega) (by omega) zp
    have v3' := zpderiv_spec q M0 (by omega) (by omega) (by omega) zq
    have bDA := Cz_drv' bA (by omega)
    have bDB := Cz_drv' bB (by omega)
    have lDA : (tzi (drv (tzi (zcs p)))).length ≤ 40 := Nat.le_trans (tzi_len _) (by rw [drv_len]; omega)
    have lDB : (tzi (drv (tzi (zcs q)))).length ≤ 40 := Nat.le_trans (tzi_len _) (by rw [drv_len]; omega)
    have m5 := zpmul_spec (nfl (tzi (drv (tzi (zcs p))))) q (M0 + 1) (by omega) (by rw [nfl_len]; omega) (by omega) (Zk_nfl bDA) (zk_up zq (by omega))
    rw [zcs_nfl, tzi_idem] at m5
    have m6 := zpmul_spec p (nfl (tzi (drv (tzi (zcs q))))) (M0 + 1) (by omega) (by omega) (by rw [nfl_len]; omega) (zk_up zp (by omega)) (Zk_nfl bDB)
    rw [zcs_nfl, tzi_idem] at m6
    have bE1 := Cz_mull bDA (Cz_up bB (Nat.le_succ M0)) (by omega)
    have bE2 := Cz_mull (Cz_up bA (Nat.le_succ M0)) bDB (by omega)
    have lE1 := mull_le (tzi (drv (tzi (zcs p)))) (tzi (zcs q))
    have lE2 := mull_le (tzi (zcs p)) (tzi (drv (tzi (zcs q))))
    have a4 := zpadd_spec (nfl (mull (tzi (drv (tzi (zcs p)))) (tzi (zcs q)))) (nfl (mull (tzi (zcs p)) (tzi (drv (tzi (zcs q)))))) (2 * (M0 + 1) + 1) (by omega) (by rw [nfl_len]; omega) (by rw [nfl_len]; omega) (Zk_nfl bE1) (Zk_nfl bE2)
    rw [zcs_nfl, zcs_nfl, ← drv_mull, ← hPQ] at a4
    have s4 := tsameZ_spec (nfl (tzi (drv PQ))) (2 * M0 + 1 + 1) (by omega) (by rw [nfl_len]; exact Nat.le_trans (tzi_len _) (by rw [drv_len]; omega)) (Zk_nfl (Cz_drv' bPQ (by omega)))
    -- degrees
    have g1 := zpdeg_spec p M0 (by omega) (by omega) zp
    have g2 := zpdeg_spec q M0 (by omega) (by omega) zq
    have g3 := zpdeg_spec (nfl PQ) (2 * M0 + 1) (by omega) (by rw [nfl_len]; omega) zPQ
    rw [zcs_nfl, tPQ] at g3
    have i1 := tiz_spec p M0 (by omega) (by omega) zp
    have gl : 0 < (tzi (zcs p)).length → 0 < (tzi (zcs q)).length → (PQ.length : Int) - 1 = ((tzi (zcs p)).length : Int) - 1 + (((tzi (zcs q)).length : Int) - 1) := fun h1 h2 => by
      have := mull_ln ea eb h1 h2
      rw [← hPQ] at this
      omega
    -- contents
    have o1 := zpcont_spec p M0 (by omega) (by omega) zp
    have o2 := zpcont_spec q M0 (by omega) (by omega) zq
    have o3 := zpcont_spec (nfl PQ) (2 * M0 + 1) (by omega) (by rw [nfl_len]; omega) zPQ
    rw [zcs_nfl] at o3
    have bcp : (cn (zcs p)).natAbs < B ^ M0 := by rw [cn_abs, ← gf_gN]; exact gf_lt zp
    have bcq : (cn (zcs q)).natAbs < B ^ M0 := by rw [cn_abs, ← gf_gN]; exact gf_lt zq
    have bcc : (cn PQ).natAbs < B ^ (2 * M0 + 1) := by rw [← zcs_nfl PQ, cn_abs, ← gf_gN]; exact gf_lt zPQ
    have r1 := zpprim_spec p M0 (by omega) (by omega) zp
    have r2 := zpprim_spec q M0 (by omega) (by omega) zq
    have r3 := zpprim_spec (nfl PQ) (2 * M0 + 1) (by omega) (by rw [nfl_len]; omega) zPQ
    rw [zcs_nfl] at r3
    have hcc : cn PQ = cn (zcs p) * cn (zcs q) := by rw [hPQ, cn_mull ea eb, cn_tzi, cn_tzi]
    have hpp : prm PQ = mull (tzi (prm (zcs p))) (tzi (prm (zcs q))) := by rw [hPQ, prm_mull ea eb, prm_of_tzi, prm_of_tzi, prm_tzi, prm_tzi]
    have bp : ∀ (l : List Int) (m : Nat), Cz l m → Cz (prm l) m := fun l m h i => by
      rw [prm_cf, Int.natAbs_tdiv]
      exact Nat.lt_of_le_of_lt (Nat.div_le_self _ _) (h i)
    have bl : ∀ (l : List Int), (prm l).length ≤ l.length := fun l => by
      unfold prm
      split
      · simp
      · exact Nat.le_trans (tzi_len _) (by rw [List.length_map]; exact Nat.le_refl _)
    have bp1 := bp _ _ bP
    have bp2 := bp _ _ bQ
    have bp3 := bp _ _ bPQ
    have bl1 := bl (zcs p)
    have bl2 := bl (zcs q)
    have bl3 := bl PQ
    have cpp := (tcopyZ_spec (nfl (prm (zcs p))) M0 (by omega) (by rw [nfl_len]; omega) (Zk_nfl bp1)).frozen
    have ci := tcopyI_spec (decide (cn (zcs p) < 0)) (dg B (cn (zcs p)).natAbs) (Nat.le_trans (dlen bcp) (by omega))
    have sc := zpscale_spec (nfl (prm (zcs p))) (decide (cn (zcs p) < 0)) (dg B (cn (zcs p)).natAbs) M0 (by omega) (by rw [nfl_len]; omega) (Zk_nfl bp1) (Wd_dg _) (dlen bcp)
    rw [zv_N, zcs_nfl, prm_back] at sc
    have m7 := zpmul_spec (nfl (prm (zcs p))) (nfl (prm (zcs q))) M0 (by omega) (by rw [nfl_len]; omega) (by rw [nfl_len]; omega) (Zk_nfl bp1) (Zk_nfl bp2)
    rw [zcs_nfl, zcs_nfl, ← hpp] at m7
    have s5 := tsameZ_spec (nfl (prm PQ)) (2 * M0 + 1) (by omega) (by rw [nfl_len]; omega) (Zk_nfl bp3)
    have zm := zmulN bcp bcq (by omega)
    rw [← hcc] at zm
    have s6 := tsameI_spec (decide (cn PQ < 0)) (dg B (cn PQ).natAbs) (Nat.le_trans (dlen bcc) (by omega))
    have da40 : (tzi (zcs p)).length ≤ 40 := by omega
    have db40 : (tzi (zcs q)).length ≤ 40 := by omega
    clear hcc hpp bp bcp bcq bcc bp1 bp2 bp3 bl bl1 bl2 bl3 hPQ hU bE1 bE2 lE1 lE2 bDA bDB lDA lDB bS bS2 lS lS2 bU lU bPR lPR bPQ lPQ zPQ bA bB bC bP bQ bR la lb lc zp zq zr
    generalize cn PQ = c3 at *
    generalize cn (zcs p) = c1 at *
    generalize cn (zcs q) = c2 at *
    generalize nfl (prm PQ) = w1 at *
    generalize nfl (prm (zcs p)) = w2 at *
    generalize nfl (prm (zcs q)) = w3 at *
    generalize nfl (tzi (drv PQ)) = w4 at *
    generalize nfl (mull (tzi (drv (tzi (zcs p)))) (tzi (zcs q))) = w5 at *
    generalize nfl (mull (tzi (zcs p)) (tzi (drv (tzi (zcs q))))) = w6 at *
    generalize nfl (tzi (drv (tzi (zcs p)))) = w7 at *
    generalize nfl (tzi (drv (tzi (zcs q)))) = w8 at *
    generalize nfl (tzi (addl (zcs p) (zcs q))) = w9 at *
    generalize nfl (tzi (addl (zcs q) (zcs r))) = w10 at *
    generalize nfl (mull (tzi (zcs p)) (tzi (zcs r))) = w11 at *
    generalize nfl (tzi (zcs p)) = w12 at *
    generalize nfl U = w13 at *
    generalize nfl PQ = w14 at *
    generalize (tzi (zcs p)).length = da at *
    generalize (tzi (zcs q)).length = db at *
    generalize PQ.length = dc at *
    have i64 : ∀ x : Int, -1000 ≤ x → x ≤ 1000 → IntKind.i64.wrap x = x := fun x h1 h2 => wi (by omega)
    rcases (show da = 0 ∨ 0 < da ∧ (db = 0 ∨ 0 < db) by omega) with rfl | ⟨hda, rfl | hdb⟩
    · have n2 : ((0 : Nat) : Int) - 1 = -1 := rfl
      have n3 : ¬ (0 : Int) ≤ -1 := by decide
      have n4 : decide ((0 : Nat) = 0) = true := rfl
      have gw : True := trivial
      have zc6 := cp
      have zc7 := cq
      have zc8 := cr
      have zc9 := m1
      have zc10 := m2
      have zc11 := s1
      have zc12 := a1
      have zc13 := m3
      have zc14 := cpq
      have zc15 := m4
      have zc16 := a2
      have zc17 := s2
      have zc18 := a3
      have zc19 := d1
      have zc20 := n1
      have zc21 := s3
      have zc22 := v1'
      have zc23 := v2'
      have zc24 := m5
      have zc25 := v3'
      have zc26 := m6
      have zc27 := a4
      have zc28 := s4
      have zc29 := g1
      have zc30 := g2
      have zc31 := i1
      have zc32 := g3
      have zc33 := o1
      have zc34 := r1
      have zc35 := cpp
      have zc36 := ci
      have zc37 := sc
      have zc38 := r3
      have zc39 := r2
      have zc40 := m7
      have zc41 := s5
      have zc42 := o3
      have zc43 := o2
      have zc44 := zm
      have zc45 := s6
      repeat first | (refine hK _ ?_; clear hK K) | simp only [Sv, ↓reduceIte, Nat.reduceEqDiff] | ((first | refine vm_reg (fun K hK => ?_) | refine vm_dreg (fun K hK => ?_) | refine vm_dregx (fun K hK => ?_) | refine clp_q ?_ | refine clq_mk (by assumption) ?_ | refine mcq_q ?_ | (apply mcr_mk; assumption)); simp (disch := (first | omega | assumption)) only [S1, ↓reduceIte, Nat.reduceEqDiff, Nat.reduceAdd, Nat.reduceMul, Nat.reduceDiv, AOp.sb, AOp.mut, ↓Bool.false_eq_true, beq_self_eq_true, ite_self, Nat.reduceLeDiff, Int.reduceEq, Int.reduceSub, Int.reduceAdd, Int.reduceNeg, Int.reduceLT, Int.reduceLE, Nat.reduceLT, bz_T3, v0, v1, v2, n2, n3, n4, gw, eq_self])
      simp (disch := (first | omega | assumption)) only [retOk, retN, ret1, retF, ret1F, V.okArg, and_true, true_and, S1, ↓reduceIte, Nat.reduceEqDiff, Nat.reduceAdd, Nat.reduceMul, Nat.reduceDiv, AOp.sb, AOp.mut, ↓Bool.false_eq_true, beq_self_eq_true, ite_self, Nat.reduceLeDiff, Int.reduceEq, Int.reduceSub, Int.reduceAdd, Int.reduceNeg, Int.reduceLT, Int.reduceLE, Nat.reduceLT, bz_T3, v0, v1, v2, n2, n3, n4, gw, eq_self]
    · have n2 : ¬ (da : Int) - 1 = -1 := by omega
      have n3 : (0 : Int) ≤ (da : Int) - 1 := by omega
      have n4 : ((0 : Nat) : Int) - 1 = -1 := rfl
      have gw : decide (da = 0) = false := decide_eq_false (by omega)
      have zc46 := cp
      have zc47 := cq
      have zc48 := cr
      have zc49 := m1
      have zc50 := m2
      have zc51 := s1
      have zc52 := a1
      have zc53 := m3
      have zc54 := cpq
      have zc55 := m4
      have zc56 := a2
      have zc57 := s2
      have zc58 := a3
      have zc59 := d1
      have zc60 := n1
      have zc61 := s3
      have zc62 := v1'
      have zc63 := v2'
      have zc64 := m5
      have zc65 := v3'
      have zc66 := m6
      have zc67 := a4
      have zc68 := s4
      have zc69 := g1
      have zc70 := g2
      have zc71 := i1
      have zc72 := g3
      have zc73 := o1
      have zc74 := r1
      have zc75 := cpp
      have zc76 := ci
      have zc77 := sc
      have zc78 := r3
      have zc79 := r2
      have zc80 := m7
      have zc81 := s5
      have zc82 := o3
      have zc83 := o2
      have zc84 := zm
      have zc85 := s6
      repeat first | (refine hK _ ?_; clear hK K) | simp only [Sv, ↓reduceIte, Nat.reduceEqDiff] | ((first | refine vm_reg (fun K hK => ?_) | refine vm_dreg (fun K hK => ?_) | refine vm_dregx (fun K hK => ?_) | refine clp_q ?_ | refine clq_mk (by assumption) ?_ | refine mcq_q ?_ | (apply mcr_mk; assumption)); simp (disch := (first | omega | assumption)) only [S1, ↓reduceIte, Nat.reduceEqDiff, Nat.reduceAdd, Nat.reduceMul, Nat.reduceDiv, AOp.sb, AOp.mut, ↓Bool.false_eq_true, beq_self_eq_true, ite_self, Nat.reduceLeDiff, Int.reduceEq, Int.reduceSub, Int.reduceAdd, Int.reduceNeg, Int.reduceLT, Int.reduceLE, Nat.reduceLT, bz_T3, v0, v1, v2, n2, n3, n4, gw, eq_self])
      simp (disch := (first | omega | assumption)) only [retOk, retN, ret1, retF, ret1F, V.okArg, and_true, true_and, S1, ↓reduceIte, Nat.reduceEqDiff, Nat.reduceAdd, Nat.reduceMul, Nat.reduceDiv, AOp.sb, AOp.mut, ↓Bool.false_eq_true, beq_self_eq_true, ite_self, Nat.reduceLeDiff, Int.reduceEq, Int.reduceSub, Int.reduceAdd, Int.reduceNeg, Int.reduceLT, Int.reduceLE, Nat.reduceLT, bz_T3, v0, v1, v2, n2, n3, n4, gw, eq_self]
    · have n2 : ¬ (da : Int) - 1 = -1 := by omega
      have n3 : (0 : Int) ≤ (da : Int) - 1 := by omega
      have n4 : (0 : Int) ≤ (db : Int) - 1 := by omega
      have gw1 : decide (da = 0) = false := decide_eq_false (by omega)
      have gw : IntKind.i64.wrap ((da : Int) - 1 + ((db : Int) - 1)) = (dc : Int) - 1 := by rw [gl hda hdb]; exact i64 _ (by omega) (by omega)
      have zc86 := cp
      have zc87 := cq
      have zc88 := cr
      have zc89 := m1
      have zc90 := m2
      have zc91 := s1
      have zc92 := a1
      have zc93 := m3
      have zc94 := cpq
      have zc95 := m4
      have zc96 := a2
      have zc97 := s2
      have zc98 := a3
      have zc99 := d1
      have zc100 := n1
      have zc101 := s3
      have zc102 := v1'
      have zc103 := v2'
      have zc104 := m5
      have zc105 := v3'
      have zc106 := m6
      have zc107 := a4
      have zc108 := s4
      have zc109 := g1
      have zc110 := g2
      have zc111 := i1
      have zc112 := g3
      have zc113 := o1
      have zc114 := r1
      have zc115 := cpp
      have zc116 := ci
      have zc117 := sc
      have zc118 := r3
      have zc119 := r2
      have zc120 := m7
      have zc121 := s5
      have zc122 := o3
      have zc123 := o2
      have zc124 := zm
      have zc125 := s6
      repeat first | (refine hK _ ?_; clear hK K) | simp only [Sv, ↓reduceIte, Nat.reduceEqDiff] | ((first | refine vm_reg (fun K hK => ?_) | refine vm_dreg (fun K hK => ?_) | refine vm_dregx (fun K hK => ?_) | refine clp_q ?_ | refine clq_mk (by assumption) ?_ | refine mcq_q ?_ | (apply mcr_mk; assumption)); simp (disch := (first | omega | assumption)) only [S1, ↓reduceIte, Nat.reduceEqDiff, Nat.reduceAdd, Nat.reduceMul, Nat.reduceDiv, AOp.sb, AOp.mut, ↓Bool.false_eq_true, beq_self_eq_true, ite_self, Nat.reduceLeDiff, Int.reduceEq, Int.reduceSub, Int.reduceAdd, Int.reduceNeg, Int.reduceLT, Int.reduceLE, Nat.reduceLT, bz_T3, v0, v1, v2, n2, n3, n4, gw, gw1, eq_self])
      simp (disch := (first | omega | assumption)) only [retOk, retN, ret1, retF, ret1F, V.okArg, and_true, true_and, S1, ↓reduceIte, Nat.reduceEqDiff, Nat.reduceAdd, Nat.reduceMul, Nat.reduceDiv, AOp.sb, AOp.mut, ↓Bool.false_eq_true, beq_self_eq_true, ite_self, Nat.reduceLeDiff, Int.reduceEq, Int.reduceSub, Int.reduceAdd, Int.reduceNeg, Int.reduceLT, Int.reduceLE, Nat.reduceLT, bz_T3, v0, v1, v2, n2, n3, n4, gw, gw1, eq_self]
  · intro r' ph
    have f0 : 40 < p0.length → p40 p0 = p0.take 40 := fun h => if_pos h
    have f1 : 40 < q0.length → p40 q0 = q0.take 40 := fun h => if_pos h
    have f2 : 40 < r0.length → p40 r0 = r0.take 40 := fun h => if_pos h
    have g0 : ¬ 40 < p0.length → p40 p0 = p0 := fun h => if_neg h
    have g1 : ¬ 40 < q0.length → p40 q0 = q0 := fun h => if_neg h
    have g2 : ¬ 40 < r0.length → p40 r0 = r0 := fun h => if_neg h
    by_cases a0 : (40 : Int) < (p0.length : Int) <;> by_cases a1 : (40 : Int) < (q0.length : Int) <;> by_cases a2 : (40 : Int) < (r0.length : Int)
    all_goals
      first | rw [f0 (by omega)] at ph | rw [g0 (by omega)] at ph
      first | rw [f1 (by omega)] at ph | rw [g1 (by omega)] at ph
      first | rw [f2 (by omega)] at ph | rw [g2 (by omega)] at ph
      simp (disch := (first | omega | assumption)) only [S1, ↓reduceIte, Nat.reduceEqDiff, Nat.reduceAdd, Nat.reduceMul, Nat.reduceDiv, AOp.sb, AOp.mut, ↓Bool.false_eq_true, beq_self_eq_true, ite_self, Nat.reduceLeDiff, Int.reduceEq, Int.reduceSub, Int.reduceAdd, Int.reduceNeg, Int.reduceLT, Int.reduceLE, Nat.reduceLT, bz_T3, a0]
      repeat first
        | (refine hK _ ?_; clear hK K)
        | ((first | refine vm_reg (fun K hK => ?_) | refine vm_dreg (fun K hK => ?_) | refine vm_dregx (fun K hK => ?_)); simp (disch := (first | omega | assumption)) only [S1, ↓reduceIte, Nat.reduceEqDiff, Nat.reduceAdd, Nat.reduceMul, Nat.reduceDiv, AOp.sb, AOp.mut, ↓Bool.false_eq_true, beq_self_eq_true, ite_self, Nat.reduceLeDiff, Int.reduceEq, Int.reduceSub, Int.reduceAdd, Int.reduceNeg, Int.reduceLT, Int.reduceLE, Nat.reduceLT, bz_T3, a0, a1, a2, hz0, hz1, hz2, hd0, hd1, hd2, t0, t1, t2]; refine hK _ ?_; clear hK K)
        | simp only [Sv, ↓reduceIte, Nat.reduceEqDiff]
      refine ph _ ?_
      exact ⟨rfl, rfl, rfl⟩
end Go.Proofs.Ytihcbbkiifglmaa
