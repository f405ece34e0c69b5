/-
  surdtop.SurdThrough: the law's walk.
-/
import Derived.Test.YtbkpaeejjepnpaaGreatVP5
namespace Go.Proofs.YtbkpaeejjepnpaaGreat
open Go Go.RowKit Ab
set_option linter.unusedSimpArgs false
set_option linter.unusedVariables false
set_option maxHeartbeats 10000000
theorem bz_VP6 : type_of% (And.intro @W_len (And.intro @D_len (And.intro @Nat.div_one (And.intro @Nat.mul_one (And.intro @tn_nat (And.intro @W_nf (And.intro @D_nf (And.intro @W_nil (And.intro @D_nil (And.intro @wi (And.intro @nf_g (And.intro @Bool.false_and (And.intro @W_cell (@RC_nf)))))))))))))) := And.intro @W_len (And.intro @D_len (And.intro @Nat.div_one (And.intro @Nat.mul_one (And.intro @tn_nat (And.intro @W_nf (And.intro @D_nf (And.intro @W_nil (And.intro @D_nil (And.intro @wi (And.intro @nf_g (And.intro @Bool.false_and (And.intro @W_cell (@RC_nf)))))))))))))
theorem rL_b (x : Bool × List Nat × List Nat) : rL x.1 x.2.1 x.2.2 = .g [.b x.1, .l 1 (W x.2.1), .l 1 (W x.2.2)] := rfl
theorem ptF_RC (acc : R3) (x : Bool × List Nat × List Nat) : RC acc ++ [.b x.1, .l 1 (W x.2.1), .l 1 (W x.2.2)] = RC (acc ++ [x]) := by rw [RC_app]; rfl
def a4 : AC := .seq (.reg [qr 5 (.bx 31 (.t 2)),
 qr 6 (.mv (.k (.b false)))])
 (.seq (.reg [qr 29 (.call 23 [(1, (.k (.i .i64 2))), (1, (.k (.i .i64 1)))]),
 qm 28 29,
 qr 30 (.ext (.t 28) 0),
 qr 31 (.ext (.t 28) 1),
 qr 7 (.al 31 [(.b false), (.l 1 []), (.l 1 [])]),
 qn (.st 3 (.t 7) (.t 30)),
 qm 8 31])
 (.seq (.reg [qr 33 (.ld true 3 (.t 7)),
 qr 34 (.bsl 31 3 1 [(.b false), (.l 1 []), (.l 1 [])] [(0, (.t 33))]),
 qr 35 (.call 24 [(3, (.t 34))]),
 qm 32 35,
 qr 36 (.ext (.t 32) 0),
 qr 37 (.ext (.t 32) 1),
 qm 9 36,
 qm 10 37])
 (.seq (.seq (.dregx [(51, 53), (51, 54)] [qm 38 8,
 qr 39 (.bin .neq (.t 38) (.k (.i .i64 0))),
 qm 40 39,
 ⟨some 41, some (40, false), .mv (.t 10)⟩,
 ⟨some 42, some (40, false), .bin .neq (.t 41) (.k (.i .i64 0))⟩,
 qr 43 (.pick (.t 40) (.k (.b true)) (.t 42)),
 qm 44 43,
 ⟨some 45, some (44, false), .mv (.t 9)⟩,
 ⟨some 46, some (44, false), .len (.t 45)⟩,
 ⟨some 47, some (44, false), .bin .neq (.t 46) (.k (.i .i64 2))⟩,
 qr 48 (.pick (.t 44) (.k (.b true)) (.t 47)),
 qm 49 48,
 ⟨some 50, some (49, false), .mv (.t 9)⟩,
 ⟨some 51, some (49, false), .idx 3 (.t 50) (.k (.i .i64 0))⟩,
 ⟨some 52, some (49, false), .ld true 3 (.t 51)⟩,
 ⟨some 53, some (49, false), .call 5 [(1, (.k (.i .i64 (-2))))]⟩,
 ⟨some 54, some (49, false), .call 6 []⟩,
 ⟨some 55, some (49, false), .bld [(.b false), (.l 1 []), (.l 1 [])] [(0, 2, (.t 53)), (2, 1, (.t 54))]⟩,
 ⟨some 56, some (49, false), .call 25 [(1, (.t 52)), (1, (.t 55))]⟩,
 ⟨some 57, some (49, false), .un .not (.t 56)⟩,
 qr 58 (.pick (.t 49) (.k (.b true)) (.t 57))])
 (.cond (.t 58)
 (.seq (.reg [qr 6 (.mv (.k (.b false)))])
 (.ret))
 (.skip)))
 (.seq (.seq (.reg [qm 59 0,
 qr 60 (.call 12 [(3, (.t 59))]),
 qr 61 (.un .not (.t 60)),
 qm 62 61,
 ⟨some 63, some (62, false), .mv (.t 1)⟩,
 ⟨some 64, some (62, false), .call 12 [(3, (.t 63))]⟩,
 ⟨some 65, some (62, false), .un .not (.t 64)⟩,
 qr 66 (.pick (.t 62) (.k (.b true)) (.t 65)),
 qm 67 66,
 ⟨some 68, some (67, false), .ld true 3 (.t 5)⟩,
 ⟨some 69, some (67, false), .call 26 [(1, (.t 68))]⟩,
 ⟨some 70, some (67, false), .un .not (.t 69)⟩,
 qr 71 (.pick (.t 67) (.k (.b true)) (.t 70)),
 qm 72 71,
 ⟨some 73, some (72, false), .mv (.t 0)⟩,
 ⟨some 74, some (72, false), .len (.t 73)⟩,
 ⟨some 75, some (72, false), .bin .gtr (.t 74) (.k (.i .i64 12))⟩,
 qr 76 (.pick (.t 72) (.k (.b true)) (.t 75))])
 (.cond (.t 76)
 (.seq (.reg [qr 6 (.mv (.k (.b true)))])
 (.ret))
 (.skip)))
 (.seq (.reg [qr 77 (.bsl 31 3 0 [] []),
 qm 11 77])
 (.seq (.seq (.reg [qm 78 1,
 qr 79 (.len (.t 78)),
 qr 80 (.mv (.k (.i .i64 0)))])
 (.blk 0
 (.loop
 (.seq (.reg [qr 81 (.bin .lss (.t 80) (.t 79))])
 (.seq (.cond (.t 81)
 (.skip)
 (.exit 0))
 (.seq (.blk 1
 (.seq (.reg [qr 82 (.idx 3 (.t 78) (.t 80)),
 qr 83 (.ld true 3 (.t 82)),
 qr 13 (.al 31 [(.b false), (.l 1 []), (.l 1 [])]),
 qn (.st 3 (.t 13) (.t 83))])
 (.seq (.reg [qr 14 (.mv (.k (.b true)))])
 (.seq (.seq (.reg [qm 84 11,
 qr 85 (.len (.t 84)),
 qr 86 (.mv (.k (.i .i64 0)))])
 (.blk 2
 (.loop
 (.seq (.reg [qr 87 (.bin .lss (.t 86) (.t 85))])
 (.seq (.cond (.t 87)
 (.skip)
 (.exit 2))
 (.seq (.blk 3
 (.seq (.reg [qr 88 (.idx 3 (.t 84) (.t 86)),
 qr 89 (.ld true 3 (.t 88)),
 qr 16 (.al 31 [(.b false), (.l 1 []), (.l 1 [])]),
 qn (.st 3 (.t 16) (.t 89))])
 (.seq (.dreg [qr 91 (.ld true 3 (.t 13)),
 qr 92 (.call 28 [(1, (.t 91))]),
 qr 93 (.ld true 3 (.t 16)),
 qr 94 (.call 28 [(1, (.t 93))]),
 qr 95 (.call 27 [(1, (.t 92)), (1, (.t 94))]),
 qm 90 95,
 qr 96 (.ext (.t 90) 0),
 qr 97 (.ext (.t 90) 1),
 qm 17 96,
 qm 18 97])
 (.reg [qm 98 14,
 qm 99 98,
 ⟨some 100, some (99, true), .mv (.t 18)⟩,
 ⟨some 101, some (99, true), .bin .eql (.t 100) (.k (.i .i64 0))⟩,
 qr 102 (.pick (.t 99) (.t 101) (.k (.b false))),
 qm 103 102,
 ⟨some 104, some (103, true), .mv (.t 17)⟩,
 ⟨some 105, some (103, true), .bin .neq (.t 104) (.k (.i .i64 0))⟩,
 qr 106 (.pick (.t 103) (.t 105) (.k (.b false))),
 qm 14 106]))))
 (.reg [qr 107 (.bin .add (.t 86) (.k (.i .i64 1))),
 qm 86 107])))))))
 (.seq (.reg [qm 108 14,
 qm 109 108,
 ⟨some 110, some (109, true), .mv (.t 11)⟩,
 ⟨some 111, some (109, true), .len (.t 110)⟩,
 ⟨some 112, some (109, true), .mv (.t 0)⟩,
 ⟨some 113, some (109, true), .len (.t 112)⟩,
 ⟨some 114, some (109, true), .bin .lss (.t 111) (.t 113)⟩,
 qr 115 (.pick (.t 109) (.t 114) (.k (.b false)))])
 (.cond (.t 115)
 (.reg [qm 116 11,
 qr 117 (.ld true 3 (.t 13)),
 qr 118 (.call 28 [(1, (.t 117))]),
 qr 119 (.bsl 31 3 1 [(.b false), (.l 1 []), (.l 1 [])] [(0, (.t 118))]),
 qr 120 (.app 31 3 56 (.t 116) (.t 119)),
 qm 11 120])
 (.skip)))))))
 (.reg [qr 121 (.bin .add (.t 80) (.k (.i .i64 1))),
 qm 80 121])))))))
 (.seq (.seq (.reg [qm 122 11,
 qr 123 (.len (.t 122)),
 qm 124 0,
 qr 125 (.len (.t 124)),
 qr 126 (.bin .lss (.t 123) (.t 125))])
 (.cond (.t 126)
 (.seq (.reg [qr 6 (.mv (.k (.b true)))])
 (.ret))
 (.skip)))
 (.seq (.reg [qr 127 (.bsl 31 3 0 [] []),
 qm 19 127])
 (.seq (.seq (.reg [qm 128 11,
 qr 129 (.len (.t 128)),
 qr 130 (.mv (.k (.i .i64 0)))])
 (.blk 4
 (.loop
 (.seq (.reg [qr 131 (.bin .lss (.t 130) (.t 129))])
 (.seq (.cond (.t 131)
 (.skip)
 (.exit 4))
 (.seq (.blk 5
 (.seq (.reg [qr 132 (.idx 3 (.t 128) (.t 130)),
 qr 133 (.ld true 3 (.t 132)),
 qr 21 (.al 31 [(.b false), (.l 1 []), (.l 1 [])]),
 qn (.st 3 (.t 21) (.t 133))])
 (.seq (.dreg [qm 135 0,
 qr 136 (.call 8 [(3, (.t 135))]),
 qr 137 (.ld true 3 (.t 21)),
 qr 138 (.call 28 [(1, (.t 137))]),
 qr 139 (.call 29 [(3, (.t 136)), (1, (.t 138))]),
 qm 134 139,
 qr 140 (.ext (.t 134) 0),
 qr 141 (.ext (.t 134) 1),
 qr 22 (.al 31 [(.b false), (.l 1 []), (.l 1 [])]),
 qn (.st 3 (.t 22) (.t 140)),
 qm 23 141])
 (.seq (.seq (.reg [qm 142 23,
 qr 143 (.bin .neq (.t 142) (.k (.i .i64 0)))])
 (.cond (.t 143)
 (.seq (.reg [qr 6 (.mv (.k (.b false)))])
 (.ret))
 (.skip)))
 (.reg [qm 144 19,
 qr 145 (.ld true 3 (.t 22)),
 qr 146 (.bsl 31 3 1 [(.b false), (.l 1 []), (.l 1 [])] [(0, (.t 145))]),
 qr 147 (.app 31 3 56 (.t 144) (.t 146)),
 qm 19 147])))))
 (.reg [qr 148 (.bin .add (.t 130) (.k (.i .i64 1))),
 qm 130 148])))))))
 (.seq (.reg [qm 150 11,
 qm 151 19,
 qr 152 (.call 30 [(3, (.t 150)), (3, (.t 151))]),
 qm 149 152,
 qr 153 (.ext (.t 149) 0),
 qr 154 (.ext (.t 149) 1),
 qm 24 153,
 qm 8 154])
 (.seq (.seq (.reg [qm 155 8,
 qr 156 (.bin .neq (.t 155) (.k (.i .i64 0)))])
 (.cond (.t 156)
 (.seq (.reg [qr 6 (.mv (.k (.b false)))])
 (.ret))
 (.skip)))
 (.seq (.dreg [qm 158 24,
 qr 159 (.call 8 [(3, (.t 158))]),
 qr 160 (.ld true 3 (.t 5)),
 qr 161 (.call 28 [(1, (.t 160))]),
 qr 162 (.call 29 [(3, (.t 159)), (1, (.t 161))]),
 qm 157 162,
 qr 163 (.ext (.t 157) 0),
 qr 164 (.ext (.t 157) 1),
 qr 25 (.al 31 [(.b false), (.l 1 []), (.l 1 [])]),
 qn (.st 3 (.t 25) (.t 163)),
 qm 8 164])
 (.seq (.dreg [qm 166 0,
 qr 167 (.call 8 [(3, (.t 166))]),
 qr 168 (.ld true 3 (.t 5)),
 qr 169 (.call 28 [(1, (.t 168))]),
 qr 170 (.call 29 [(3, (.t 167)), (1, (.t 169))]),
 qm 165 170,
 qr 171 (.ext (.t 165) 0),
 qr 172 (.ext (.t 165) 1),
 qr 26 (.al 31 [(.b false), (.l 1 []), (.l 1 [])]),
 qn (.st 3 (.t 26) (.t 171)),
 qm 27 172])
 (.seq (.reg [qm 173 8,
 qr 174 (.bin .eql (.t 173) (.k (.i .i64 0))),
 qm 175 174,
 ⟨some 176, some (175, true), .mv (.t 27)⟩,
 ⟨some 177, some (175, true), .bin .eql (.t 176) (.k (.i .i64 0))⟩,
 qr 178 (.pick (.t 175) (.t 177) (.k (.b false))),
 qm 179 178,
 ⟨some 180, some (179, true), .ld true 3 (.t 25)⟩,
 ⟨some 181, some (179, true), .ld true 3 (.t 26)⟩,
 ⟨some 182, some (179, true), .call 25 [(1, (.t 180)), (1, (.t 181))]⟩,
 qr 183 (.pick (.t 179) (.t 182) (.k (.b false))),
 qm 184 183,
 ⟨some 185, some (184, true), .mv (.t 24)⟩,
 ⟨some 186, some (184, true), .len (.t 185)⟩,
 ⟨some 187, some (184, true), .mv (.t 0)⟩,
 ⟨some 188, some (184, true), .len (.t 187)⟩,
 ⟨some 189, some (184, true), .bin .leq (.t 186) (.t 188)⟩,
 qr 190 (.pick (.t 184) (.t 189) (.k (.b false))),
 qm 6 190])
 (.ret)))))))))))))))
set_option maxRecDepth 100000 in
theorem surdThrough_spec (l xs : R3) (s : Bool) (a d : List Nat) (m : Nat) (hm : m ≤ 1048577) (hT : wt l + wt xs + (a.length + d.length) ≤ 1048576) (ll : l.length ≤ 1048576) (lx : xs.length ≤ 1048576) (hl : Qw l m) (hx : Qw xs m) (ha : Wd a) (hd : Wd d) :
    AFun Tryz.prog J0 4 [.l 3 (RC l), .l 3 (RC xs), rL s a d] (.b true) := by
  have hzl := RC_len l
  have hzx := RC_len xs
  have hdl : l.length * 3 / 3 = l.length := by omega
  have hdx : xs.length * 3 / 3 = xs.length := by omega
  have o1 := (pqof 2 1 1 (by decide) (by decide) (by decide) (by decide)).1
  rw [show mkRat 2 1 = (2 : Rat) from by decide +kernel, rN_b, show ((1 : Nat) : Int) = 1 from rfl] at o1
  have o2 := froots2
  have d2 : dg B 2 = [2] := by decide +kernel
  have d1 : dg B 1 = [1] := by decide +kernel
  rw [show RC (nfq [(2 : Rat)]) = [.b (decide ((2 : Rat).num < 0)), .l 1 (W (dg B (2 : Rat).num.natAbs)), .l 1 (W (dg B (2 : Rat).den))] from rfl,
    show RC (nfq [(-2 : Rat), 1]) = [.b true, .l 1 (W (dg B 2)), .l 1 (W (dg B 1)), .b false, .l 1 (W (dg B 1)), .l 1 (W (dg B 1))] from rfl, d2, d1] at o2
  have o3 := twholem2
  have o4 := tone_spec.frozen
  have o5 := tsameR_spec true [2] [1] (by decide) (by decide)
  rw [show rL true [2] [1] = .g [.b true, .l 1 [.i .u64 2], .l 1 [.i .u64 1]] from rfl] at o5
  rw [show W [2] = [V.i .u64 2] from rfl, show W [1] = [V.i .u64 1] from rfl] at o2
  generalize (2 : Rat) = two at *
  rw [show rL s a d = .g [.b s, .l 1 (W a), .l 1 (W d)] from rfl]
  have m1 := tmeansP_spec l m (by omega) (by omega) hl
  have m2 := tmeansP_spec xs m (by omega) (by omega) hx
  have m3 := tmeans_spec s a d hd (by omega)
  rw [show rL s a d = .g [.b s, .l 1 (W a), .l 1 (W d)] from rfl] at m3
  refine mkQ fol J0s Tryz.func4 a4 ?_
  unfold a4
  simp only [init_eq, initE, qm, qr, qn]
  by_cases e1 : ce l = 0
  · rw [decide_eq_true e1] at m1
    by_cases e2 : ce xs = 0
    · rw [decide_eq_true e2] at m2
      by_cases e3 : nv B d = 0
      · rw [decide_eq_false (fun h => h e3)] at m3
        exact wdQ @bz_VP6
      · rw [decide_eq_true e3] at m3
        by_cases e4 : (12 : Int) < (l.length : Int)
        · have zc1 := o1
          exact wdQ (ai @e4 (ai @hzl (ai @hdl @bz_VP6)))
        · obtain ⟨n, hn⟩ : ∃ n, l.length = n := ⟨_, rfl⟩
          rw [hn] at hdl hzl e4
          have kl := Qw_k hl e1
          have kx := Qw_k hx e2
          refine wkQ (ai @hdx (ai @hzx (ai @e4 (ai @hzl (ai @hdl @bz_VP6))))) ?_
          refine vm_loopA [] Nat (fun i => ⟨[(0, .l 3 (RC l)), (5, .pt 0 0), (11, .ow 3 1 (ptF xs n i).length), (78, .l 3 (RC xs)), (79, .i .i64 (xs.length : Int)), (80, .i .i64 (i : Int))], [(0, some ⟨31, 3, [.b s, .l 1 (W a), .l 1 (W d)], true, true⟩), (1, some ⟨31, 3, RC (ptF xs n i), true, false⟩)], 2⟩)
            (fun i => i ≤ xs.length) (fun i => xs.length - i) 0 (Nat.zero_le _) (by exact leQ) (by
            rw [show ptF xs n 0 = [] from rfl]
            exact ltQ) ?_
          intro i hi Q' hQ he hr
          by_cases h : (i : Int) < (xs.length : Int)
          · have r1 := RC_row xs i (by omega)
            change ((RC xs).drop (i * 3)).take 3 = [.b (xs.getD i nul3).1, .l 1 (W (xs.getD i nul3).2.1), .l 1 (W (xs.getD i nul3).2.2)] at r1
            obtain ⟨w1, w2, l1, l2, h0⟩ := kx _ (getD_mem (l := xs) (i := i) (by omega))
            obtain ⟨p1, p2, p3⟩ := ptF_ok (n := n) kx i (by omega)
            have hnx : ptF xs n (i + 1) = pst n (ptF xs n i) (xs.getD i nul3) := rfl
            have hxr := Rr_raw (s := (xs.getD i nul3).1) w1 w2 l1 l2 h0
            have c1 := tcopyR_spec (xs.getD i nul3).1 (xs.getD i nul3).2.1 (xs.getD i nul3).2.2 (by omega) (by omega)
            rw [rL_b] at c1
            clear p3
            generalize xs.getD i nul3 = x at *
            generalize ptF xs n i = acc at *
            have hza := RC_len acc
            have hda : acc.length * 3 / 3 = acc.length := by omega
            refine spQ (ai @hda (ai @hza (ai @r1 (ai @hzx (ai @h @bz_VP6))))) ?_
            refine vm_loopA [] Nat (fun j => ⟨[(0, .l 3 (RC l)), (5, .pt 0 0), (11, .ow 3 1 acc.length), (13, .pt 2 0), (14, .b (frs acc x j)), (78, .l 3 (RC xs)), (79, .i .i64 (xs.length : Int)), (80, .i .i64 (i : Int)), (84, .ow 3 1 acc.length), (85, .i .i64 (acc.length : Int)), (86, .i .i64 (j : Int))],
                [(0, some ⟨31, 3, [.b s, .l 1 (W a), .l 1 (W d)], true, true⟩), (1, some ⟨31, 3, RC acc, true, false⟩), (2, some ⟨31, 3, [.b x.1, .l 1 (W x.2.1), .l 1 (W x.2.2)], true, true⟩)], 3⟩)
              (fun j => j ≤ acc.length) (fun j => acc.length - j) 0 (Nat.zero_le _) (by exact leQ) (by
              rw [show frs acc x 0 = true from by simp [frs]]
              exact ltQ) ?_
            intro j hj Q2 hQ2 he2 hr2
            by_cases h2 : (j : Int) < (acc.length : Int)
            · have r2 := RC_row acc j (by omega)
              change ((RC acc).drop (j * 3)).take 3 = [.b (acc.getD j nul3).1, .l 1 (W (acc.getD j nul3).2.1), .l 1 (W (acc.getD j nul3).2.2)] at r2
              obtain ⟨u1, u2, u3, u4, u5⟩ := p2 _ (getD_mem (l := acc) (i := j) (by omega))
              have c2 := tcopyR_spec (acc.getD j nul3).1 (acc.getD j nul3).2.1 (acc.getD j nul3).2.2 (by omega) (by omega)
              have c3 := qcmpR hxr (Rr_raw (s := (acc.getD j nul3).1) u1 u2 u3 u4 u5) (by omega)
              rw [rL_b] at c2
              rw [rL_b, rL_b] at c3
              have hf := frs_succ (x := x) (show j < acc.length by omega)
              have hcc : cq (mkRat (zv x.1 x.2.1) (nv B x.2.2)) (mkRat (zv (acc.getD j nul3).1 (acc.getD j nul3).2.1) (nv B (acc.getD j nul3).2.2)) = 0 ↔ qvp x = qvp (acc.getD j nul3) := cq_0 _ _
              generalize cq (mkRat (zv x.1 x.2.1) (nv B x.2.2)) (mkRat (zv (acc.getD j nul3).1 (acc.getD j nul3).2.1) (nv B (acc.getD j nul3).2.2)) = c at *
              generalize acc.getD j nul3 = y at *
              generalize frs acc x j = fj at *
              by_cases hc : c = 0
              · have e : frs acc x (j + 1) = false := by rw [hf]; simp [hcc.1 hc]
                cases fj
                · have zc2 := c1
                  refine wkQ (ai @r2 (ai @hza (ai @h2 @bz_VP6))) ?_
                  refine hQ2 _ (j + 1) (by omega) (by omega) ?_
                  rw [e]
                  exact ltQ
                · have zc3 := c1
                  refine wkQ (ai @hc (ai @r2 (ai @hza (ai @h2 @bz_VP6)))) ?_
                  refine hQ2 _ (j + 1) (by omega) (by omega) ?_
                  rw [e]
                  exact ltQ
              · have e : frs acc x (j + 1) = fj := by
                  rw [hf]; simp [show ¬ qvp x = qvp y from fun h => hc (hcc.2 h)]
                cases fj
                · have zc4 := c1
                  refine wkQ (ai @r2 (ai @hza (ai @h2 @bz_VP6))) ?_
                  refine hQ2 _ (j + 1) (by omega) (by omega) ?_
                  rw [e]
                  exact ltQ
                · have zc5 := c1
                  refine wkQ (ai @hc (ai @r2 (ai @hza (ai @h2 @bz_VP6)))) ?_
                  refine hQ2 _ (j + 1) (by omega) (by omega) ?_
                  rw [e]
                  exact ltQ
            · obtain rfl : j = acc.length := by omega
              refine spQ (ai @h2 @bz_VP6) ?_
              refine he2 _ _ ?_
              by_cases hfr : frs acc x acc.length = true
              · rw [hfr]
                by_cases hlt : (acc.length : Int) < (n : Int)
                · have hap := ptF_RC acc x
                  have hzb := RC_len (acc ++ [x])
                  rw [List.length_append, List.length_singleton] at hzb
                  have e : ptF xs n (i + 1) = acc ++ [x] := by rw [hnx]; unfold pst; rw [if_pos ⟨hfr, by omega⟩]
                  refine wkQ (ai @hap (ai @hlt (ai @hdl (ai @hzl (ai @hda (ai @hza @bz_VP6)))))) ?_
                  refine hQ _ (i + 1) (by omega) (by omega) ?_
                  rw [e, List.length_append, List.length_singleton]
                  exact ltQ
                · have e : ptF xs n (i + 1) = acc := by rw [hnx]; unfold pst; rw [if_neg (fun h => by omega)]
                  refine spQ (ai @hlt (ai @hdl (ai @hzl (ai @hda (ai @hza @bz_VP6))))) ?_
                  refine hQ _ (i + 1) (by omega) (by omega) ?_
                  rw [e]
                  exact ltQ
              · have e : ptF xs n (i + 1) = acc := by rw [hnx]; unfold pst; rw [if_neg (fun h => hfr h.1)]
                rw [Bool.eq_false_iff.2 hfr]
                refine spQ @bz_VP6 ?_
                refine hQ _ (i + 1) (by omega) (by omega) ?_
                rw [e]
                exact ltQ
          · obtain rfl : i = xs.length := by omega
            obtain ⟨p1, p2, p3⟩ := ptF_ok (n := n) kx xs.length (Nat.le_refl _)
            have p4 := ptF_wt xs n xs.length (Nat.le_refl _)
            rw [List.take_length] at p4
            refine spQ (ai @h @bz_VP6) ?_
            refine he _ _ ?_
            generalize ptF xs n xs.length = k at *
            have hzk := RC_len k
            have hdk : k.length * 3 / 3 = k.length := by omega
            by_cases hlt : (k.length : Int) < (n : Int)
            · refine spQ (ai @hlt (ai @hdl (ai @hzl (ai @hdk (ai @hzk @bz_VP6))))) ?_
              exact rtQ @bz_VP6
            · obtain rfl : k.length = n := by omega
              obtain ⟨ys, S, v, y1, y2, g1, g2, g3, g4, g5, g6⟩ := thr_calls hm kl p2 hn rfl (by omega) (fun i j hi hj => p3 i j hi hj) ha hd e3 (by omega)
              rw [show rL s a d = .g [.b s, .l 1 (W a), .l 1 (W d)] from rfl] at g4 g5
              have cl := tcopyP_spec l m (by omega) (by omega) (Qw_Ql hl)
              have ca := tcopyR_spec s a d (by omega) (by omega)
              rw [show rL s a d = .g [.b s, .l 1 (W a), .l 1 (W d)] from rfl] at ca
              simp only [rN_b] at g1 g4 g5 g6
              clear o1 o2 o3 o4 o5 m1 m2 m3
              refine spQ (ai @hlt (ai @hdl (ai @hzl (ai @hdk (ai @hzk @bz_VP6))))) ?_
              refine vm_loopA [] Nat (fun j => ⟨[(0, .l 3 (RC l)), (5, .pt 0 0), (11, .ow 3 1 k.length), (19, .ow 3 2 j), (128, .ow 3 1 k.length), (129, .i .i64 (k.length : Int)), (130, .i .i64 (j : Int))],
                  [(0, some ⟨31, 3, [.b s, .l 1 (W a), .l 1 (W d)], true, true⟩), (1, some ⟨31, 3, RC k, true, false⟩), (2, some ⟨31, 3, RC (nfq (ys.take j)), true, false⟩)], 3⟩)
                (fun j => j ≤ k.length) (fun j => k.length - j) 0 (Nat.zero_le _) (by exact leQ) (by
                rw [show RC (nfq (ys.take 0)) = [] from rfl]
                exact ltQ) ?_
              intro j hj Q2 hQ2 he2 hr2
              by_cases h2 : (j : Int) < (k.length : Int)
              · have r2 := RC_row k j (by omega)
                change ((RC k).drop (j * 3)).take 3 = [.b (k.getD j nul3).1, .l 1 (W (k.getD j nul3).2.1), .l 1 (W (k.getD j nul3).2.2)] at r2
                obtain ⟨u1, u2, u3, u4, u5⟩ := p2 _ (getD_mem (l := k) (i := j) (by omega))
                have c2 := tcopyR_spec (k.getD j nul3).1 (k.getD j nul3).2.1 (k.getD j nul3).2.2 (by omega) (by omega)
                have gj := g1 j (by omega)
                rw [rL_b] at c2 gj
                have hap := QC_app1 (ys.take j) (ys.getD j 0)
                rw [show ys.take j ++ [ys.getD j 0] = ys.take (j + 1) from by rw [List.take_succ_eq_append_getElem (by omega), List.getD_eq_getElem?_getD, List.getElem?_eq_getElem (by omega)]; rfl] at hap
                have l0 := QC_len (ys.take j)
                have l3 := QC_len (ys.take (j + 1))
                rw [List.length_take] at l0 l3
                clear g1 g2 g3 g4 g5 g6
                generalize ys.getD j 0 = yj at *
                generalize k.getD j nul3 = x at *
                refine wkQ (ai @hap (ai @r2 (ai @hzk (ai @h2 @bz_VP6)))) ?_
                refine hQ2 _ (j + 1) (by omega) (by omega) ?_
                exact ltQ
              · obtain rfl : j = k.length := by omega
                have ey : ys.take k.length = ys := by rw [← y1, List.take_length]
                refine spQ (ai @h2 @bz_VP6) ?_
                refine he2 _ _ ?_
                rw [ey]
                have hzS := QC_len S
                have hdS : S.length * 3 / 3 = S.length := by omega
                have hzy := QC_len ys
                have hle : (S.length : Int) ≤ (k.length : Int) := by omega
                clear g1
                have zc6 := g2
                have zc7 := g3
                have zc8 := g4
                have zc9 := g5
                have zc10 := g6
                exact wdQ (ai @hle (ai @hdl (ai @hzl (ai @hdS (ai @hzS @bz_VP6)))))
    · rw [decide_eq_false e2] at m2
      exact wdQ @bz_VP6
  · rw [decide_eq_false e1] at m1
    exact wdQ @bz_VP6
end Go.Proofs.YtbkpaeejjepnpaaGreat
