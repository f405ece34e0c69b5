/-
  Texts: digits read, integers read, by the program.
-/
import Derived.Test.YtgejbndgakgfnaaGreatDoorZT0
import Derived.Test.YtgejbndgakgfnaaGreatDoorDU4
import Derived.Test.YtgejbndgakgfnaaGreatDoorDD1
namespace Go.Proofs.YtgejbndgakgfnaaGreatDoor
open Go Go.RowKit Ab
set_option linter.unusedSimpArgs false
set_option linter.unusedVariables false
set_option maxHeartbeats 10000000
theorem bz_ZT1 : type_of% (And.intro @W_len (And.intro @Nat.div_one (And.intro @Nat.mul_one (And.intro @tn_nat (And.intro @W_nf (And.intro @W_nil (And.intro @wi (And.intro @nf_g (And.intro @Bool.false_and (And.intro @W_cell (@W_get))))))))))) := And.intro @W_len (And.intro @Nat.div_one (And.intro @Nat.mul_one (And.intro @tn_nat (And.intro @W_nf (And.intro @W_nil (And.intro @wi (And.intro @nf_g (And.intro @Bool.false_and (And.intro @W_cell (@W_get))))))))))
def vlI (c : UInt8) : Int := if isDg c then (dvl c : Int) else -1
theorem tab10_get : ∀ i : Nat, i < 10 → (match (List.take (Int.toNat 10) tab_0).getD i .un with | .i .u8 n => decide (n = ((48 + i : Nat) : Int)) | _ => false) = true := by decide +kernel
theorem tab10 {i : Nat} (h : i < 10) : (List.take (Int.toNat 10) tab_0).getD i .un = .i .u8 ((48 + i : Nat) : Int) := by
  have := tab10_get i h
  split at this
  · rename_i n e; rw [e]; simp at this; rw [this]; rfl
  · cases this
theorem tab10_len : (List.take (Int.toNat 10) tab_0).length = 10 := rfl
theorem tab10_nf : anyNF (List.take (Int.toNat 10) tab_0) = false := by decide +kernel
def a128 : AC := .seq (.reg [qr 4 (.mv (.k (.i .i64 0)))])
 (.seq (.seq (.reg [qm 6 0,
 qr 7 (.len (.t 6)),
 qr 8 (.mv (.k (.i .i64 0)))])
 (.blk 0
 (.loop
 (.seq (.reg [qr 9 (.bin .lss (.t 8) (.t 7))])
 (.seq (.cond (.t 9)
 (.skip)
 (.exit 0))
 (.seq (.blk 1
 (.seq (.reg [qm 10 8,
 qm 5 10])
 (.seq (.reg [qm 11 1,
 qm 12 0,
 qm 13 5,
 qr 14 (.idx 1 (.t 12) (.t 13)),
 qr 15 (.ld false 1 (.t 14)),
 qr 16 (.bin .eql (.t 11) (.t 15))])
 (.cond (.t 16)
 (.seq (.reg [qm 17 5,
 qm 4 17])
 (.ret))
 (.skip)))))
 (.reg [qr 18 (.bin .add (.t 8) (.k (.i .i64 1))),
 qm 8 18])))))))
 (.seq (.reg [qr 4 (.mv (.k (.i .i64 (-1))))])
 (.ret)))
theorem ix10_spec (L : List V) (hl : L.length = 10) (hn : anyNF L = false) (hg : ∀ i, i < 10 → L.getD i .un = .i .u8 ((48 + i : Nat) : Int)) (c : UInt8) : AFun Tryz.prog J0 128 [.l 1 L, .i .u8 (c.toNat : Int)] (.i .i64 (vlI c)) := by
  refine mkQ fol J0s Tryz.func128 a128 ?_
  unfold a128
  simp only [init_eq, initE, qm, qr, qn]
  refine spQ (ai @lconsA (ai @lnilA @bz_ZT1)) ?_
  refine vm_loopA [] Nat (fun i => ⟨[(0, .l 1 L), (1, .i .u8 (c.toNat : Int)), (7, .i .i64 (L.length : Int)), (8, .i .i64 (i : Int))], [], 0⟩) (fun i => i ≤ L.length ∧ ∀ j, j < i → c.toNat ≠ 48 + j) (fun i => L.length - i) 0 ⟨Nat.zero_le _, fun j hj => absurd hj (Nat.not_lt_zero j)⟩ (by exact leQ) (by
    simp (disch := (first | omega | assumption)) only [Sl, Sa, Sw, ↓reduceIte, Nat.reduceEqDiff, Nat.reduceLT, List.all_nil, List.all_cons, Nat.reduceBneDiff, Nat.reduceAdd, bne_iff_ne, ne_eq, reduceCtorEq, not_false_eq_true, not_true_eq_false, Bool.and_true, Bool.true_and, and_true, true_and, and_self, i_eq]
    try rfl) ?_
  rintro i ⟨hi, hj⟩ Q' hQ he hr
  by_cases h : (i : Int) < (L.length : Int)
  · have hgi := hg i (by omega)
    have hil : i < L.length := by omega
    by_cases h2 : (c.toNat : Int) = ((48 + i : Nat) : Int)
    · have e : vlI c = (i : Int) := by
        have hd : isDg c = true := by unfold isDg; rw [decide_eq_true_eq]; omega
        unfold vlI dvl
        rw [if_pos hd]; omega
      refine spQ (ai @h2 (ai @hgi (ai @h (ai @lconsA (ai @lnilA @bz_ZT1))))) ?_
      refine hr _ ?_
      exact pdQ (ai @e (ai @lconsA (ai @lnilA @bz_ZT1)))
    · refine spQ (ai @h2 (ai @hgi (ai @h (ai @lconsA (ai @lnilA @bz_ZT1))))) ?_
      refine hQ _ (i + 1) ⟨by omega, fun j hj2 => ?_⟩ (by omega) ?_
      · rcases Nat.lt_or_ge j i with h3 | h3
        · exact hj j h3
        · rw [show j = i from by omega]; omega
      · simp (disch := (first | omega | assumption)) only [Sl, Sa, Sw, ↓reduceIte, Nat.reduceEqDiff, Nat.reduceLT, List.all_nil, List.all_cons, Nat.reduceBneDiff, Nat.reduceAdd, bne_iff_ne, ne_eq, reduceCtorEq, not_false_eq_true, not_true_eq_false, Bool.and_true, Bool.true_and, and_true, true_and, and_self, i_eq]
        repeat' first | rfl | omega | (simp only [List.length_append, List.length_cons, List.length_nil]; done) | apply And.intro
  · have e : vlI c = -1 := by
      unfold vlI
      rw [if_neg]
      unfold isDg
      rw [decide_eq_true_eq]
      intro h9
      exact hj (c.toNat - 48) (by omega) (by omega)
    refine spQ (ai @h (ai @lconsA (ai @lnilA @bz_ZT1))) ?_
    refine he _ _ ?_
    refine spQ (ai @lconsA (ai @lnilA @bz_ZT1)) ?_
    exact rtQ (ai @e (ai @lconsA (ai @lnilA @bz_ZT1)))
def a115 : AC := .seq (.reg [qr 4 (.mv (.k (.i .i64 0)))])
 (.seq (.reg [qm 5 1,
 qr 6 (.asl 36 1 (.k (.ip tab_0 0)) none (some (.t 5))),
 qm 7 0,
 qr 8 (.call 128 [(1, (.t 6)), (1, (.t 7))]),
 qm 4 8])
 (.ret))
theorem value_spec (c : UInt8) : AFun Tryz.prog J0 115 [.i .u8 (c.toNat : Int), .i .i64 10] (.i .i64 (vlI c)) := by
  have h := ix10_spec _ tab10_len tab10_nf (fun i hi => tab10 hi) c
  have htl : tab_0.length = 36 := rfl
  refine mkQ fol J0s Tryz.func115 a115 ?_
  unfold a115
  simp only [init_eq, initE, qm, qr, qn]
  exact wdQ (ai @htl (ai @lconsA (ai @lnilA @bz_ZT1)))
theorem rev_setD {s : List UInt8} {i : Nat} (hi : i < s.length) : (List.replicate (s.length - i) (0 : Nat) ++ (s.take i).reverse.map dvl).set (s.length - 1 - i) (dvl (s.getD i 0)) = List.replicate (s.length - (i + 1)) 0 ++ (s.take (i + 1)).reverse.map dvl := by
  have e1 : s.length - i = (s.length - (i + 1)) + 1 := by omega
  rw [List.take_succ_eq_append_getElem hi, List.reverse_append, List.reverse_singleton, List.singleton_append, List.map_cons, e1, List.replicate_succ', List.append_assoc, List.set_append_right _ _ (by rw [List.length_replicate]; omega), List.length_replicate, show s.length - 1 - i - (s.length - (i + 1)) = 0 from by omega]
  rw [List.getD_eq_getElem?_getD, List.getElem?_eq_getElem hi]
  rfl
theorem rev_lenD {s : List UInt8} {i : Nat} (hi : i ≤ s.length) : (List.replicate (s.length - i) (0 : Nat) ++ (s.take i).reverse.map dvl).length = s.length := by
  rw [List.length_append, List.length_replicate, List.length_map, List.length_reverse, List.length_take]; omega
def nuV (s : List UInt8) : List Nat := if okN s then dg B (numT s) else []
def nuE (s : List UInt8) : Int := if okN s then 0 else 5
theorem nu_neg {s : List UInt8} (h : ¬ okN s = true) : nuV s = [] ∧ nuE s = 5 := ⟨if_neg h, if_neg h⟩
theorem nu_pos {s : List UInt8} (h : okN s = true) : nuV s = dg B (numT s) ∧ nuE s = 0 := ⟨if_pos h, if_pos h⟩
def a95 : AC := .seq (.reg [qr 4 (.mv (.k .nl)),
 qr 5 (.mv (.k (.i .i64 0)))])
 (.seq (.seq (.dreg [qm 9 0,
 qr 10 (.bin .eql (.t 9) (.k (.s []))),
 qm 11 10,
 ⟨some 12, some (11, false), .mv (.t 0)⟩,
 ⟨some 13, some (11, false), .slen (.t 12)⟩,
 ⟨some 14, some (11, false), .bin .gtr (.t 13) (.k (.i .i64 1))⟩,
 ⟨some 15, some (11, false), .mv (.t 14)⟩,
 ⟨some 16, some (15, true), .mv (.t 0)⟩,
 ⟨some 17, some (15, true), .six (.t 16) (.k (.i .i64 0))⟩,
 ⟨some 18, some (15, true), .aix 36 1 (.k (.ip tab_0 0)) (.k (.i .i64 0))⟩,
 ⟨some 19, some (15, true), .ld false 1 (.t 18)⟩,
 ⟨some 20, some (15, true), .bin .eql (.t 17) (.t 19)⟩,
 ⟨some 21, some (11, false), .pick (.t 15) (.t 20) (.k (.b false))⟩,
 qr 22 (.pick (.t 11) (.k (.b true)) (.t 21))])
 (.cond (.t 22)
 (.seq (.reg [qr 4 (.mv (.k .nl)),
 qr 5 (.mv (.k (.i .i64 5)))])
 (.ret))
 (.skip)))
 (.seq (.reg [qm 23 0,
 qr 24 (.slen (.t 23)),
 qr 25 (.mk 33 1 8 [(.i .u64 0)] (.t 24) (.t 24)),
 qm 6 25])
 (.seq (.seq (.reg [qm 26 0,
 qr 27 (.slen (.t 26)),
 qr 28 (.mv (.k (.i .i64 0)))])
 (.blk 0
 (.loop
 (.seq (.reg [qr 29 (.bin .lss (.t 28) (.t 27))])
 (.seq (.cond (.t 29)
 (.skip)
 (.exit 0))
 (.seq (.blk 1
 (.seq (.reg [qm 30 28,
 qm 7 30])
 (.seq (.reg [qm 31 0,
 qm 32 7,
 qr 33 (.six (.t 31) (.t 32)),
 qm 34 1,
 qr 35 (.call 115 [(1, (.t 33)), (1, (.t 34))]),
 qm 8 35])
 (.seq (.seq (.reg [qm 36 8,
 qr 37 (.bin .lss (.t 36) (.k (.i .i64 0)))])
 (.cond (.t 37)
 (.seq (.reg [qr 4 (.mv (.k .nl)),
 qr 5 (.mv (.k (.i .i64 5)))])
 (.ret))
 (.skip)))
 (.reg [qm 38 6,
 qm 39 0,
 qr 40 (.slen (.t 39)),
 qr 41 (.bin .sub (.t 40) (.k (.i .i64 1))),
 qm 42 7,
 qr 43 (.bin .sub (.t 41) (.t 42)),
 qm 44 8,
 qr 45 (.cvt .u64 (.t 44)),
 qr 46 (.idx 1 (.t 38) (.t 43)),
 qn (.st 1 (.t 46) (.t 45))])))))
 (.reg [qr 47 (.bin .add (.t 28) (.k (.i .i64 1))),
 qm 28 47])))))))
 (.seq (.reg [qm 48 6,
 qm 49 1,
 qr 50 (.cvt .u64 (.t 49)),
 qr 51 (.call 116 [(1, (.t 48)), (1, (.t 50))]),
 qr 52 (.ext (.t 51) 0),
 qr 53 (.ext (.t 51) 1),
 qm 4 52,
 qm 5 53])
 (.ret)))))
theorem number_spec (s : List UInt8) (hs : s.length ≤ 100000000) : AFun Tryz.prog J0 95 [.s s, .i .i64 10] (.t [.l 1 (W (nuV s)), .i .i64 (nuE s)]) := by
  have ht0 : tab_0.getD 0 .un = .i .u8 48 := rfl
  have htl : tab_0.length = 36 := rfl
  have tz0 : Int.toNat 0 = 0 := rfl
  refine mkQ fol J0s Tryz.func95 a95 ?_
  unfold a95
  simp only [init_eq, initE, qm, qr, qn]
  by_cases h0 : s = []
  · obtain ⟨e1, e2⟩ := nu_neg (s := s) (fun h => (okN_iff.1 h).1 h0)
    rw [e1, e2]
    have b0 : (s == []) = true := by simpa using h0
    refine spQ (ai @b0 (ai @lconsA (ai @lnilA @bz_ZT1))) ?_
    exact rtQ (ai @lconsA (ai @lnilA @bz_ZT1))
  · have b0 : (s == []) = false := by simpa using h0
    have hlen := List.length_pos_iff.2 h0
    by_cases h1 : 1 < (s.length : Int) ∧ ((s.getD 0 0).toNat : Int) = 48
    · obtain ⟨h1, h2⟩ := h1
      obtain ⟨e1, e2⟩ := nu_neg (s := s) (fun h => (okN_iff.1 h).2.1 ⟨by omega, UInt8.toNat_inj.1 (by show (s.getD 0 0).toNat = 48; omega)⟩)
      rw [e1, e2]
      refine spQ (ai @tz0 (ai @htl (ai @ht0 (ai @h2 (ai @h1 (ai @b0 (ai @lconsA (ai @lnilA @bz_ZT1)))))))) ?_
      exact rtQ (ai @lconsA (ai @lnilA @bz_ZT1))
    · have hl0 := hlen
      by_cases h1' : 1 < (s.length : Int)
      · have h2 : ¬ ((s.getD 0 0).toNat : Int) = 48 := fun h => h1 ⟨h1', h⟩
        have hno : 1 < s.length → s.getD 0 0 = 48 → False := fun _ h => h2 (by rw [h]; rfl)
        refine spQ (ai @tz0 (ai @htl (ai @ht0 (ai @h2 (ai @h1' (ai @b0 (ai @lconsA (ai @lnilA @bz_ZT1)))))))) ?_
        refine vm_loopA [] Nat (fun i => ⟨[(0, .s s), (1, .i .i64 10), (6, .ow 1 0 s.length), (27, .i .i64 (s.length : Int)), (28, .i .i64 (i : Int))], [(0, some ⟨33, 1, W (List.replicate (s.length - i) 0 ++ (s.take i).reverse.map dvl), true, false⟩)], 1⟩)
          (fun i => i ≤ s.length ∧ ∀ c, c ∈ s.take i → isDg c = true) (fun i => s.length - i) 0 ⟨Nat.zero_le _, fun c hc => by rw [List.take_zero] at hc; cases hc⟩ (by exact leQ) (by
          simp (disch := (first | omega | assumption)) only [Sl, Sa, Sw, ↓reduceIte, Nat.reduceEqDiff, Nat.reduceLT, List.all_nil, List.all_cons, Nat.reduceBneDiff, Nat.reduceAdd, bne_iff_ne, ne_eq, reduceCtorEq, not_false_eq_true, not_true_eq_false, Bool.and_true, Bool.true_and, and_true, true_and, and_self, i_eq]
          rw [Nat.sub_zero, List.take_zero, List.reverse_nil, List.map_nil, List.append_nil]
          exact ⟨rfl, mk_W _⟩) ?_
        rintro i ⟨hi, hall⟩ Q' hQ he hr
        by_cases h : (i : Int) < (s.length : Int)
        · have hil : i < s.length := by omega
          have hv := value_spec (s.getD i 0)
          have hmem : s.getD i 0 ∈ s := by rw [List.getD_eq_getElem?_getD, List.getElem?_eq_getElem hil]; exact List.getElem_mem hil
          by_cases hd : isDg (s.getD i 0) = true
          · have e : vlI (s.getD i 0) = (dvl (s.getD i 0) : Int) := if_pos hd
            have hlt := dvl_lt hd
            have hset := rev_setD hil
            have hll := rev_lenD (s := s) (i := i) hi
            rw [e] at hv
            have hnn : ¬ ((dvl (s.getD i 0) : Nat) : Int) < 0 := by omega
            have w1 : IntKind.i64.wrap ((s.length : Int) - 1) = ((s.length - 1 : Nat) : Int) := by rw [wi (by omega)]; omega
            have w2 : IntKind.i64.wrap (((s.length - 1 : Nat) : Int) - (i : Int)) = ((s.length - 1 - i : Nat) : Int) := by rw [wi (by omega)]; omega
            have w3 : IntKind.u64.wrap ((dvl (s.getD i 0) : Nat) : Int) = ((dvl (s.getD i 0) : Nat) : Int) := wu (by omega)
            have hlt2 : ((s.length - 1 - i : Nat) : Int) < (s.length : Int) := by omega
            have hb := W_set (List.replicate (s.length - i) 0 ++ (s.take i).reverse.map dvl) (s.length - 1 - i) (dvl (s.getD i 0))
            rw [hset] at hb
            have hBl : (W (List.replicate (s.length - i) 0 ++ (s.take i).reverse.map dvl)).length = s.length := by rw [W_len, hll]
            have htk : ∀ c, c ∈ s.take (i + 1) → isDg c = true := fun c hc => by
              rw [List.take_succ_eq_append_getElem hil, List.mem_append, List.mem_singleton] at hc
              rcases hc with hc | hc
              · exact hall c hc
              · rw [hc]; rwa [List.getD_eq_getElem?_getD, List.getElem?_eq_getElem hil] at hd
            generalize W (List.replicate (s.length - i) 0 ++ (s.take i).reverse.map dvl) = bt at *
            refine wkQ (ai @hb (ai @hBl (ai @hlt2 (ai @w3 (ai @w2 (ai @w1 (ai @hnn (ai @h (ai @lconsA (ai @lnilA @bz_ZT1)))))))))) ?_
            refine hQ _ (i + 1) ⟨by omega, htk⟩ (by omega) ?_
            exact ltQ
          · have e : vlI (s.getD i 0) = -1 := if_neg hd
            rw [e] at hv
            obtain ⟨e1, e2⟩ := nu_neg (s := s) (fun h => hd ((okN_iff.1 h).2.2 _ hmem))
            refine wkQ (ai @h (ai @lconsA (ai @lnilA @bz_ZT1))) ?_
            refine hr _ ?_
            exact pdQ (ai @e2 (ai @e1 (ai @lconsA (ai @lnilA @bz_ZT1))))
        · obtain rfl : i = s.length := by omega
          rw [List.take_length] at hall
          have hok : okN s = true := okN_iff.2 ⟨h0, fun ⟨a, b⟩ => hno a b, hall⟩
          obtain ⟨e1, e2⟩ := nu_pos hok
          have hL := dgsT_lt hall
          have hds : (dgsT s).length = s.length := by unfold dgsT; rw [List.length_map, List.length_reverse]
          have hu := undigits_raw (dgsT s) 10 (fun x hx => Nat.lt_trans (hL x hx) (by decide)) (by decide) (by omega)
          obtain ⟨u1, u2⟩ := unD_pos (b := 10) (by decide) hL
          rw [u1, u2] at hu
          have er : List.replicate (s.length - s.length) 0 ++ (s.take s.length).reverse.map dvl = dgsT s := by rw [Nat.sub_self, List.take_length]; rfl
          rw [er]
          have w4 : IntKind.u64.wrap 10 = 10 := rfl
          unfold numT at e1
          generalize dgsT s = ds at *
          refine spQ (ai @h (ai @lconsA (ai @lnilA @bz_ZT1))) ?_
          refine he _ _ ?_
          exact wdQ (ai @e2 (ai @e1 (ai @w4 (ai @lconsA (ai @lnilA @bz_ZT1)))))
      · have hno : 1 < s.length → s.getD 0 0 = 48 → False := fun h _ => h1' (by omega)
        refine spQ (ai @h1' (ai @b0 (ai @lconsA (ai @lnilA @bz_ZT1)))) ?_
        refine vm_loopA [] Nat (fun i => ⟨[(0, .s s), (1, .i .i64 10), (6, .ow 1 0 s.length), (27, .i .i64 (s.length : Int)), (28, .i .i64 (i : Int))], [(0, some ⟨33, 1, W (List.replicate (s.length - i) 0 ++ (s.take i).reverse.map dvl), true, false⟩)], 1⟩)
          (fun i => i ≤ s.length ∧ ∀ c, c ∈ s.take i → isDg c = true) (fun i => s.length - i) 0 ⟨Nat.zero_le _, fun c hc => by rw [List.take_zero] at hc; cases hc⟩ (by exact leQ) (by
          simp (disch := (first | omega | assumption)) only [Sl, Sa, Sw, ↓reduceIte, Nat.reduceEqDiff, Nat.reduceLT, List.all_nil, List.all_cons, Nat.reduceBneDiff, Nat.reduceAdd, bne_iff_ne, ne_eq, reduceCtorEq, not_false_eq_true, not_true_eq_false, Bool.and_true, Bool.true_and, and_true, true_and, and_self, i_eq]
          rw [Nat.sub_zero, List.take_zero, List.reverse_nil, List.map_nil, List.append_nil]
          exact ⟨rfl, mk_W _⟩) ?_
        rintro i ⟨hi, hall⟩ Q' hQ he hr
        by_cases h : (i : Int) < (s.length : Int)
        · have hil : i < s.length := by omega
          have hv := value_spec (s.getD i 0)
          have hmem : s.getD i 0 ∈ s := by rw [List.getD_eq_getElem?_getD, List.getElem?_eq_getElem hil]; exact List.getElem_mem hil
          by_cases hd : isDg (s.getD i 0) = true
          · have e : vlI (s.getD i 0) = (dvl (s.getD i 0) : Int) := if_pos hd
            have hlt := dvl_lt hd
            have hset := rev_setD hil
            have hll := rev_lenD (s := s) (i := i) hi
            rw [e] at hv
            have hnn : ¬ ((dvl (s.getD i 0) : Nat) : Int) < 0 := by omega
            have w1 : IntKind.i64.wrap ((s.length : Int) - 1) = ((s.length - 1 : Nat) : Int) := by rw [wi (by omega)]; omega
            have w2 : IntKind.i64.wrap (((s.length - 1 : Nat) : Int) - (i : Int)) = ((s.length - 1 - i : Nat) : Int) := by rw [wi (by omega)]; omega
            have w3 : IntKind.u64.wrap ((dvl (s.getD i 0) : Nat) : Int) = ((dvl (s.getD i 0) : Nat) : Int) := wu (by omega)
            have hlt2 : ((s.length - 1 - i : Nat) : Int) < (s.length : Int) := by omega
            have hb := W_set (List.replicate (s.length - i) 0 ++ (s.take i).reverse.map dvl) (s.length - 1 - i) (dvl (s.getD i 0))
            rw [hset] at hb
            have hBl : (W (List.replicate (s.length - i) 0 ++ (s.take i).reverse.map dvl)).length = s.length := by rw [W_len, hll]
            have htk : ∀ c, c ∈ s.take (i + 1) → isDg c = true := fun c hc => by
              rw [List.take_succ_eq_append_getElem hil, List.mem_append, List.mem_singleton] at hc
              rcases hc with hc | hc
              · exact hall c hc
              · rw [hc]; rwa [List.getD_eq_getElem?_getD, List.getElem?_eq_getElem hil] at hd
            generalize W (List.replicate (s.length - i) 0 ++ (s.take i).reverse.map dvl) = bt at *
            refine wkQ (ai @hb (ai @hBl (ai @hlt2 (ai @w3 (ai @w2 (ai @w1 (ai @hnn (ai @h (ai @lconsA (ai @lnilA @bz_ZT1)))))))))) ?_
            refine hQ _ (i + 1) ⟨by omega, htk⟩ (by omega) ?_
            exact ltQ
          · have e : vlI (s.getD i 0) = -1 := if_neg hd
            rw [e] at hv
            obtain ⟨e1, e2⟩ := nu_neg (s := s) (fun h => hd ((okN_iff.1 h).2.2 _ hmem))
            refine wkQ (ai @h (ai @lconsA (ai @lnilA @bz_ZT1))) ?_
            refine hr _ ?_
            exact pdQ (ai @e2 (ai @e1 (ai @lconsA (ai @lnilA @bz_ZT1))))
        · obtain rfl : i = s.length := by omega
          rw [List.take_length] at hall
          have hok : okN s = true := okN_iff.2 ⟨h0, fun ⟨a, b⟩ => hno a b, hall⟩
          obtain ⟨e1, e2⟩ := nu_pos hok
          have hL := dgsT_lt hall
          have hds : (dgsT s).length = s.length := by unfold dgsT; rw [List.length_map, List.length_reverse]
          have hu := undigits_raw (dgsT s) 10 (fun x hx => Nat.lt_trans (hL x hx) (by decide)) (by decide) (by omega)
          obtain ⟨u1, u2⟩ := unD_pos (b := 10) (by decide) hL
          rw [u1, u2] at hu
          have er : List.replicate (s.length - s.length) 0 ++ (s.take s.length).reverse.map dvl = dgsT s := by rw [Nat.sub_self, List.take_length]; rfl
          rw [er]
          have w4 : IntKind.u64.wrap 10 = 10 := rfl
          unfold numT at e1
          generalize dgsT s = ds at *
          refine spQ (ai @h (ai @lconsA (ai @lnilA @bz_ZT1))) ?_
          refine he _ _ ?_
          exact wdQ (ai @e2 (ai @e1 (ai @w4 (ai @lconsA (ai @lnilA @bz_ZT1)))))
def a72 : AC := .seq (.reg [qr 2 (.mv (.k .nl)),
 qr 3 (.mv (.k (.i .i64 0)))])
 (.seq (.reg [qm 4 0,
 qr 5 (.call 95 [(1, (.t 4)), (1, (.k (.i .i64 10)))]),
 qr 6 (.ext (.t 5) 0),
 qr 7 (.ext (.t 5) 1),
 qm 2 6,
 qm 3 7])
 (.ret))
theorem rparse_spec (s : List UInt8) (hs : s.length ≤ 100000000) : AFun Tryz.prog J0 72 [.s s] (.t [.l 1 (W (nuV s)), .i .i64 (nuE s)]) := by
  have h := number_spec s hs
  refine mkQ fol J0s Tryz.func72 a72 ?_
  unfold a72
  simp only [init_eq, initE, qm, qr, qn]
  exact wdQ (ai @lconsA (ai @lnilA @bz_ZT1))
def a89 : AC := .seq (.reg [qr 4 (.mv (.k (.b false)))])
 (.seq (.reg [qm 5 0,
 qr 6 (.slen (.t 5)),
 qm 7 1,
 qr 8 (.slen (.t 7)),
 qr 9 (.bin .geq (.t 6) (.t 8)),
 qm 10 9,
 ⟨some 11, some (10, true), .mv (.t 0)⟩,
 ⟨some 12, some (10, true), .mv (.t 1)⟩,
 ⟨some 13, some (10, true), .slen (.t 12)⟩,
 ⟨some 14, some (10, true), .ssub (.t 11) none (some (.t 13))⟩,
 ⟨some 15, some (10, true), .mv (.t 1)⟩,
 ⟨some 16, some (10, true), .bin .eql (.t 14) (.t 15)⟩,
 qr 17 (.pick (.t 10) (.t 16) (.k (.b false))),
 qm 4 17])
 (.ret))
theorem hasp_spec (s : List UInt8) : AFun Tryz.prog J0 89 [.s s, .s [45]] (.b (ngT s)) := by
  have l1 : (([45] : List UInt8).length : Int) = 1 := rfl
  cases s with
  | nil =>
    have e : ngT [] = false := rfl
    refine mkQ fol J0s Tryz.func89 a89 ?_
    unfold a89
    simp only [init_eq, initE, qm, qr, qn]
    exact pdQ (ai @e (ai @lconsA (ai @lnilA @bz_ZT1)))
  | cons c r =>
    have hp : (1 : Int) ≤ ((r.length + 1 : Nat) : Int) := by omega
    have ht : List.take (Int.toNat 1) (c :: r) = [c] := rfl
    have hng : ngT (c :: r) = ([c] == [45]) := by
      unfold ngT
      rw [List.head?_cons]
      by_cases h : c = 45
      · subst h; rfl
      · rw [show ([c] == [45]) = false from by simpa using h]
        simpa using h
    rw [hng]
    refine mkQ fol J0s Tryz.func89 a89 ?_
    unfold a89
    simp only [init_eq, initE, qm, qr, qn]
    exact pdQ (ai @ht (ai @hp (ai @lconsA (ai @lnilA @bz_ZT1))))
def a69 : AC := .seq (.reg [qr 4 (.mv (.k (.s []))),
 qr 5 (.mv (.k (.b false)))])
 (.seq (.seq (.reg [qm 6 0,
 qm 7 1,
 qr 8 (.call 89 [(1, (.t 6)), (1, (.t 7))]),
 qr 9 (.un .not (.t 8))])
 (.cond (.t 9)
 (.seq (.reg [qm 10 0,
 qm 4 10,
 qr 5 (.mv (.k (.b false)))])
 (.ret))
 (.skip)))
 (.seq (.reg [qm 11 0,
 qm 12 1,
 qr 13 (.slen (.t 12)),
 qr 14 (.ssub (.t 11) (some (.t 13)) none),
 qm 4 14,
 qr 5 (.mv (.k (.b true)))])
 (.ret)))
theorem cutp_spec (s : List UInt8) (hs : s.length ≤ 1000000000) : AFun Tryz.prog J0 69 [.s s, .s [45]] (.t [.s (bdT s), .b (ngT s)]) := by
  have h := hasp_spec s
  unfold bdT
  cases hn : ngT s with
  | false =>
    rw [hn] at h
    rw [if_neg (by simp)]
    refine mkQ fol J0s Tryz.func69 a69 ?_
    unfold a69
    simp only [init_eq, initE, qm, qr, qn]
    exact wdQ (ai @lconsA (ai @lnilA @bz_ZT1))
  | true =>
    rw [hn] at h
    rw [if_pos rfl]
    have hl : (1 : Int) ≤ (s.length : Int) := by
      cases s with
      | nil => cases hn
      | cons c r => rw [List.length_cons]; omega
    have e1 : List.drop (Int.toNat 1) s = s.drop 1 := rfl
    refine mkQ fol J0s Tryz.func69 a69 ?_
    unfold a69
    simp only [init_eq, initE, qm, qr, qn]
    exact wdQ (ai @e1 (ai @hl (ai @lconsA (ai @lnilA @bz_ZT1))))
def a53 : AC := .seq (.reg [qr 4 (.mv (.k (.s []))),
 qr 5 (.mv (.k (.b false)))])
 (.seq (.reg [qm 6 0,
 qm 7 1,
 qr 8 (.call 69 [(1, (.t 6)), (1, (.t 7))]),
 qr 9 (.ext (.t 8) 0),
 qr 10 (.ext (.t 8) 1),
 qm 4 9,
 qm 5 10])
 (.ret))
theorem scutp_spec (s : List UInt8) (hs : s.length ≤ 1000000000) : AFun Tryz.prog J0 53 [.s s, .s [45]] (.t [.s (bdT s), .b (ngT s)]) := by
  have h := cutp_spec s hs
  refine mkQ fol J0s Tryz.func53 a53 ?_
  unfold a53
  simp only [init_eq, initE, qm, qr, qn]
  exact wdQ (ai @lconsA (ai @lnilA @bz_ZT1))
end Go.Proofs.YtgejbndgakgfnaaGreatDoor
