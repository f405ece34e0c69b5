/-
  Texts of numbers and rationals by the document.
-/
import Derived.Test.YthldhonccnajoaaGreatDoorQ24
import Derived.Test.YthldhonccnajoaaGreatDoorFB
namespace Go.Proofs.YthldhonccnajoaaGreatDoor
open Go Go.RowKit Ab
set_option linter.unusedSimpArgs false
set_option linter.unusedVariables false
set_option maxHeartbeats 10000000
theorem bz_QTD : type_of% (And.intro @W_len (And.intro @D_len (And.intro @Nat.div_one (And.intro @Nat.mul_one (And.intro @tn_nat (And.intro @W_nf (And.intro @D_nf (And.intro @W_nil (And.intro @D_nil (And.intro @wi (And.intro @nf_g (And.intro @Bool.false_and (And.intro @W_cell (@W_get)))))))))))))) := And.intro @W_len (And.intro @D_len (And.intro @Nat.div_one (And.intro @Nat.mul_one (And.intro @tn_nat (And.intro @W_nf (And.intro @D_nf (And.intro @W_nil (And.intro @D_nil (And.intro @wi (And.intro @nf_g (And.intro @Bool.false_and (And.intro @W_cell (@W_get)))))))))))))
theorem Bt_app1 (l : List UInt8) (d : Nat) (h : d < 10) : Bt l ++ [V.i .u8 ((48 + d : Nat) : Int)] = Bt (l ++ [chr d]) := by
  rw [← chr_n h]; simp [Bt]
theorem Bt_get' (l : List Nat) (i : Nat) (h : i < l.length) : (Bt (l.map chr)).getD i .un = .i .u8 ((chr (l.getD i 0)).toNat : Int) := by
  rw [Bt_get _ _ (by rw [List.length_map]; exact h), List.getD_eq_getElem?_getD, List.getElem?_map, List.getElem?_eq_getElem h, List.getD_eq_getElem?_getD, List.getElem?_eq_getElem h]
  rfl
theorem dgB_small {v : Nat} (h : v < 10) (h0 : v ≠ 0) : dg B v = [v] := by
  rcases (show v = 1 ∨ v = 2 ∨ v = 3 ∨ v = 4 ∨ v = 5 ∨ v = 6 ∨ v = 7 ∨ v = 8 ∨ v = 9 by omega) with rfl | rfl | rfl | rfl | rfl | rfl | rfl | rfl | rfl <;> decide +kernel
theorem wu8 {v : Nat} (h : v < 256) : IntKind.u8.wrap (v : Int) = (v : Int) := by
  rw [IntKind.wrap_u8]; omega
def a42 : AC := .seq (.reg [qr 2 (.mv (.k (.s [])))])
 (.seq (.seq (.reg [qm 10 0,
 qr 11 (.call 50 [(1, (.t 10))])])
 (.cond (.t 11)
 (.seq (.reg [qr 2 (.mv (.k (.s [48])))])
 (.ret))
 (.skip)))
 (.seq (.reg [qr 3 (.mv (.k .nl))])
 (.seq (.reg [qm 12 0,
 qr 13 (.call 83 [(1, (.t 12))]),
 qm 4 13])
 (.seq (.blk 0
 (.loop
 (.seq (.seq (.reg [qm 14 4,
 qr 15 (.call 50 [(1, (.t 14))]),
 qr 16 (.un .not (.t 15))])
 (.cond (.t 16)
 (.skip)
 (.exit 0)))
 (.blk 1
 (.seq (.reg [qm 18 4,
 qr 19 (.call 44 [(1, (.k (.i .i64 10)))]),
 qr 20 (.call 82 [(1, (.t 18)), (1, (.t 19))]),
 qm 17 20,
 qr 21 (.ext (.t 17) 0),
 qr 22 (.ext (.t 17) 1),
 qm 5 21,
 qm 6 22])
 (.seq (.reg [qr 7 (.mv (.k (.i .u8 0)))])
 (.seq (.seq (.reg [qm 23 6,
 qr 24 (.len (.t 23)),
 qr 25 (.bin .gtr (.t 24) (.k (.i .i64 0)))])
 (.cond (.t 25)
 (.reg [qm 26 6,
 qr 27 (.idx 1 (.t 26) (.k (.i .i64 0))),
 qr 28 (.ld false 1 (.t 27)),
 qr 29 (.cvt .u8 (.t 28)),
 qm 7 29])
 (.skip)))
 (.seq (.reg [qm 30 3,
 qm 31 7,
 qr 32 (.bin .add (.k (.i .u8 48)) (.t 31)),
 qr 33 (.bsl 5 1 1 [(.i .u8 0)] [(0, (.t 32))]),
 qr 34 (.app 5 1 1 (.t 30) (.t 33)),
 qm 3 34])
 (.reg [qm 35 5,
 qm 4 35])))))))))
 (.seq (.reg [qm 36 3,
 qr 37 (.len (.t 36)),
 qr 38 (.mk 5 1 1 [(.i .u8 0)] (.t 37) (.t 37)),
 qm 8 38])
 (.seq (.seq (.reg [qr 9 (.mv (.k (.i .i64 0)))])
 (.blk 2
 (.loop
 (.seq (.seq (.reg [qm 39 9,
 qm 40 3,
 qr 41 (.len (.t 40)),
 qr 42 (.bin .lss (.t 39) (.t 41))])
 (.cond (.t 42)
 (.skip)
 (.exit 2)))
 (.seq (.blk 3
 (.reg [qm 45 8,
 qm 46 3,
 qr 47 (.len (.t 46)),
 qr 48 (.bin .sub (.t 47) (.k (.i .i64 1))),
 qm 49 9,
 qr 50 (.bin .sub (.t 48) (.t 49)),
 qm 51 3,
 qm 52 9,
 qr 53 (.idx 1 (.t 51) (.t 52)),
 qr 54 (.ld false 1 (.t 53)),
 qr 55 (.idx 1 (.t 45) (.t 50)),
 qn (.st 1 (.t 55) (.t 54))]))
 (.reg [qm 43 9,
 qr 44 (.bin .add (.t 43) (.k (.i .i64 1))),
 qm 9 44]))))))
 (.seq (.reg [qm 56 8,
 qr 57 (.pur .b2s [(.t 56)]),
 qm 2 57])
 (.ret))))))))
theorem rdecimal_spec (a : List Nat) (m : Nat) (hm : m ≤ 10000000) (ha : Wd a) (la : a.length ≤ m) : AFun Tryz.prog J0 42 [.l 1 (W a)] (.s (decS (nv B a))) := by
  have z1 := hzero_spec a ha (by omega)
  have n1 := (hnorm_spec a ha (by omega)).frozen
  have hu := nvlt ha la
  have w10 := (hword_spec 10 (by decide)).frozen
  unfold decS
  generalize nv B a = u at *
  by_cases h0 : u = 0
  · rw [decide_eq_true h0] at z1
    rw [if_pos h0]
    refine mkQ fol J0s Tryz.func42 a42 ?_
    unfold a42
    simp only [init_eq, initE, qm, qr, qn]
    exact wdQ @bz_QTD
  · rw [decide_eq_false h0] at z1
    rw [if_neg h0]
    have hz := fun i => hzero_spec (dg B (u / 10 ^ i)) (Wd_dg _) (Nat.le_trans (dlen (Nat.lt_of_le_of_lt (Nat.div_le_self _ _) hu)) (by omega))
    have hq := fun i => hquo_spec (dg B (u / 10 ^ i)) (dg B 10) (Wd_dg _) (Wd_dg _) (Nat.le_trans (dlen (Nat.lt_of_le_of_lt (Nat.div_le_self _ _) hu)) (by omega)) (Nat.le_trans (dlen (k := 1) (by decide)) (by decide)) (by rw [nv_dgB]; decide)
    simp only [nv_dgB, Nat.div_div_eq_div_mul, ← Nat.pow_succ] at hz hq
    have hbig : ∀ i, 0 < u / 10 ^ i → i < 64 * m := fun i h => by
      have h1 : 10 ^ i ≤ u := by
        rcases Nat.lt_or_ge u (10 ^ i) with h2 | h2
        · rw [Nat.div_eq_of_lt h2] at h; omega
        · exact h2
      have h2 : 2 ^ i ≤ 10 ^ i := Nat.pow_le_pow_left (by decide) i
      have h3 : 2 ^ i < 2 ^ (64 * m) := by rw [← B_two]; omega
      exact (Nat.pow_lt_pow_iff_right (by decide : 1 < 2)).1 h3
    have hbigl : ∀ i, (i = 0 ∨ 0 < u / 10 ^ (i - 1)) → i ≤ 64 * m := fun i h => by
      rcases h with h | h
      · omega
      · have := hbig _ h; omega
    refine mkQ fol J0s Tryz.func42 a42 ?_
    unfold a42
    simp only [init_eq, initE, qm, qr, qn]
    refine wkQ @bz_QTD ?_
    refine vm_loopA [(3, 5, 1)] Nat (fun i => ⟨[(3, .ow 1 0 i), (4, .l 1 (W (dg B (u / 10 ^ i))))], [(0, some ⟨5, 1, Bt ((fl 10 i u).map chr), true, false⟩)], 1⟩)
      (fun i => i = 0 ∨ 0 < u / 10 ^ (i - 1)) (fun i => u / 10 ^ i) 0 (.inl rfl) (by exact leQ) (by
      simp (disch := (first | omega | assumption)) only [Sl, Sa, Sw, ↓reduceIte, Nat.reduceEqDiff, Nat.reduceLT, List.all_nil, List.all_cons, Nat.reduceBneDiff, Nat.reduceAdd, bne_iff_ne, ne_eq, reduceCtorEq, not_false_eq_true, not_true_eq_false, Bool.and_true, Bool.true_and, and_true, true_and, and_self, i_eq]
      rw [Nat.pow_zero, Nat.div_one]
      repeat' first | rfl | omega | (simp only [List.length_append, List.length_cons, List.length_nil]; done) | apply And.intro) ?_
    intro i hi Q' hQ he hr
    have hil := hbigl i hi
    have hzi := hz i
    by_cases h1 : u / 10 ^ i = 0
    · rw [decide_eq_true h1] at hzi
      have e : fl 10 i u = dg 10 u := by
        refine fl_full (by decide) (hi.imp id fun h => ?_) ?_
        · rcases Nat.lt_or_ge u (10 ^ (i - 1)) with h2 | h2
          · rw [Nat.div_eq_of_lt h2] at h; omega
          · exact h2
        · rcases Nat.lt_or_ge u (10 ^ i) with h2 | h2
          · exact h2
          · have := (Nat.le_div_iff_mul_le (Nat.pow_pos (by decide : 0 < 10))).2 (by rw [Nat.one_mul]; exact h2 : 1 * 10 ^ i ≤ u)
            omega
      have hl : i = (dg 10 u).length := by rw [← e, fl_len]
      rw [e]
      clear hq hz hbig hbigl e
      refine wkQ @bz_QTD ?_
      refine he _ _ ?_
      generalize dg 10 u = l at *
      subst hl
      have hBl : (Bt (l.map chr)).length = l.length := by rw [Bt_len, List.length_map]
      have omap : ∀ x : List UInt8, (some x).map V.s = some (.s x) := fun _ => rfl
      refine spQ (ai @hBl @bz_QTD) ?_
      refine vm_loopA [] Nat (fun i => ⟨[(3, .ow 1 0 l.length), (8, .ow 1 1 l.length), (9, .i .i64 (i : Int))], [(0, some ⟨5, 1, Bt (l.map chr), true, false⟩), (1, some ⟨5, 1, Bt (List.replicate (l.length - i) 0 ++ (l.take i).reverse.map chr), true, false⟩)], 2⟩)
        (fun i => i ≤ l.length) (fun i => l.length - i) 0 (Nat.zero_le _) (by exact leQ) (by
        simp (disch := (first | omega | assumption)) only [Sl, Sa, Sw, ↓reduceIte, Nat.reduceEqDiff, Nat.reduceLT, List.all_nil, List.all_cons, Nat.reduceBneDiff, Nat.reduceAdd, bne_iff_ne, ne_eq, reduceCtorEq, not_false_eq_true, not_true_eq_false, Bool.and_true, Bool.true_and, and_true, true_and, and_self, i_eq]
        refine ⟨?_, by rw [Nat.sub_zero, List.take_zero, List.reverse_nil, List.map_nil, List.append_nil]; exact mk_Bt _⟩
        first | rfl | trivial) ?_
      intro i hi Q'' hQ' he' hr'
      by_cases h : (i : Int) < (l.length : Int)
      · have hi' : i < l.length := by omega
        have hset := rev_set hi'
        have hll := rev_len (l := l) (i := i) hi
        have w1 : IntKind.i64.wrap ((l.length : Int) - 1) = ((l.length - 1 : Nat) : Int) := by rw [wi (by omega)]; omega
        have w2 : IntKind.i64.wrap (((l.length - 1 : Nat) : Int) - (i : Int)) = ((l.length - 1 - i : Nat) : Int) := by rw [wi (by omega)]; omega
        have hlt2 : ((l.length - 1 - i : Nat) : Int) < (l.length : Int) := by omega
        have hb := Bt_set (List.replicate (l.length - i) 0 ++ (l.take i).reverse.map chr) (l.length - 1 - i) (chr (l.getD i 0))
        rw [hset] at hb
        have hBl2 : (Bt (List.replicate (l.length - i) 0 ++ (l.take i).reverse.map chr)).length = l.length := by rw [Bt_len, hll]
        have hg := Bt_get' l i hi'
        generalize Bt (List.replicate (l.length - i) 0 ++ (l.take i).reverse.map chr) = bt at *
        refine spQ (ai @hg (ai @hb (ai @hBl2 (ai @hBl (ai @Nat.zero_add (ai @hlt2 (ai @w2 (ai @w1 (ai @h @bz_QTD))))))))) ?_
        refine hQ' _ (i + 1) (by omega) (by omega) ?_
        exact ltQ
      · obtain rfl : i = l.length := by omega
        have e : List.replicate (l.length - l.length) (0 : UInt8) ++ (l.take l.length).reverse.map chr = l.reverse.map chr := by rw [Nat.sub_self, List.take_length]; rfl
        rw [e]
        have hby := bytesOf_Bt (l.reverse.map chr)
        refine spQ (ai @h @bz_QTD) ?_
        refine he' _ _ ?_
        refine spQ (ai @omap (ai @hby @bz_QTD)) ?_
        exact rtQ @bz_QTD
    · rw [decide_eq_false h1] at hzi
      have hp : 0 < u / 10 ^ i := Nat.pos_of_ne_zero h1
      have hqi := hq i
      have hlt : u / 10 ^ (i + 1) < u / 10 ^ i := by rw [Nat.pow_succ, ← Nat.div_div_eq_div_mul]; exact Nat.div_lt_self hp (by decide)
      have hv : u / 10 ^ i % 10 < 10 := Nat.mod_lt _ (by decide)
      have e1 : (fl 10 (i + 1) u).map chr = (fl 10 i u).map chr ++ [chr (u / 10 ^ i % 10)] := by rw [fl_succ, List.map_append]; rfl
      have hBl : (Bt ((fl 10 i u).map chr)).length = i := by rw [Bt_len, List.length_map, fl_len]
      have hap := Bt_app1 ((fl 10 i u).map chr) (u / 10 ^ i % 10) hv
      rw [← e1] at hap
      generalize u / 10 ^ i % 10 = v at *
      generalize Bt ((fl 10 i u).map chr) = bt at *
      by_cases hv0 : v = 0
      · subst hv0
        rw [dg_zero] at hqi
        replace hap : bt ++ [V.i .u8 48] = Bt ((fl 10 (i + 1) u).map chr) := hap
        have w48 : IntKind.u8.wrap 48 = 48 := wu8 (v := 48) (by decide)
        refine wkQ (ai @w48 (ai @hap (ai @hBl @bz_QTD))) ?_
        refine hQ _ (i + 1) (.inr hp) hlt ?_
        exact ltQ
      · rw [dgB_small hv hv0] at hqi
        replace hqi : AFun Tryz.prog J0 82 [.l 1 (W (dg B (u / 10 ^ i))), .l 1 (W (dg B 10))] (.t [.l 1 (W (dg B (u / 10 ^ (i + 1)))), .l 1 [.i .u64 (v : Int)]]) := hqi
        have w8 := wu8 (v := v) (by omega)
        have w9 : IntKind.u8.wrap (48 + (v : Int)) = ((48 + v : Nat) : Int) := by rw [show (48 : Int) + (v : Int) = ((48 + v : Nat) : Int) from by omega]; exact wu8 (by omega)
        have hg : ([.i .u64 (v : Int)] : List V).getD (Int.toNat 0) .un = .i .u64 (v : Int) := rfl
        refine wkQ (ai @hap (ai @hBl (ai @w9 (ai @w8 (ai @hg @bz_QTD))))) ?_
        refine hQ _ (i + 1) (.inr hp) hlt ?_
        exact ltQ
def a11 : AC := .seq (.reg [qr 1 (.bx 27 (.t 0)),
 qr 2 (.mv (.k (.s []))),
 qr 3 (.mv (.k (.i .i64 0)))])
 (.seq (.seq (.reg [qr 6 (.ld true 3 (.t 1)),
 qr 7 (.call 40 [(1, (.t 6))]),
 qr 8 (.un .not (.t 7))])
 (.cond (.t 8)
 (.seq (.reg [qr 2 (.mv (.k (.s []))),
 qr 3 (.mv (.k (.i .i64 1)))])
 (.ret))
 (.skip)))
 (.seq (.reg [qr 9 (.fad 0 (.t 1)),
 qr 10 (.ld true 2 (.t 9)),
 qr 11 (.fad 2 (.t 1)),
 qr 12 (.ld false 1 (.t 11)),
 qr 13 (.call 41 [(1, (.t 10)), (1, (.t 12))]),
 qr 4 (.al 27 [(.b false), (.l 1 []), (.l 1 [])]),
 qn (.st 3 (.t 4) (.t 13))])
 (.seq (.reg [qr 14 (.fad 0 (.t 4)),
 qr 15 (.fad 1 (.t 14)),
 qr 16 (.ld false 1 (.t 15)),
 qr 17 (.call 42 [(1, (.t 16))]),
 qm 5 17])
 (.seq (.seq (.reg [qr 18 (.fad 0 (.t 4)),
 qr 19 (.fad 0 (.t 18)),
 qr 20 (.ld false 1 (.t 19))])
 (.cond (.t 20)
 (.reg [qm 21 5,
 qr 22 (.bin .add (.k (.s [45])) (.t 21)),
 qm 5 22])
 (.skip)))
 (.seq (.seq (.dreg [qr 23 (.fad 2 (.t 4)),
 qr 24 (.ld false 1 (.t 23)),
 qr 25 (.call 44 [(1, (.k (.i .i64 1)))]),
 qr 26 (.call 43 [(1, (.t 24)), (1, (.t 25))]),
 qr 27 (.un .not (.t 26))])
 (.cond (.t 27)
 (.reg [qm 28 5,
 qr 29 (.fad 2 (.t 4)),
 qr 30 (.ld false 1 (.t 29)),
 qr 31 (.call 42 [(1, (.t 30))]),
 qr 32 (.bin .add (.k (.s [47])) (.t 31)),
 qr 33 (.bin .add (.t 28) (.t 32)),
 qm 5 33])
 (.skip)))
 (.seq (.reg [qm 34 5,
 qm 2 34,
 qr 3 (.mv (.k (.i .i64 0)))])
 (.ret)))))))
theorem rqprint_spec (s : Bool) (a d : List Nat) (m : Nat) (hm : m ≤ 10000000) (ha : Wd a) (hd : Wd d) (la : a.length ≤ m) (ld : d.length ≤ m) : AFun Tryz.prog J0 11 [rL s a d] (.t [.s (qpV (zv s a) (nv B d)), .i .i64 (re (nv B d))]) := by
  have o1 := rOk_spec s a d hd (by omega)
  unfold qpV
  by_cases h0 : nv B d = 0
  · rw [if_pos h0]
    rw [decide_eq_true h0] at o1
    rw [h0, re_0]
    refine mkQ fol J0s Tryz.func11 a11 ?_
    unfold a11
    simp only [init_eq, initE, qm, qr, qn]
    exact wdQ @bz_QTD
  · rw [if_neg h0, re_p h0]
    rw [decide_eq_false h0] at o1
    have r1 := rR_spec s a d m (by omega) ha hd la ld h0
    have b1 : (rz (zv s a) (nv B d)).natAbs < B ^ m := Nat.lt_of_le_of_lt (rz_le' _ _) (zv_lt ha la)
    have b2 : rden (zv s a) (nv B d) < B ^ m := Nat.lt_of_le_of_lt (rden_le _ _) (nvlt hd ld)
    have hp := rden_pos (z := zv s a) h0
    generalize rz (zv s a) (nv B d) = x at *
    generalize rden (zv s a) (nv B d) = y at *
    have h2 := rdecimal_spec (dg B x.natAbs) m hm (Wd_dg _) (dlen b1)
    rw [nv_dgB] at h2
    have h4 := rdecimal_spec (dg B y) m hm (Wd_dg _) (dlen b2)
    rw [nv_dgB] at h4
    have w1 := (hword_spec 1 (by decide)).frozen
    have s1 := hsame_spec (dg B y) (dg B 1) (Nat.le_trans (dlen b2) (by omega)) (Nat.le_trans (dlen (k := 1) (by decide)) (by decide))
    have hinj : (dg B y = dg B 1) ↔ y = 1 := ⟨fun h => by have := congrArg (nv B) h; rwa [nv_dgB, nv_dgB] at this, fun h => by rw [h]⟩
    have l1 := decS_len b1
    have l2 := decS_len b2
    unfold qS zS
    generalize decS x.natAbs = u at *
    generalize decS y = v at *
    have e0 : ([45] : List UInt8).length + u.length ≤ 9223372036854775807 := by rw [List.length_singleton]; omega
    have e0' : ([45] : List UInt8) ++ u = 45 :: u := rfl
    have e1 : ([47] : List UInt8).length + v.length ≤ 9223372036854775807 := by rw [List.length_singleton]; omega
    have e3 : ([47] : List UInt8) ++ v = 47 :: v := rfl
    have e2 : u.length + (47 :: v).length ≤ 9223372036854775807 := by rw [List.length_cons]; omega
    have e4 : (45 :: u).length + (47 :: v).length ≤ 9223372036854775807 := by simp only [List.length_cons]; omega
    by_cases hx : x < 0
    · rw [if_pos hx]
      rw [rN_neg hx] at r1
      by_cases h : y = 1
      · rw [if_pos (by omega)]
        rw [decide_eq_true (hinj.2 h)] at s1
        refine mkQ fol J0s Tryz.func11 a11 ?_
        unfold a11
        simp only [init_eq, initE, qm, qr, qn]
        exact wdQ (ai @e0' (ai @e0 @bz_QTD))
      · rw [if_neg (by omega)]
        rw [decide_eq_false (fun e => h (hinj.1 e))] at s1
        refine mkQ fol J0s Tryz.func11 a11 ?_
        unfold a11
        simp only [init_eq, initE, qm, qr, qn]
        exact wdQ (ai @e4 (ai @e3 (ai @e1 (ai @e0' (ai @e0 @bz_QTD)))))
    · rw [if_neg hx]
      rw [rN_nn hx] at r1
      by_cases h : y = 1
      · rw [if_pos (by omega)]
        rw [decide_eq_true (hinj.2 h)] at s1
        refine mkQ fol J0s Tryz.func11 a11 ?_
        unfold a11
        simp only [init_eq, initE, qm, qr, qn]
        exact wdQ @bz_QTD
      · rw [if_neg (by omega)]
        rw [decide_eq_false (fun e => h (hinj.1 e))] at s1
        refine mkQ fol J0s Tryz.func11 a11 ?_
        unfold a11
        simp only [init_eq, initE, qm, qr, qn]
        exact wdQ (ai @e2 (ai @e3 (ai @e1 @bz_QTD)))
end Go.Proofs.YthldhonccnajoaaGreatDoor
