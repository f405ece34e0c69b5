/-
  Texts by the document; widths by the document.
-/
import Derived.Test.YtfcpigjmagbnkaaGreatDoorC6
namespace Go.Proofs.YtfcpigjmagbnkaaGreatDoor
open Go Go.RowKit Ab
set_option linter.unusedSimpArgs false
set_option linter.unusedVariables false
set_option maxHeartbeats 10000000
theorem bz_C7 : type_of% (And.intro @W_len (And.intro @D_len (And.intro @Nat.div_one (And.intro @Nat.mul_one (And.intro @tn_nat (And.intro @W_nf (And.intro @D_nf (And.intro @W_nil (And.intro @D_nil (And.intro @wi (And.intro @nf_g (And.intro @Bool.false_and (And.intro @W_cell (@W_get)))))))))))))) := And.intro @W_len (And.intro @D_len (And.intro @Nat.div_one (And.intro @Nat.mul_one (And.intro @tn_nat (And.intro @W_nf (And.intro @D_nf (And.intro @W_nil (And.intro @D_nil (And.intro @wi (And.intro @nf_g (And.intro @Bool.false_and (And.intro @W_cell (@W_get)))))))))))))
theorem Bt_app1 (l : List UInt8) (d : Nat) (h : d < 10) : Bt l ++ [V.i .u8 ((48 + d : Nat) : Int)] = Bt (l ++ [chr d]) := by
  rw [← chr_n h]; simp [Bt]
theorem Bt_get' (l : List Nat) (i : Nat) (h : i < l.length) : (Bt (l.map chr)).getD i .un = .i .u8 ((chr (l.getD i 0)).toNat : Int) := by
  rw [Bt_get _ _ (by rw [List.length_map]; exact h), List.getD_eq_getElem?_getD, List.getElem?_map, List.getElem?_eq_getElem h, List.getD_eq_getElem?_getD, List.getElem?_eq_getElem h]
  rfl
theorem dgB_small {v : Nat} (h : v < 10) (h0 : v ≠ 0) : dg B v = [v] := by
  rcases (show v = 1 ∨ v = 2 ∨ v = 3 ∨ v = 4 ∨ v = 5 ∨ v = 6 ∨ v = 7 ∨ v = 8 ∨ v = 9 by omega) with rfl | rfl | rfl | rfl | rfl | rfl | rfl | rfl | rfl <;> decide +kernel
theorem wu8 {v : Nat} (h : v < 256) : IntKind.u8.wrap (v : Int) = (v : Int) := by
  rw [IntKind.wrap_u8]; omega
def a115 : AC := .seq (.reg [qr 2 (.mv (.k (.s [])))])
 (.seq (.seq (.reg [qm 10 0,
 qr 11 (.call 40 [(1, (.t 10))])])
 (.cond (.t 11)
 (.seq (.reg [qr 2 (.mv (.k (.s [48])))])
 (.ret))
 (.skip)))
 (.seq (.reg [qr 3 (.mv (.k .nl))])
 (.seq (.reg [qm 12 0,
 qr 13 (.call 97 [(1, (.t 12))]),
 qm 4 13])
 (.seq (.blk 0
 (.loop
 (.seq (.seq (.reg [qm 14 4,
 qr 15 (.call 40 [(1, (.t 14))]),
 qr 16 (.un .not (.t 15))])
 (.cond (.t 16)
 (.skip)
 (.exit 0)))
 (.blk 1
 (.seq (.reg [qm 18 4,
 qr 19 (.call 77 [(1, (.k (.i .i64 10)))]),
 qr 20 (.call 102 [(1, (.t 18)), (1, (.t 19))]),
 qm 17 20,
 qr 21 (.ext (.t 17) 0),
 qr 22 (.ext (.t 17) 1),
 qm 5 21,
 qm 6 22])
 (.seq (.reg [qr 7 (.mv (.k (.i .u8 0)))])
 (.seq (.seq (.reg [qm 23 6,
 qr 24 (.len (.t 23)),
 qr 25 (.bin .gtr (.t 24) (.k (.i .i64 0)))])
 (.cond (.t 25)
 (.reg [qm 26 6,
 qr 27 (.idx 1 (.t 26) (.k (.i .i64 0))),
 qr 28 (.ld false 1 (.t 27)),
 qr 29 (.cvt .u8 (.t 28)),
 qm 7 29])
 (.skip)))
 (.seq (.reg [qm 30 3,
 qm 31 7,
 qr 32 (.bin .add (.k (.i .u8 48)) (.t 31)),
 qr 33 (.bsl 5 1 1 [(.i .u8 0)] [(0, (.t 32))]),
 qr 34 (.app 5 1 1 (.t 30) (.t 33)),
 qm 3 34])
 (.reg [qm 35 5,
 qm 4 35])))))))))
 (.seq (.reg [qm 36 3,
 qr 37 (.len (.t 36)),
 qr 38 (.mk 5 1 1 [(.i .u8 0)] (.t 37) (.t 37)),
 qm 8 38])
 (.seq (.seq (.reg [qr 9 (.mv (.k (.i .i64 0)))])
 (.blk 2
 (.loop
 (.seq (.seq (.reg [qm 39 9,
 qm 40 3,
 qr 41 (.len (.t 40)),
 qr 42 (.bin .lss (.t 39) (.t 41))])
 (.cond (.t 42)
 (.skip)
 (.exit 2)))
 (.seq (.blk 3
 (.reg [qm 45 8,
 qm 46 3,
 qr 47 (.len (.t 46)),
 qr 48 (.bin .sub (.t 47) (.k (.i .i64 1))),
 qm 49 9,
 qr 50 (.bin .sub (.t 48) (.t 49)),
 qm 51 3,
 qm 52 9,
 qr 53 (.idx 1 (.t 51) (.t 52)),
 qr 54 (.ld false 1 (.t 53)),
 qr 55 (.idx 1 (.t 45) (.t 50)),
 qn (.st 1 (.t 55) (.t 54))]))
 (.reg [qm 43 9,
 qr 44 (.bin .add (.t 43) (.k (.i .i64 1))),
 qm 9 44]))))))
 (.seq (.reg [qm 56 8,
 qr 57 (.pur .b2s [(.t 56)]),
 qm 2 57])
 (.ret))))))))
theorem rdecimal_spec (a : List Nat) (m : Nat) (hm : m ≤ 10000000) (ha : Wd a) (la : a.length ≤ m) : AFun Tryz.prog J0 115 [.l 1 (W a)] (.s (decS (nv B a))) := by
  have z1 := hzero_spec a ha (by omega)
  have n1 := (hnorm_spec a ha (by omega)).frozen
  have hu := nvlt ha la
  have w10 := (hword_spec 10 (by decide)).frozen
  unfold decS
  generalize nv B a = u at *
  by_cases h0 : u = 0
  · rw [decide_eq_true h0] at z1
    rw [if_pos h0]
    refine mkQ fol J0s Tryz.func115 a115 ?_
    unfold a115
    simp only [init_eq, initE, qm, qr, qn]
    exact wdQ @bz_C7
  · rw [decide_eq_false h0] at z1
    rw [if_neg h0]
    have hz := fun i => hzero_spec (dg B (u / 10 ^ i)) (Wd_dg _) (Nat.le_trans (dlen (Nat.lt_of_le_of_lt (Nat.div_le_self _ _) hu)) (by omega))
    have hq := fun i => hquo_spec (dg B (u / 10 ^ i)) (dg B 10) (Wd_dg _) (Wd_dg _) (Nat.le_trans (dlen (Nat.lt_of_le_of_lt (Nat.div_le_self _ _) hu)) (by omega)) (Nat.le_trans (dlen (k := 1) (by decide)) (by decide)) (by rw [nv_dgB]; decide)
    simp only [nv_dgB, Nat.div_div_eq_div_mul, ← Nat.pow_succ] at hz hq
    have hbig : ∀ i, 0 < u / 10 ^ i → i < 64 * m := fun i h => by
      have h1 : 10 ^ i ≤ u := by
        rcases Nat.lt_or_ge u (10 ^ i) with h2 | h2
        · rw [Nat.div_eq_of_lt h2] at h; omega
        · exact h2
      have h2 : 2 ^ i ≤ 10 ^ i := Nat.pow_le_pow_left (by decide) i
      have h3 : 2 ^ i < 2 ^ (64 * m) := by rw [← B_two]; omega
      exact (Nat.pow_lt_pow_iff_right (by decide : 1 < 2)).1 h3
    have hbigl : ∀ i, (i = 0 ∨ 0 < u / 10 ^ (i - 1)) → i ≤ 64 * m := fun i h => by
      rcases h with h | h
      · omega
      · have := hbig _ h; omega
    refine mkQ fol J0s Tryz.func115 a115 ?_
    unfold a115
    simp only [init_eq, initE, qm, qr, qn]
    refine wkQ @bz_C7 ?_
    refine vm_loopA [(3, 5, 1)] Nat (fun i => ⟨[(3, .ow 1 0 i), (4, .l 1 (W (dg B (u / 10 ^ i))))], [(0, some ⟨5, 1, Bt ((fl 10 i u).map chr), true, false⟩)], 1⟩)
      (fun i => i = 0 ∨ 0 < u / 10 ^ (i - 1)) (fun i => u / 10 ^ i) 0 (.inl rfl) (by exact leQ) (by
      simp (disch := (first | omega | assumption)) only [Sl, Sa, Sw, ↓reduceIte, Nat.reduceEqDiff, Nat.reduceLT, List.all_nil, List.all_cons, Nat.reduceBneDiff, Nat.reduceAdd, bne_iff_ne, ne_eq, reduceCtorEq, not_false_eq_true, not_true_eq_false, Bool.and_true, Bool.true_and, and_true, true_and, and_self, i_eq]
      rw [Nat.pow_zero, Nat.div_one]
      repeat' first | rfl | omega | (simp only [List.length_append, List.length_cons, List.length_nil]; done) | apply And.intro) ?_
    intro i hi Q' hQ he hr
    have hil := hbigl i hi
    have hzi := hz i
    by_cases h1 : u / 10 ^ i = 0
    · rw [decide_eq_true h1] at hzi
      have e : fl 10 i u = dg 10 u := by
        refine fl_full (by decide) (hi.imp id fun h => ?_) ?_
        · rcases Nat.lt_or_ge u (10 ^ (i - 1)) with h2 | h2
          · rw [Nat.div_eq_of_lt h2] at h; omega
          · exact h2
        · rcases Nat.lt_or_ge u (10 ^ i) with h2 | h2
          · exact h2
          · have := (Nat.le_div_iff_mul_le (Nat.pow_pos (by decide : 0 < 10))).2 (by rw [Nat.one_mul]; exact h2 : 1 * 10 ^ i ≤ u)
            omega
      have hl : i = (dg 10 u).length := by rw [← e, fl_len]
      rw [e]
      clear hq hz hbig hbigl e
      refine wkQ @bz_C7 ?_
      refine he _ _ ?_
      generalize dg 10 u = l at *
      subst hl
      have hBl : (Bt (l.map chr)).length = l.length := by rw [Bt_len, List.length_map]
      have omap : ∀ x : List UInt8, (some x).map V.s = some (.s x) := fun _ => rfl
      refine spQ (ai @hBl @bz_C7) ?_
      refine vm_loopA [] Nat (fun i => ⟨[(3, .ow 1 0 l.length), (8, .ow 1 1 l.length), (9, .i .i64 (i : Int))], [(0, some ⟨5, 1, Bt (l.map chr), true, false⟩), (1, some ⟨5, 1, Bt (List.replicate (l.length - i) 0 ++ (l.take i).reverse.map chr), true, false⟩)], 2⟩)
        (fun i => i ≤ l.length) (fun i => l.length - i) 0 (Nat.zero_le _) (by exact leQ) (by
        simp (disch := (first | omega | assumption)) only [Sl, Sa, Sw, ↓reduceIte, Nat.reduceEqDiff, Nat.reduceLT, List.all_nil, List.all_cons, Nat.reduceBneDiff, Nat.reduceAdd, bne_iff_ne, ne_eq, reduceCtorEq, not_false_eq_true, not_true_eq_false, Bool.and_true, Bool.true_and, and_true, true_and, and_self, i_eq]
        refine ⟨?_, by rw [Nat.sub_zero, List.take_zero, List.reverse_nil, List.map_nil, List.append_nil]; exact mk_Bt _⟩
        first | rfl | trivial) ?_
      intro i hi Q'' hQ' he' hr'
      by_cases h : (i : Int) < (l.length : Int)
      · have hi' : i < l.length := by omega
        have hset := rev_set hi'
        have hll := rev_len (l := l) (i := i) hi
        have w1 : IntKind.i64.wrap ((l.length : Int) - 1) = ((l.length - 1 : Nat) : Int) := by rw [wi (by omega)]; omega
        have w2 : IntKind.i64.wrap (((l.length - 1 : Nat) : Int) - (i : Int)) = ((l.length - 1 - i : Nat) : Int) := by rw [wi (by omega)]; omega
        have hlt2 : ((l.length - 1 - i : Nat) : Int) < (l.length : Int) := by omega
        have hb := Bt_set (List.replicate (l.length - i) 0 ++ (l.take i).reverse.map chr) (l.length - 1 - i) (chr (l.getD i 0))
        rw [hset] at hb
        have hBl2 : (Bt (List.replicate (l.length - i) 0 ++ (l.take i).reverse.map chr)).length = l.length := by rw [Bt_len, hll]
        have hg := Bt_get' l i hi'
        generalize Bt (List.replicate (l.length - i) 0 ++ (l.take i).reverse.map chr) = bt at *
        refine spQ (ai @hg (ai @hb (ai @hBl2 (ai @hBl (ai @Nat.zero_add (ai @hlt2 (ai @w2 (ai @w1 (ai @h @bz_C7))))))))) ?_
        refine hQ' _ (i + 1) (by omega) (by omega) ?_
        exact ltQ
      · obtain rfl : i = l.length := by omega
        have e : List.replicate (l.length - l.length) (0 : UInt8) ++ (l.take l.length).reverse.map chr = l.reverse.map chr := by rw [Nat.sub_self, List.take_length]; rfl
        rw [e]
        have hby := bytesOf_Bt (l.reverse.map chr)
        refine spQ (ai @h @bz_C7) ?_
        refine he' _ _ ?_
        refine spQ (ai @omap (ai @hby @bz_C7)) ?_
        exact rtQ @bz_C7
    · rw [decide_eq_false h1] at hzi
      have hp : 0 < u / 10 ^ i := Nat.pos_of_ne_zero h1
      have hqi := hq i
      have hlt : u / 10 ^ (i + 1) < u / 10 ^ i := by rw [Nat.pow_succ, ← Nat.div_div_eq_div_mul]; exact Nat.div_lt_self hp (by decide)
      have hv : u / 10 ^ i % 10 < 10 := Nat.mod_lt _ (by decide)
      have e1 : (fl 10 (i + 1) u).map chr = (fl 10 i u).map chr ++ [chr (u / 10 ^ i % 10)] := by rw [fl_succ, List.map_append]; rfl
      have hBl : (Bt ((fl 10 i u).map chr)).length = i := by rw [Bt_len, List.length_map, fl_len]
      have hap := Bt_app1 ((fl 10 i u).map chr) (u / 10 ^ i % 10) hv
      rw [← e1] at hap
      generalize u / 10 ^ i % 10 = v at *
      generalize Bt ((fl 10 i u).map chr) = bt at *
      by_cases hv0 : v = 0
      · subst hv0
        rw [dg_zero] at hqi
        replace hap : bt ++ [V.i .u8 48] = Bt ((fl 10 (i + 1) u).map chr) := hap
        have w48 : IntKind.u8.wrap 48 = 48 := wu8 (v := 48) (by decide)
        refine wkQ (ai @w48 (ai @hap (ai @hBl @bz_C7))) ?_
        refine hQ _ (i + 1) (.inr hp) hlt ?_
        exact ltQ
      · rw [dgB_small hv hv0] at hqi
        replace hqi : AFun Tryz.prog J0 102 [.l 1 (W (dg B (u / 10 ^ i))), .l 1 (W (dg B 10))] (.t [.l 1 (W (dg B (u / 10 ^ (i + 1)))), .l 1 [.i .u64 (v : Int)]]) := hqi
        have w8 := wu8 (v := v) (by omega)
        have w9 : IntKind.u8.wrap (48 + (v : Int)) = ((48 + v : Nat) : Int) := by rw [show (48 : Int) + (v : Int) = ((48 + v : Nat) : Int) from by omega]; exact wu8 (by omega)
        have hg : ([.i .u64 (v : Int)] : List V).getD (Int.toNat 0) .un = .i .u64 (v : Int) := rfl
        refine wkQ (ai @hap (ai @hBl (ai @w9 (ai @w8 (ai @hg @bz_C7))))) ?_
        refine hQ _ (i + 1) (.inr hp) hlt ?_
        exact ltQ
def a72 : AC := .seq (.reg [qr 1 (.bx 27 (.t 0)),
 qr 2 (.mv (.k (.s []))),
 qr 3 (.mv (.k (.i .i64 0)))])
 (.seq (.seq (.reg [qr 6 (.ld true 3 (.t 1)),
 qr 7 (.call 9 [(1, (.t 6))]),
 qr 8 (.un .not (.t 7))])
 (.cond (.t 8)
 (.seq (.reg [qr 2 (.mv (.k (.s []))),
 qr 3 (.mv (.k (.i .i64 1)))])
 (.ret))
 (.skip)))
 (.seq (.reg [qr 9 (.fad 0 (.t 1)),
 qr 10 (.ld true 2 (.t 9)),
 qr 11 (.fad 2 (.t 1)),
 qr 12 (.ld false 1 (.t 11)),
 qr 13 (.call 60 [(1, (.t 10)), (1, (.t 12))]),
 qr 4 (.al 27 [(.b false), (.l 1 []), (.l 1 [])]),
 qn (.st 3 (.t 4) (.t 13))])
 (.seq (.reg [qr 14 (.fad 0 (.t 4)),
 qr 15 (.fad 1 (.t 14)),
 qr 16 (.ld false 1 (.t 15)),
 qr 17 (.call 115 [(1, (.t 16))]),
 qm 5 17])
 (.seq (.seq (.reg [qr 18 (.fad 0 (.t 4)),
 qr 19 (.fad 0 (.t 18)),
 qr 20 (.ld false 1 (.t 19))])
 (.cond (.t 20)
 (.reg [qm 21 5,
 qr 22 (.bin .add (.k (.s [45])) (.t 21)),
 qm 5 22])
 (.skip)))
 (.seq (.seq (.dreg [qr 23 (.fad 2 (.t 4)),
 qr 24 (.ld false 1 (.t 23)),
 qr 25 (.call 77 [(1, (.k (.i .i64 1)))]),
 qr 26 (.call 59 [(1, (.t 24)), (1, (.t 25))]),
 qr 27 (.un .not (.t 26))])
 (.cond (.t 27)
 (.reg [qm 28 5,
 qr 29 (.fad 2 (.t 4)),
 qr 30 (.ld false 1 (.t 29)),
 qr 31 (.call 115 [(1, (.t 30))]),
 qr 32 (.bin .add (.k (.s [47])) (.t 31)),
 qr 33 (.bin .add (.t 28) (.t 32)),
 qm 5 33])
 (.skip)))
 (.seq (.reg [qm 34 5,
 qm 2 34,
 qr 3 (.mv (.k (.i .i64 0)))])
 (.ret)))))))
theorem rqprint_spec (s : Bool) (a d : List Nat) (m : Nat) (hm : m ≤ 10000000) (ha : Wd a) (hd : Wd d) (la : a.length ≤ m) (ld : d.length ≤ m) : AFun Tryz.prog J0 72 [rL s a d] (.t [.s (qpV (zv s a) (nv B d)), .i .i64 (re (nv B d))]) := by
  have o1 := rOk_spec s a d hd (by omega)
  unfold qpV
  by_cases h0 : nv B d = 0
  · rw [if_pos h0]
    rw [decide_eq_true h0] at o1
    rw [h0, re_0]
    refine mkQ fol J0s Tryz.func72 a72 ?_
    unfold a72
    simp only [init_eq, initE, qm, qr, qn]
    exact wdQ @bz_C7
  · rw [if_neg h0, re_p h0]
    rw [decide_eq_false h0] at o1
    have r1 := rR_spec s a d m (by omega) ha hd la ld h0
    have b1 : (rz (zv s a) (nv B d)).natAbs < B ^ m := Nat.lt_of_le_of_lt (rz_le' _ _) (zv_lt ha la)
    have b2 : rden (zv s a) (nv B d) < B ^ m := Nat.lt_of_le_of_lt (rden_le _ _) (nvlt hd ld)
    have hp := rden_pos (z := zv s a) h0
    generalize rz (zv s a) (nv B d) = x at *
    generalize rden (zv s a) (nv B d) = y at *
    have h2 := rdecimal_spec (dg B x.natAbs) m hm (Wd_dg _) (dlen b1)
    rw [nv_dgB] at h2
    have h4 := rdecimal_spec (dg B y) m hm (Wd_dg _) (dlen b2)
    rw [nv_dgB] at h4
    have w1 := (hword_spec 1 (by decide)).frozen
    have s1 := hsame_spec (dg B y) (dg B 1) (Nat.le_trans (dlen b2) (by omega)) (Nat.le_trans (dlen (k := 1) (by decide)) (by decide))
    have hinj : (dg B y = dg B 1) ↔ y = 1 := ⟨fun h => by have := congrArg (nv B) h; rwa [nv_dgB, nv_dgB] at this, fun h => by rw [h]⟩
    have l1 := decS_len b1
    have l2 := decS_len b2
    unfold qS zS
    generalize decS x.natAbs = u at *
    generalize decS y = v at *
    have e0 : ([45] : List UInt8).length + u.length ≤ 9223372036854775807 := by rw [List.length_singleton]; omega
    have e0' : ([45] : List UInt8) ++ u = 45 :: u := rfl
    have e1 : ([47] : List UInt8).length + v.length ≤ 9223372036854775807 := by rw [List.length_singleton]; omega
    have e3 : ([47] : List UInt8) ++ v = 47 :: v := rfl
    have e2 : u.length + (47 :: v).length ≤ 9223372036854775807 := by rw [List.length_cons]; omega
    have e4 : (45 :: u).length + (47 :: v).length ≤ 9223372036854775807 := by simp only [List.length_cons]; omega
    by_cases hx : x < 0
    · rw [if_pos hx]
      rw [rN_neg hx] at r1
      by_cases h : y = 1
      · rw [if_pos (by omega)]
        rw [decide_eq_true (hinj.2 h)] at s1
        refine mkQ fol J0s Tryz.func72 a72 ?_
        unfold a72
        simp only [init_eq, initE, qm, qr, qn]
        exact wdQ (ai @e0' (ai @e0 @bz_C7))
      · rw [if_neg (by omega)]
        rw [decide_eq_false (fun e => h (hinj.1 e))] at s1
        refine mkQ fol J0s Tryz.func72 a72 ?_
        unfold a72
        simp only [init_eq, initE, qm, qr, qn]
        exact wdQ (ai @e4 (ai @e3 (ai @e1 (ai @e0' (ai @e0 @bz_C7)))))
    · rw [if_neg hx]
      rw [rN_nn hx] at r1
      by_cases h : y = 1
      · rw [if_pos (by omega)]
        rw [decide_eq_true (hinj.2 h)] at s1
        refine mkQ fol J0s Tryz.func72 a72 ?_
        unfold a72
        simp only [init_eq, initE, qm, qr, qn]
        exact wdQ @bz_C7
      · rw [if_neg (by omega)]
        rw [decide_eq_false (fun e => h (hinj.1 e))] at s1
        refine mkQ fol J0s Tryz.func72 a72 ?_
        unfold a72
        simp only [init_eq, initE, qm, qr, qn]
        exact wdQ (ai @e2 (ai @e3 (ai @e1 @bz_C7)))
theorem bit_law (V i : Nat) : V / 65536 ^ (i / 16) % 65536 / 2 ^ (i % 16) % 2 = V / 2 ^ i % 2 := by
  have h : (65536 : Nat) = 2 ^ 16 := rfl
  rw [h, ← Nat.pow_mul, ← Nat.toNat_testBit, ← Nat.toNat_testBit, Nat.testBit_mod_two_pow, decide_eq_true (Nat.mod_lt _ (by decide)), Bool.true_and, Nat.testBit_div_two_pow, Nat.mod_add_div]
theorem bl_step (V i : Nat) : bl (V % 2 ^ (i + 1)) = if V / 2 ^ i % 2 = 1 then i + 1 else bl (V % 2 ^ i) := by
  have h := Nat.mod_lt V (Nat.two_pow_pos i)
  have h2 : 2 ^ (i + 1) = 2 ^ i * 2 := Nat.pow_succ 2 i
  rw [Nat.mod_pow_succ]
  split
  · rename_i e; rw [e, Nat.mul_one]; exact bl_uniq (by omega) (by omega)
  · rename_i e
    have : V / 2 ^ i % 2 = 0 := by omega
    rw [this, Nat.mul_zero, Nat.add_zero]
def a144 : AC := .seq (.reg [qr 4 (.mv (.k (.i .i64 0)))])
 (.seq (.reg [qm 7 0,
 qm 8 1,
 qr 9 (.bin .quo (.t 8) (.k (.i .i64 16))),
 qr 10 (.call 145 [(1, (.t 7)), (1, (.t 9))]),
 qm 5 10])
 (.seq (.seq (.reg [qr 6 (.mv (.k (.i .i64 0)))])
 (.blk 0
 (.loop
 (.seq (.seq (.reg [qm 11 6,
 qm 12 1,
 qr 13 (.bin .rem (.t 12) (.k (.i .i64 16))),
 qr 14 (.bin .lss (.t 11) (.t 13))])
 (.cond (.t 14)
 (.skip)
 (.exit 0)))
 (.seq (.blk 1
 (.reg [qm 17 5,
 qr 18 (.bin .quo (.t 17) (.k (.i .i64 2))),
 qm 5 18]))
 (.reg [qm 15 6,
 qr 16 (.bin .add (.t 15) (.k (.i .i64 1))),
 qm 6 16]))))))
 (.seq (.reg [qm 19 5,
 qr 20 (.bin .rem (.t 19) (.k (.i .i64 2))),
 qm 4 20])
 (.ret))))
theorem hbit_spec (d : List Nat) (hd : Lt 65536 d) (i : Nat) (hi : i < 100000000000000) : AFun Tryz.prog J0 144 [.l 1 (D d), .i .i64 (i : Int)] (.i .i64 ((d.getD (i / 16) 0 / 2 ^ (i % 16) % 2 : Nat) : Int)) := by
  have h1 := hdigit_spec d (i / 16)
  have e1 : (i : Int).tdiv 16 = ((i / 16 : Nat) : Int) := rfl
  have e2 : (i : Int).tmod 16 = ((i % 16 : Nat) : Int) := rfl
  have e3 : IntKind.i64.wrap ((i / 16 : Nat) : Int) = ((i / 16 : Nat) : Int) := wi (by omega)
  have hx := Lt_get hd (by decide) (i / 16)
  generalize d.getD (i / 16) 0 = x at *
  have hr : i % 16 < 16 := Nat.mod_lt _ (by decide)
  generalize i % 16 = r at *
  refine mkQ fol J0s Tryz.func144 a144 ?_
  unfold a144
  simp only [init_eq, initE, qm, qr, qn]
  refine wkQ (ai @e3 (ai @e1 @bz_C7)) ?_
  refine vm_loopA [] Nat (fun j => ⟨[(0, .l 1 (D d)), (1, .i .i64 (i : Int)), (5, .i .i64 ((x / 2 ^ j : Nat) : Int)), (6, .i .i64 (j : Int))], [], 0⟩) (fun j => j ≤ r) (fun j => r - j) 0 (Nat.zero_le _) (by exact leQ) (by
    exact ltQ) ?_
  intro j hj Q' hQ he hr'
  have e4 : ((x / 2 ^ j : Nat) : Int).tdiv 2 = ((x / 2 ^ (j + 1) : Nat) : Int) := by
    rw [Nat.pow_succ, ← Nat.div_div_eq_div_mul]; rfl
  have e5 : ((x / 2 ^ j : Nat) : Int).tmod 2 = ((x / 2 ^ j % 2 : Nat) : Int) := rfl
  have e6 : IntKind.i64.wrap ((x / 2 ^ (j + 1) : Nat) : Int) = ((x / 2 ^ (j + 1) : Nat) : Int) := by
    have h0 := Nat.div_le_self x (2 ^ (j + 1))
    obtain ⟨y, hy⟩ : ∃ y, y = x / 2 ^ (j + 1) := ⟨_, rfl⟩
    rw [← hy] at h0 ⊢
    exact wi (by omega)
  by_cases h : (j : Int) < (r : Int)
  · clear e5
    refine spQ (ai @wi (ai @e6 (ai @e4 (ai @e2 (ai @h @bz_C7))))) ?_
    refine hQ _ (j + 1) (by omega) (by omega) ?_
    exact ltQ
  · obtain rfl : j = r := by omega
    generalize ((x / 2 ^ j : Nat) : Int) = z at *
    refine spQ (ai @e2 (ai @h @bz_C7)) ?_
    refine he _ _ ?_
    refine spQ (ai @e5 @bz_C7) ?_
    exact rtQ @bz_C7
def a110 : AC := .seq (.reg [qr 2 (.mv (.k (.i .i64 0)))])
 (.seq (.reg [qm 6 0,
 qr 7 (.call 125 [(1, (.t 6))]),
 qm 3 7])
 (.seq (.reg [qr 4 (.mv (.k (.i .i64 0)))])
 (.seq (.seq (.reg [qr 5 (.mv (.k (.i .i64 0)))])
 (.blk 0
 (.loop
 (.seq (.seq (.reg [qm 8 5,
 qm 9 3,
 qr 10 (.len (.t 9)),
 qr 11 (.bin .mul (.k (.i .i64 16)) (.t 10)),
 qr 12 (.bin .lss (.t 8) (.t 11))])
 (.cond (.t 12)
 (.skip)
 (.exit 0)))
 (.seq (.blk 1
 (.seq (.reg [qm 15 3,
 qm 16 5,
 qr 17 (.call 144 [(1, (.t 15)), (1, (.t 16))]),
 qr 18 (.bin .eql (.t 17) (.k (.i .i64 1)))])
 (.cond (.t 18)
 (.reg [qm 19 5,
 qr 20 (.bin .add (.t 19) (.k (.i .i64 1))),
 qm 4 20])
 (.skip))))
 (.reg [qm 13 5,
 qr 14 (.bin .add (.t 13) (.k (.i .i64 1))),
 qm 5 14]))))))
 (.seq (.reg [qm 21 4,
 qm 2 21])
 (.ret)))))
theorem hBits_spec (a : List Nat) (ha : Wd a) (la : a.length ≤ 10000000000) : AFun Tryz.prog J0 110 [.l 1 (W a)] (.i .i64 ((bl (nv B a) : Nat) : Int)) := by
  have h1 := hDigits_spec a ha (by omega)
  have ld : (fl 65536 (4 * a.length) (nv B a)).length = 4 * a.length := fl_len _ _
  have lL : Lt 65536 (fl 65536 (4 * a.length) (nv B a)) := fl_Lt (by decide) _ _
  have hv : nv 65536 (fl 65536 (4 * a.length) (nv B a)) = nv B a := by
    have h2 := nv_lt ha
    have h3 : B ^ a.length = 65536 ^ (4 * a.length) := by rw [Nat.pow_mul]; rfl
    rw [nv_fl, Nat.mod_eq_of_lt (by omega)]
  have hlt : nv B a < 2 ^ (16 * (4 * a.length)) := by
    have h2 := nv_lt ha
    have h3 : B ^ a.length = 2 ^ (16 * (4 * a.length)) := by rw [← Nat.mul_assoc, Nat.pow_mul]; rfl
    omega
  generalize fl 65536 (4 * a.length) (nv B a) = d at *
  generalize nv B a = v at *
  obtain ⟨n, hn⟩ : ∃ n, n = 4 * a.length := ⟨_, rfl⟩
  rw [← hn] at ld hlt
  have b1 := fun i (hi : i < 16 * n) => hbit_spec d lL i (by omega)
  have b2 : ∀ i, d.getD (i / 16) 0 / 2 ^ (i % 16) % 2 = v / 2 ^ i % 2 := fun i => by
    rw [nv_digit (by decide) lL, hv]; exact bit_law v i
  refine mkQ fol J0s Tryz.func110 a110 ?_
  unfold a110
  simp only [init_eq, initE, qm, qr, qn]
  refine wkQ @bz_C7 ?_
  refine vm_loopA [] Nat (fun i => ⟨[(3, .l 1 (D d)), (4, .i .i64 ((bl (v % 2 ^ i) : Nat) : Int)), (5, .i .i64 (i : Int))], [], 0⟩) (fun i => i ≤ 16 * n) (fun i => 16 * n - i) 0 (Nat.zero_le _) (by exact leQ) (by
    simp (disch := (first | omega | assumption)) only [Sl, Sa, Sw, ↓reduceIte, Nat.reduceEqDiff, Nat.reduceLT, List.all_nil, List.all_cons, Nat.reduceBneDiff, Nat.reduceAdd, bne_iff_ne, ne_eq, reduceCtorEq, not_false_eq_true, not_true_eq_false, Bool.and_true, Bool.true_and, and_true, true_and, and_self, i_eq]
    rw [Nat.pow_zero, Nat.mod_one]; exact ⟨rfl, rfl⟩) ?_
  intro i hi Q' hQ he hr'
  have wn : IntKind.i64.wrap (16 * (n : Int)) = 16 * (n : Int) := wi (by omega)
  have kd2 : (D d).length = n := by rw [D_len, ld]
  by_cases h : (i : Int) < 16 * (n : Int)
  · have c1 := b1 i (by omega)
    rw [b2 i] at c1
    have hs := bl_step v i
    by_cases c2 : v / 2 ^ i % 2 = 1
    · rw [if_pos c2] at hs
      rw [c2] at c1
      refine spQ (ai @wn (ai @kd2 (ai @h @bz_C7))) ?_
      refine wkQ (ai @wi @bz_C7) ?_
      refine hQ _ (i + 1) (by omega) (by omega) ?_
      simp (disch := (first | omega | assumption)) only [Sl, Sa, Sw, ↓reduceIte, Nat.reduceEqDiff, Nat.reduceLT, List.all_nil, List.all_cons, Nat.reduceBneDiff, Nat.reduceAdd, bne_iff_ne, ne_eq, reduceCtorEq, not_false_eq_true, not_true_eq_false, Bool.and_true, Bool.true_and, and_true, true_and, and_self, i_eq]
      rw [hs]; exact ⟨rfl, rfl⟩
    · rw [if_neg c2] at hs
      rw [show v / 2 ^ i % 2 = 0 from by omega] at c1
      refine spQ (ai @wn (ai @kd2 (ai @h @bz_C7))) ?_
      refine wkQ (ai @wi @bz_C7) ?_
      refine hQ _ (i + 1) (by omega) (by omega) ?_
      simp (disch := (first | omega | assumption)) only [Sl, Sa, Sw, ↓reduceIte, Nat.reduceEqDiff, Nat.reduceLT, List.all_nil, List.all_cons, Nat.reduceBneDiff, Nat.reduceAdd, bne_iff_ne, ne_eq, reduceCtorEq, not_false_eq_true, not_true_eq_false, Bool.and_true, Bool.true_and, and_true, true_and, and_self, i_eq]
      rw [hs]; exact ⟨rfl, rfl⟩
  · obtain rfl : i = 16 * n := by omega
    rw [Nat.mod_eq_of_lt hlt]
    refine spQ (ai @wn (ai @kd2 (ai @h @bz_C7))) ?_
    refine he _ _ ?_
    refine spQ @bz_C7 ?_
    exact rtQ @bz_C7
def a69 : AC := .seq (.reg [qr 2 (.mv (.k (.i .i64 0)))])
 (.seq (.reg [qm 3 0,
 qr 4 (.call 110 [(1, (.t 3))]),
 qm 2 4])
 (.ret))
theorem hbits_spec (a : List Nat) (ha : Wd a) (la : a.length ≤ 10000000000) : AFun Tryz.prog J0 69 [.l 1 (W a)] (.i .i64 ((bl (nv B a) : Nat) : Int)) := by
  have h := hBits_spec a ha la
  generalize ((bl (nv B a) : Nat) : Int) = x at *
  refine mkQ fol J0s Tryz.func69 a69 ?_
  unfold a69
  simp only [init_eq, initE, qm, qr, qn]
  exact wdQ @bz_C7
def a30 : AC := .seq (.reg [qr 1 (.bx 27 (.t 0)),
 qr 2 (.mv (.k (.i .i64 0))),
 qr 3 (.mv (.k (.i .i64 0)))])
 (.seq (.seq (.reg [qr 5 (.ld true 3 (.t 1)),
 qr 6 (.call 9 [(1, (.t 5))]),
 qr 7 (.un .not (.t 6))])
 (.cond (.t 7)
 (.seq (.reg [qr 2 (.mv (.k (.i .i64 0))),
 qr 3 (.mv (.k (.i .i64 1)))])
 (.ret))
 (.skip)))
 (.seq (.seq (.reg [qr 8 (.ld true 3 (.t 1)),
 qr 9 (.call 10 [(1, (.t 8))]),
 qr 10 (.bin .leq (.t 9) (.k (.i .i64 0)))])
 (.cond (.t 10)
 (.seq (.reg [qr 2 (.mv (.k (.i .i64 0))),
 qr 3 (.mv (.k (.i .i64 9)))])
 (.ret))
 (.skip)))
 (.seq (.dreg [qr 11 (.fad 2 (.t 1)),
 qr 12 (.ld false 1 (.t 11)),
 qr 13 (.call 69 [(1, (.t 12))]),
 qr 14 (.fad 0 (.t 1)),
 qr 15 (.fad 1 (.t 14)),
 qr 16 (.ld false 1 (.t 15)),
 qr 17 (.call 69 [(1, (.t 16))]),
 qr 18 (.bin .sub (.t 13) (.t 17)),
 qr 19 (.bin .sub (.t 18) (.k (.i .i64 2))),
 qr 20 (.mm true (.k (.i .i64 0)) (.t 19)),
 qm 4 20])
 (.seq (.blk 0
 (.loop
 (.seq (.seq (.reg [qm 21 4,
 qr 22 (.bin .leq (.t 21) (.k (.i .i64 1048576)))])
 (.cond (.t 22)
 (.skip)
 (.exit 0)))
 (.blk 1
 (.seq (.seq (.dreg [qr 23 (.fad 2 (.t 1)),
 qr 24 (.ld false 1 (.t 23)),
 qr 25 (.fad 0 (.t 1)),
 qr 26 (.fad 1 (.t 25)),
 qr 27 (.ld false 1 (.t 26)),
 qm 28 4,
 qr 29 (.call 61 [(1, (.t 28))]),
 qr 30 (.call 71 [(1, (.t 27)), (1, (.t 29))]),
 qr 31 (.call 70 [(1, (.t 24)), (1, (.t 30))]),
 qr 32 (.bin .lss (.t 31) (.k (.i .i64 0)))])
 (.cond (.t 32)
 (.seq (.reg [qm 33 4,
 qm 2 33,
 qr 3 (.mv (.k (.i .i64 0)))])
 (.ret))
 (.skip)))
 (.reg [qm 34 4,
 qr 35 (.bin .add (.t 34) (.k (.i .i64 1))),
 qm 4 35]))))))
 (.seq (.reg [qr 2 (.mv (.k (.i .i64 0))),
 qr 3 (.mv (.k (.i .i64 13)))])
 (.ret))))))
theorem rcexp_0 (s : Bool) (a d : List Nat) (m : Nat) (hm : m ≤ 10000000) (hd : Wd d) (ld : d.length ≤ m) (h0 : nv B d = 0) : AFun Tryz.prog J0 30 [rL s a d] (.t [.i .i64 0, .i .i64 1]) := by
  have h1 := rOk_spec s a d hd (by omega)
  rw [decide_eq_true h0] at h1
  refine mkQ fol J0s Tryz.func30 a30 ?_
  unfold a30
  simp only [init_eq, initE, qm, qr, qn]
  exact wdQ @bz_C7
theorem rcexp_s (s : Bool) (a d : List Nat) (m : Nat) (hm : m ≤ 10000000) (ha : Wd a) (hd : Wd d) (la : a.length ≤ m) (ld : d.length ≤ m) (h0 : nv B d ≠ 0) (hs : zv s a ≤ 0) : AFun Tryz.prog J0 30 [rL s a d] (.t [.i .i64 0, .i .i64 9]) := by
  have h1 := rOk_spec s a d hd (by omega)
  rw [decide_eq_false h0] at h1
  have h2 := rS_spec s a d ha (by omega)
  have hs1 : sgz (zv s a) ≤ 0 := by unfold sgz; split; decide; rw [if_neg (by omega)]; decide
  generalize sgz (zv s a) = g at *
  refine mkQ fol J0s Tryz.func30 a30 ?_
  unfold a30
  simp only [init_eq, initE, qm, qr, qn]
  exact wdQ (ai @hs1 @bz_C7)
theorem rcexp_k (s : Bool) (a d : List Nat) (k m : Nat) (hm : m ≤ 10000000) (ha : Wd a) (hd : Wd d) (la : a.length ≤ m) (ld : d.length ≤ m) (h0 : nv B d ≠ 0) (hs : 0 < zv s a) (hk : FinP (nv B a) (nv B d) k) : AFun Tryz.prog J0 30 [rL s a d] (.t [.i .i64 (if k ≤ 1048576 then (k : Int) else 0), .i .i64 (if k ≤ 1048576 then 0 else 13)]) := by
  have h1 := rOk_spec s a d hd (by omega)
  rw [decide_eq_false h0] at h1
  have h2 := rS_spec s a d ha (by omega)
  have hs1 : sgz (zv s a) = 1 := by unfold sgz; rw [if_neg (by omega), if_pos hs]
  rw [hs1] at h2
  have hu : nv B a ≠ 0 := fun h => by rw [zv_z.2 h] at hs; omega
  have b1 := hbits_spec d hd (by omega)
  have b2 := hbits_spec a ha (by omega)
  have c1 := bl_len ha
  have c2 := bl_len hd
  have w1 : IntKind.i64.wrap ((bl (nv B d) : Int) - (bl (nv B a) : Int)) = (bl (nv B d) : Int) - (bl (nv B a) : Int) := wi (by omega)
  have w2 : IntKind.i64.wrap ((bl (nv B d) : Int) - (bl (nv B a) : Int) - 2) = (bl (nv B d) : Int) - (bl (nv B a) : Int) - 2 := wi (by omega)
  have w3 : max 0 ((bl (nv B d) : Int) - (bl (nv B a) : Int) - 2) = ((bl (nv B d) - bl (nv B a) - 2 : Nat) : Int) := by omega
  have fb := fin_bl hu h0 hk
  have hK0 : bl (nv B d) - bl (nv B a) - 2 ≤ k := by rcases fb with ⟨h, _⟩ | ⟨h, _⟩ <;> omega
  have hKb : k ≤ 1000000000 := by rcases fb with ⟨h, _⟩ | ⟨h, _⟩ <;> omega
  have lu := nvlt ha la
  have t1 := fun i (h : i ≤ 1048576) => (htwo_spec i (by omega)).frozen
  have m1 := fun i (h : i ≤ 1048576) => (hmul_spec a (dg B (2 ^ i)) ha (Wd_dg _) (by omega) (Nat.le_trans (dlen (pow2_B i (by omega : i / 64 + 1 ≤ 16385))) (by decide))).frozen
  simp only [nv_dgB] at m1
  have bb := fun i (h : i ≤ 1048576) => shl_len lu h
  have k1 := fun i (h : i ≤ 1048576) => hcmpN_spec d (dg B (nv B a * 2 ^ i)) hd (Wd_dg _) (by omega) (Nat.le_trans (dlen (bb i h)) (by omega))
  simp only [nv_dgB] at k1
  have sgl := fun i => sg_lt (x := nv B d) (y := nv B a * 2 ^ i)
  obtain ⟨f1, f2⟩ := hk
  generalize bl (nv B d) - bl (nv B a) - 2 = K0 at *
  generalize nv B a = u at *
  generalize nv B d = v at *
  clear fb bb c1 c2
  obtain ⟨r1, hr1⟩ : ∃ r : Int, r = (if k ≤ 1048576 then (k : Int) else 0) := ⟨_, rfl⟩
  obtain ⟨r2, hr2⟩ : ∃ r : Int, r = (if k ≤ 1048576 then 0 else 13) := ⟨_, rfl⟩
  rw [← hr1, ← hr2]
  refine mkQ fol J0s Tryz.func30 a30 ?_
  unfold a30
  simp only [init_eq, initE, qm, qr, qn]
  refine wkQ (ai @w3 (ai @w2 (ai @w1 @bz_C7))) ?_
  refine vm_loopA [] Nat (fun i => ⟨[(1, .pt 0 0), (4, .i .i64 (i : Int))], [(0, some ⟨27, 3, [.b s, .l 1 (W a), .l 1 (W d)], true, true⟩)], 1⟩) (fun i => i ≤ k) (fun i => k - i) K0 hK0 (by exact leQ) (by
    exact ltQ) ?_
  intro i hi Q' hQ he hrr
  by_cases h : (i : Int) ≤ 1048576
  · have t1i := t1 i (by omega)
    have m1i := m1 i (by omega)
    have k1i := k1 i (by omega)
    have sgi := sgl i
    by_cases hik : i = k
    · subst hik
      have g : sg v (u * 2 ^ i) < 0 := by rw [sgi]; exact f1
      rw [if_pos (by omega)] at hr1 hr2
      subst hr1
      subst hr2
      generalize sg v (u * 2 ^ i) = gg at *
      generalize dg B (u * 2 ^ i) = y at *
      generalize dg B (2 ^ i) = z at *
      refine wkQ (ai @g (ai @h @bz_C7)) ?_
      refine hrr _ ?_
      exact pdQ @bz_C7
    · have g : ¬ sg v (u * 2 ^ i) < 0 := by rw [sgi]; have := f2 i (by omega); omega
      generalize sg v (u * 2 ^ i) = gg at *
      generalize dg B (u * 2 ^ i) = y at *
      generalize dg B (2 ^ i) = z at *
      refine wkQ (ai @g (ai @h @bz_C7)) ?_
      refine hQ _ (i + 1) (by omega) (by omega) ?_
      exact ltQ
  · rw [if_neg (by omega)] at hr1 hr2
    subst hr1
    subst hr2
    refine spQ (ai @h @bz_C7) ?_
    refine he _ _ ?_
    exact pdQ @bz_C7
def a31 : AC := .seq (.reg [qr 1 (.bx 37 (.t 0)),
 qr 2 (.mv (.k (.s []))),
 qr 3 (.mv (.k (.i .i64 0)))])
 (.seq (.reg [qr 9 (.ld true 4 (.t 1)),
 qr 10 (.call 22 [(1, (.t 9))]),
 qm 4 10])
 (.seq (.seq (.reg [qm 11 4,
 qr 12 (.bin .neq (.t 11) (.k (.i .i64 0)))])
 (.cond (.t 12)
 (.seq (.reg [qm 13 4,
 qr 2 (.mv (.k (.s []))),
 qm 3 13])
 (.ret))
 (.skip)))
 (.seq (.reg [qr 15 (.ld true 4 (.t 1)),
 qr 16 (.call 24 [(1, (.t 15))]),
 qr 17 (.call 72 [(1, (.t 16))]),
 qm 14 17,
 qr 18 (.ext (.t 14) 0),
 qr 19 (.ext (.t 14) 1),
 qm 5 18,
 qm 6 19])
 (.seq (.reg [qr 21 (.ld true 4 (.t 1)),
 qr 22 (.call 25 [(1, (.t 21))]),
 qr 23 (.call 72 [(1, (.t 22))]),
 qm 20 23,
 qr 24 (.ext (.t 20) 0),
 qr 25 (.ext (.t 20) 1),
 qm 7 24,
 qm 8 25])
 (.seq (.seq (.reg [qr 26 (.fad 3 (.t 1)),
 qr 27 (.ld false 1 (.t 26))])
 (.cond (.t 27)
 (.seq (.reg [qm 28 5,
 qm 2 28,
 qr 3 (.mv (.k (.i .i64 0)))])
 (.ret))
 (.skip)))
 (.seq (.reg [qm 29 5,
 qr 30 (.bin .add (.k (.s [40])) (.t 29)),
 qr 31 (.bin .add (.t 30) (.k (.s [44, 32]))),
 qm 32 7,
 qr 33 (.bin .add (.t 31) (.t 32)),
 qr 34 (.bin .add (.t 33) (.k (.s [41]))),
 qm 2 34,
 qr 3 (.mv (.k (.i .i64 0)))])
 (.ret)))))))
theorem rcprint_spec (s : Bool) (a : List Nat) (k m : Nat) (p : Bool) (hk : k ≤ 1048576) (ha : Wd a) (la : a.length ≤ m) (hm : 20000 ≤ m) (hm1 : m ≤ 2000000) : AFun Tryz.prog J0 31 [cL s a (k : Int) p] (.t [.s (cS (zv s a) k p), .i .i64 0]) := by
  have h0 := rccheck_spec s a (k : Int) p
  rw [ckE_0 (by omega) (by omega)] at h0
  obtain ⟨h1, g1⟩ := rlow_spec s a k m p hk ha la hm (by omega)
  obtain ⟨h2, g2⟩ := rhigh_spec s a k m p hk ha la hm (by omega)
  obtain ⟨b1, b2⟩ := Rr_num g1
  obtain ⟨b3, b4⟩ := Rr_num g2
  have h3 := rqprint_spec (decide ((loQ (zv s a) k).num < 0)) (dg B (loQ (zv s a) k).num.natAbs) (dg B (loQ (zv s a) k).den) m (by omega) (Wd_dg _) (Wd_dg _) (dlen b1) (dlen b2)
  rw [zv_N, nv_dgB, re_p (Rat.den_nz _)] at h3
  have h4 := rqprint_spec (decide ((loQ (hiN (zv s a) p) k).num < 0)) (dg B (loQ (hiN (zv s a) p) k).num.natAbs) (dg B (loQ (hiN (zv s a) p) k).den) (m + 1) (by omega) (Wd_dg _) (Wd_dg _) (dlen b3) (dlen b4)
  rw [zv_N, nv_dgB, re_p (Rat.den_nz _)] at h4
  have l1 := qpV_len b1 b2
  have l2 := qpV_len b3 b4
  unfold cS
  clear g1 g2 b1 b2 b3 b4
  cases p with
  | true =>
    show AFun Tryz.prog J0 31 [cL s a (k : Int) true] (.t [.s (qpV (loQ (zv s a) k).num (loQ (zv s a) k).den), .i .i64 0])
    generalize qpV (loQ (zv s a) k).num (loQ (zv s a) k).den = u at *
    generalize qpV (loQ (hiN (zv s a) true) k).num (loQ (hiN (zv s a) true) k).den = v at *
    generalize loQ (zv s a) k = L at *
    generalize loQ (hiN (zv s a) true) k = H at *
    generalize (k : Int) = kk at *
    refine mkQ fol J0s Tryz.func31 a31 ?_
    unfold a31
    simp only [init_eq, initE, qm, qr, qn]
    exact wdQ @bz_C7
  | false =>
    show AFun Tryz.prog J0 31 [cL s a (k : Int) false] (.t [.s (40 :: (qpV (loQ (zv s a) k).num (loQ (zv s a) k).den ++ ([44, 32] ++ (qpV (loQ (hiN (zv s a) false) k).num (loQ (hiN (zv s a) false) k).den ++ [41])))), .i .i64 0])
    generalize qpV (loQ (zv s a) k).num (loQ (zv s a) k).den = u at *
    generalize qpV (loQ (hiN (zv s a) false) k).num (loQ (hiN (zv s a) false) k).den = v at *
    generalize loQ (zv s a) k = L at *
    generalize loQ (hiN (zv s a) false) k = H at *
    generalize (k : Int) = kk at *
    have e1 : ([40] : List UInt8).length + u.length ≤ 9223372036854775807 := by rw [List.length_singleton]; omega
    have e2 : (([40] : List UInt8) ++ u).length + ([44, 32] : List UInt8).length ≤ 9223372036854775807 := by simp only [List.length_append, List.length_cons, List.length_nil]; omega
    have e3 : (([40] : List UInt8) ++ u ++ [44, 32]).length + v.length ≤ 9223372036854775807 := by simp only [List.length_append, List.length_cons, List.length_nil]; omega
    have e4 : (([40] : List UInt8) ++ u ++ [44, 32] ++ v).length + ([41] : List UInt8).length ≤ 9223372036854775807 := by simp only [List.length_append, List.length_cons, List.length_nil]; omega
    have e5 : ([40] : List UInt8) ++ u ++ [44, 32] ++ v ++ [41] = 40 :: (u ++ ([44, 32] ++ (v ++ [41]))) := by simp
    refine mkQ fol J0s Tryz.func31 a31 ?_
    unfold a31
    simp only [init_eq, initE, qm, qr, qn]
    exact wdQ (ai @e5 (ai @e4 (ai @e3 (ai @e2 (ai @e1 @bz_C7)))))
theorem rcprintE_spec (s : Bool) (a : List Nat) (k : Int) (p : Bool) (h : ckE k ≠ 0) : AFun Tryz.prog J0 31 [cL s a k p] (.t [.s [], .i .i64 (ckE k)]) := by
  have h0 := rccheck_spec s a k p
  generalize ckE k = e at *
  refine mkQ fol J0s Tryz.func31 a31 ?_
  unfold a31
  simp only [init_eq, initE, qm, qr, qn]
  exact wdQ (ai @h @bz_C7)
end Go.Proofs.YtfcpigjmagbnkaaGreatDoor
