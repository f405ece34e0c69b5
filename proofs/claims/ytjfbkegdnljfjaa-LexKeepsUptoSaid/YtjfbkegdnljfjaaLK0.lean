/-
  LexKeeps: reading and cutting, their answers as memory of the caller's own.
-/
import Derived.Test.YtjfbkegdnljfjaaL9
import Derived.Test.YtjfbkegdnljfjaaBK0
namespace Go.Proofs.Ytjfbkegdnljfjaa
open Go Go.RowKit Ab
set_option linter.unusedSimpArgs false
set_option linter.unusedVariables false
set_option maxHeartbeats 10000000
theorem bz_LK0 : type_of% (And.intro @wi (And.intro @tn_nat (And.intro @tn0 (And.intro @Nat.div_one (And.intro @Nat.mul_one (And.intro @T_len (And.intro @m3 (And.intro @T_row (And.intro @T_nf (And.intro @T_app1 (And.intro @Tv_nf (And.intro @PT_len (@PT_app1))))))))))))) := And.intro @wi (And.intro @tn_nat (And.intro @tn0 (And.intro @Nat.div_one (And.intro @Nat.mul_one (And.intro @T_len (And.intro @m3 (And.intro @T_row (And.intro @T_nf (And.intro @T_app1 (And.intro @Tv_nf (And.intro @PT_len (@PT_app1))))))))))))
theorem _root_.Go.Proofs.Ytjfbkegdnljfjaa.Ab.AFun.mktn {P : Program} {J : World → Prop} (hfol : P.follows .mixedOrders = true) (hJs : ∀ w e w', J w → BelE w e w' → J w') {f : FuncId} {fn : Func} {c : Code} {ac : AC} {t0 : Nat} {ts : List Nat} {args : List V} {e sz : Nat} {rs : List V} (hf : P.funcs[f]? = some fn) (hb : fn.body = some c) (hc : cCode P fn.ntmps c = some ac) (hts : resSlots fn.results.toList = some (t0 :: ts)) (hts1 : ts ≠ []) (hn' : Nat.ble args.length fn.ntmps = true)
    (hsz : 0 < sz)
    (hv : avc (AFun P J) (XFun P) ac (fun ex s => match ex with | .normal | .ret => s.get t0 = .nl ∧ retN s ts rs | .exit _ => False) (initS args)) : AFun P J f args (.to e sz [] rs) := by
  have hn : args.length ≤ fn.ntmps := Nat.le_of_ble_eq_true hn'
  refine ⟨hsz, ?_⟩
  intro w H vs hJ hT hH hreps
  refine calls_of_wp hf hb ?_
  have hlen : vs.length = args.length := hreps.1
  have hsize : (vs.toArray ++ Array.replicate (fn.ntmps - vs.toArray.size) undef).size = fn.ntmps := by simp; omega
  have hconc : Conc w ⟨H, fun _ => False, []⟩ w H (fun _ => none) fn.ntmps { tmps := vs.toArray ++ Array.replicate (fn.ntmps - vs.toArray.size) undef, defers := [] } (initS args) := by
    refine ⟨⟨BelE.refl _ _, hT, hH, fun b hb _ => .inl hb, fun id o h => (by cases h), fun i j oi oj vi vj b hij h => (by cases h)⟩, hsize, rfl, fun _ _ h => (by cases h), fun t => ?_, fun _ _ => rfl⟩
    show Rep w H (fun _ => none) _ (lk (initE 0 args) t)
    rw [initE_get]
    simp only [Nat.zero_le, if_true, Nat.sub_zero]
    by_cases ht : t < args.length
    · have htv : t < vs.length := by omega
      have := hreps.2 t vs[t] args[t] (List.getElem?_eq_getElem htv) (List.getElem?_eq_getElem ht)
      simp only [Array.getD_eq_getD_getElem?, List.getD, List.getElem?_eq_getElem ht, Option.getD_some]
      rw [Array.getElem?_append_left (by simpa using htv)]
      simp only [List.getElem?_toArray, List.getElem?_eq_getElem htv, Option.getD_some]
      exact .up this
    · have : args.getD t V.any = .any := by simp [List.getD, List.getElem?_eq_none (Nat.le_of_not_lt ht)]
      rw [this]; exact .any _
  have last : ∀ (s' : St) (H' : Nat → Prop) (ov' : Nat → Option Value) (a' : Act) (w' : World), (s'.get t0 = .nl ∧ retN s' ts rs) → Conc w ⟨H, fun _ => False, []⟩ w' H' ov' fn.ntmps a' s' →
      a'.defers = [] ∧ ∃ r, (results fn a'.tmps).run P w' = .ok r w' ∧ ∃ (u : Value) (us : List Value) (n : Nat) (xs : List Value) (N : Nat → Prop), Ending.returned r = .returned (.tuple (u :: us).toArray) ∧ Below w.heap.size w w' ∧ w'.ownsRow w.heap.size e sz u n xs ∧ (∀ b, N b → w.heap.size ≤ b ∧ b < w'.heap.size) ∧ (∀ b, blk u = some b → ¬ N b) ∧
        RepAll w' (fun b => H b ∨ N b) xs [] ∧ (∀ x, x ∈ ([] : List V) → x.cell = true) ∧ n ≤ maxLen ∧ RepAll w' (fun b => H b ∨ N b) us rs := by
    rintro s' H' ov' a' w' ⟨h1, h3⟩ hc'
    have hr := hc'.env t0
    rw [h1] at hr
    have e1 := hr.inv_nl
    obtain ⟨hl, up, hup, hkey, hreps⟩ := retN_repK hc' ts rs h3
    obtain ⟨H1, hext, hm1, hfr, hfr5⟩ := hc'.mem.freeze hup
    have hin : ∀ b, H1 b → H b ∨ (H1 b ∧ w.heap.size ≤ b) := fun b hb => by
      rcases Nat.lt_or_ge b w.heap.size with h | h
      · exact .inl ((hm1.low b hb h).resolve_right (fun h => h))
      · exact .inr ⟨hb, h⟩
    refine ⟨hc'.dfr, _, resSlots_run hts _ _, a'.tmps.getD t0 undef, ts.map fun t => a'.tmps.getD t undef, 0, [], fun b => H1 b ∧ w.heap.size ≤ b, ?_, hc'.mem.bel.below (fun _ h => h), by rw [e1]; exact World.ownsRow_nil _ _ _ _, fun b hb => ⟨hb.2, hm1.Hlt b hb.1⟩, fun b hb hN => (by rw [e1] at hb; cases hb), ⟨rfl, fun j v x h => by simp at h⟩, fun x h => by simp at h, Nat.zero_le _, ⟨by simpa using hl, fun j v x h5 h6 => ?_⟩⟩
    · match ts, hts1 with
      | t1 :: ts', _ => rfl
    · simp only [List.getElem?_map, Option.map_eq_some_iff] at h5
      obtain ⟨q, hq, rfl⟩ := h5
      exact (hreps H1 hext.hH hfr j q x hq h6).mono hin (fun _ _ => rfl)
  refine wp_mono (avc_sound (J := J) (H0 := ⟨H, fun _ => False, []⟩) hfol (fun w' hb => hJs w _ w' hJ hb) c ac hc (fun _ _ h => by cases h) _ _ _ w H (fun _ => none) hconc hv) fun ex a' w' hq => ?_
  cases ex with
  | normal => obtain ⟨s', H', ov', hr, hc'⟩ := hq; exact last s' H' ov' a' w' hr hc'
  | ret => obtain ⟨s', H', ov', hr, hc'⟩ := hq; exact last s' H' ov' a' w' hr hc'
  | exit i => obtain ⟨s', H', ov', hr, _⟩ := hq; exact hr.elim
  | goto l => exact hq.elim
  | panic ch => exact hq.elim
  | outgrown => exact hq.elim
theorem scanO_ok (s : List UInt8) (ts : List Tk) (hL' : ¬ 1000 < s.length) (h : scan s 0 = some ts) : AFun Try.prog J0 8 [.s s] (.to 27 3 (T ts) [.i .i64 0]) := by
  have hL : ¬ 1000 < (s.length : Int) := by omega
  refine AFun.mkt fol J0s Try.func8 rfl (ac := a8) (by kernel_rfl) rfl (by decide) rfl (by decide) ?_
  apply vm_start
  unfold a8
  simp only [init_eq, initE]
  repeat first
    | (refine hK _ ?_; clear hK K)
    | ((first | refine vm_reg (fun K hK => ?_) | refine vm_dreg (fun K hK => ?_) | refine vm_dregx (fun K hK => ?_)); simp (disch := (first | omega | assumption)) only [S1, ↓reduceIte, Nat.reduceEqDiff, Nat.reduceAdd, Nat.reduceMul, Nat.reduceDiv, AOp.sb, AOp.mut, frzf, ↓Bool.false_eq_true, beq_self_eq_true, ite_self, Nat.reduceLeDiff, Int.reduceEq, Int.reduceSub, Int.reduceAdd, Int.reduceNeg, Int.reduceLT, Int.reduceLE, Nat.reduceLT, bz_LK0, hL]; refine hK _ ?_; clear hK K)
    | simp only [Sv, ↓reduceIte, Nat.reduceEqDiff]
  refine vm_loopA [(4, 27, 3)] (Nat × List Tk) (fun x => ⟨[(0, .s s), (4, .ow 3 0 x.2.length), (5, .i .i64 (x.1 : Int))], [(0, some ⟨27, 3, T x.2, true, false⟩)], 1⟩)
    (fun x => x.1 ≤ s.length ∧ x.2.length ≤ x.1 ∧ scan s 0 = (scan s x.1).map (x.2 ++ ·)) (fun x => s.length - x.1) (0, []) ⟨Nat.zero_le _, Nat.le_refl _, by cases scan s 0 <;> simp⟩ (by simp (disch := (first | omega | assumption)) only [Sl, Sa, Sw, ↓reduceIte, Nat.reduceEqDiff, Nat.reduceLT, List.all_nil, List.all_cons, Nat.reduceBneDiff, Nat.reduceAdd, bne_iff_ne, ne_eq, reduceCtorEq, not_false_eq_true, not_true_eq_false, Bool.and_true, Bool.true_and, and_true, true_and, and_self]) (by
    simp (disch := (first | omega | assumption)) only [Sl, Sa, Sw, ↓reduceIte, Nat.reduceEqDiff, Nat.reduceLT, List.all_nil, List.all_cons, Nat.reduceBneDiff, Nat.reduceAdd, bne_iff_ne, ne_eq, reduceCtorEq, not_false_eq_true, not_true_eq_false, Bool.and_true, Bool.true_and, and_true, true_and, and_self, i_eq]
    repeat' first | rfl | omega | (simp only [List.length_append, List.length_cons, List.length_nil]; done) | apply And.intro) ?_
  rintro ⟨i, pre⟩ ⟨hi, hp, hsc⟩ Q' hQ he hr
  simp only [] at hi hp hsc ⊢
  by_cases hlt : (i : Int) < s.length
  · have hlt' : i < s.length := by omega
    cases hb : isBl (s.getD i 0)
    · have hrl := rowLen_le (s.drop i)
      rw [List.length_drop] at hrl
      generalize hn : rowLen (s.drop i) = n at hrl
      have hkl : ((s.drop i).take n).length ≤ 9223372036854775807 := by rw [List.length_take, List.length_drop]; omega
      by_cases hk : ((kind ((s.drop i).take n) : Nat) : Int) = 0
      · have hno := scan_err hlt' hb (by rw [hn]; omega)
        rw [h, hno] at hsc; cases hsc
      · have hto := scan_tok hlt' hb (by rw [hn]; omega)
        have hpos := rowLen_pos (l := s.drop i) (by rw [hn]; omega)
        rw [hn] at hto hpos
        rw [hto, map_app] at hsc
        have zc1 := isBlank_spec (s.getD i 0)
        have zc2 := length_spec (s.drop i) (by rw [List.length_drop]; omega) (by rw [List.length_drop]; omega)
        have zc3 := kind_spec ((s.drop i).take n) hkl
        repeat first | (refine hK _ ?_; clear hK K) | simp only [Sv, ↓reduceIte, Nat.reduceEqDiff] | ((first | refine vm_reg (fun K hK => ?_) | refine vm_dreg (fun K hK => ?_) | refine vm_dregx (fun K hK => ?_) | refine clp_q ?_ | refine clq_mk (by assumption) ?_ | refine mcq_q ?_ | (apply mcr_mk; assumption) | (apply ocr_mk; assumption)); simp (disch := (first | omega | assumption)) only [S1, ↓reduceIte, Nat.reduceEqDiff, Nat.reduceAdd, Nat.reduceMul, Nat.reduceDiv, AOp.sb, AOp.mut, frzf, ↓Bool.false_eq_true, beq_self_eq_true, ite_self, Nat.reduceLeDiff, Int.reduceEq, Int.reduceSub, Int.reduceAdd, Int.reduceNeg, Int.reduceLT, Int.reduceLE, Nat.reduceLT, bz_LK0, hlt, hb, hn, tn_add, take_drop_range, hk])
        refine hQ _ (i + n, pre ++ [⟨kind ((s.drop i).take n), (s.drop i).take n, i⟩]) ⟨by simp only; omega, by simp only [List.length_append, List.length_singleton]; omega, hsc⟩ (by simp only; omega) ?_
        simp (disch := (first | omega | assumption)) only [Sl, Sa, Sw, ↓reduceIte, Nat.reduceEqDiff, Nat.reduceLT, List.all_nil, List.all_cons, Nat.reduceBneDiff, Nat.reduceAdd, bne_iff_ne, ne_eq, reduceCtorEq, not_false_eq_true, not_true_eq_false, Bool.and_true, Bool.true_and, and_true, true_and, and_self, i_eq]
        repeat' first | rfl | omega | (simp only [List.length_append, List.length_cons, List.length_nil]; done) | apply And.intro
    · have zc4 := isBlank_spec (s.getD i 0)
      repeat first | (refine hK _ ?_; clear hK K) | simp only [Sv, ↓reduceIte, Nat.reduceEqDiff] | ((first | refine vm_reg (fun K hK => ?_) | refine vm_dreg (fun K hK => ?_) | refine vm_dregx (fun K hK => ?_) | refine clp_q ?_ | refine clq_mk (by assumption) ?_ | refine mcq_q ?_ | (apply mcr_mk; assumption) | (apply ocr_mk; assumption)); simp (disch := (first | omega | assumption)) only [S1, ↓reduceIte, Nat.reduceEqDiff, Nat.reduceAdd, Nat.reduceMul, Nat.reduceDiv, AOp.sb, AOp.mut, frzf, ↓Bool.false_eq_true, beq_self_eq_true, ite_self, Nat.reduceLeDiff, Int.reduceEq, Int.reduceSub, Int.reduceAdd, Int.reduceNeg, Int.reduceLT, Int.reduceLE, Nat.reduceLT, bz_LK0, hlt, hb])
      rw [scan_bl hlt' hb] at hsc
      refine hQ _ (i + 1, pre) ⟨by simp only; omega, by simp only; omega, hsc⟩ (by simp only; omega) ?_
      simp (disch := (first | omega | assumption)) only [Sl, Sa, Sw, ↓reduceIte, Nat.reduceEqDiff, Nat.reduceLT, List.all_nil, List.all_cons, Nat.reduceBneDiff, Nat.reduceAdd, bne_iff_ne, ne_eq, reduceCtorEq, not_false_eq_true, not_true_eq_false, Bool.and_true, Bool.true_and, and_true, true_and, and_self, i_eq]
      repeat' first | rfl | omega | (simp only [List.length_append, List.length_cons, List.length_nil]; done) | apply And.intro
  · have hend := scan_end (s := s) (i := i) (by omega)
    rw [hend, h] at hsc
    obtain rfl : ts = pre := by simpa using hsc
    repeat first
      | (refine hK _ ?_; clear hK K)
      | ((first | refine vm_reg (fun K hK => ?_) | refine vm_dreg (fun K hK => ?_) | refine vm_dregx (fun K hK => ?_)); simp (disch := (first | omega | assumption)) only [S1, ↓reduceIte, Nat.reduceEqDiff, Nat.reduceAdd, Nat.reduceMul, Nat.reduceDiv, AOp.sb, AOp.mut, frzf, ↓Bool.false_eq_true, beq_self_eq_true, ite_self, Nat.reduceLeDiff, Int.reduceEq, Int.reduceSub, Int.reduceAdd, Int.reduceNeg, Int.reduceLT, Int.reduceLE, Nat.reduceLT, bz_LK0, hlt]; refine hK _ ?_; clear hK K)
      | simp only [Sv, ↓reduceIte, Nat.reduceEqDiff]
    refine he _ _ ?_
    repeat first
      | (refine hK _ ?_; clear hK K)
      | ((first | refine vm_reg (fun K hK => ?_) | refine vm_dreg (fun K hK => ?_) | refine vm_dregx (fun K hK => ?_)); simp (disch := (first | omega | assumption)) only [S1, ↓reduceIte, Nat.reduceEqDiff, Nat.reduceAdd, Nat.reduceMul, Nat.reduceDiv, AOp.sb, AOp.mut, frzf, ↓Bool.false_eq_true, beq_self_eq_true, ite_self, Nat.reduceLeDiff, Int.reduceEq, Int.reduceSub, Int.reduceAdd, Int.reduceNeg, Int.reduceLT, Int.reduceLE, Nat.reduceLT, bz_LK0]; refine hK _ ?_; clear hK K)
      | simp only [Sv, ↓reduceIte, Nat.reduceEqDiff]
    exact ⟨⟨_, _, rfl, rfl, rfl⟩, ⟨rfl, rfl⟩, trivial⟩
theorem scanO_err (s : List UInt8) (h : 1000 < s.length ∨ scan s 0 = none) : AFun Try.prog J0 8 [.s s] (.to 27 3 [] [.i .i64 (scanR s).2]) := by
  refine AFun.mktn fol J0s Try.func8 rfl (ac := a8) (by kernel_rfl) rfl (by decide) rfl (by decide) ?_
  apply vm_start
  unfold a8
  simp only [init_eq, initE]
  by_cases hL : 1000 < (s.length : Int)
  · repeat first
      | (refine hK _ ?_; clear hK K)
      | ((first | refine vm_reg (fun K hK => ?_) | refine vm_dreg (fun K hK => ?_) | refine vm_dregx (fun K hK => ?_)); simp (disch := (first | omega | assumption)) only [S1, ↓reduceIte, Nat.reduceEqDiff, Nat.reduceAdd, Nat.reduceMul, Nat.reduceDiv, AOp.sb, AOp.mut, frzf, ↓Bool.false_eq_true, beq_self_eq_true, ite_self, Nat.reduceLeDiff, Int.reduceEq, Int.reduceSub, Int.reduceAdd, Int.reduceNeg, Int.reduceLT, Int.reduceLE, Nat.reduceLT, bz_LK0, hL]; refine hK _ ?_; clear hK K)
      | simp only [Sv, ↓reduceIte, Nat.reduceEqDiff]
    rw [scanR_long (by omega)]
    exact ⟨trivial, ⟨rfl, rfl⟩, trivial⟩
  · have hL' : ¬ 1000 < s.length := by omega
    have h0 : scan s 0 = none := h.resolve_left hL'
    repeat first
      | (refine hK _ ?_; clear hK K)
      | ((first | refine vm_reg (fun K hK => ?_) | refine vm_dreg (fun K hK => ?_) | refine vm_dregx (fun K hK => ?_)); simp (disch := (first | omega | assumption)) only [S1, ↓reduceIte, Nat.reduceEqDiff, Nat.reduceAdd, Nat.reduceMul, Nat.reduceDiv, AOp.sb, AOp.mut, frzf, ↓Bool.false_eq_true, beq_self_eq_true, ite_self, Nat.reduceLeDiff, Int.reduceEq, Int.reduceSub, Int.reduceAdd, Int.reduceNeg, Int.reduceLT, Int.reduceLE, Nat.reduceLT, bz_LK0, hL]; refine hK _ ?_; clear hK K)
      | simp only [Sv, ↓reduceIte, Nat.reduceEqDiff]
    refine vm_loopA [(4, 27, 3)] (Nat × List Tk) (fun x => ⟨[(0, .s s), (4, .ow 3 0 x.2.length), (5, .i .i64 (x.1 : Int))], [(0, some ⟨27, 3, T x.2, true, false⟩)], 1⟩)
      (fun x => x.1 ≤ s.length ∧ x.2.length ≤ x.1 ∧ scan s 0 = (scan s x.1).map (x.2 ++ ·)) (fun x => s.length - x.1) (0, []) ⟨Nat.zero_le _, Nat.le_refl _, by cases scan s 0 <;> simp⟩ (by simp (disch := (first | omega | assumption)) only [Sl, Sa, Sw, ↓reduceIte, Nat.reduceEqDiff, Nat.reduceLT, List.all_nil, List.all_cons, Nat.reduceBneDiff, Nat.reduceAdd, bne_iff_ne, ne_eq, reduceCtorEq, not_false_eq_true, not_true_eq_false, Bool.and_true, Bool.true_and, and_true, true_and, and_self]) (by
      simp (disch := (first | omega | assumption)) only [Sl, Sa, Sw, ↓reduceIte, Nat.reduceEqDiff, Nat.reduceLT, List.all_nil, List.all_cons, Nat.reduceBneDiff, Nat.reduceAdd, bne_iff_ne, ne_eq, reduceCtorEq, not_false_eq_true, not_true_eq_false, Bool.and_true, Bool.true_and, and_true, true_and, and_self, i_eq]
      repeat' first | rfl | omega | (simp only [List.length_append, List.length_cons, List.length_nil]; done) | apply And.intro) ?_
    rintro ⟨i, pre⟩ ⟨hi, hp, hsc⟩ Q' hQ he hr
    simp only [] at hi hp hsc ⊢
    by_cases hlt : (i : Int) < s.length
    · have hlt' : i < s.length := by omega
      cases hb : isBl (s.getD i 0)
      · have hrl := rowLen_le (s.drop i)
        rw [List.length_drop] at hrl
        generalize hn : rowLen (s.drop i) = n at hrl
        have hkl : ((s.drop i).take n).length ≤ 9223372036854775807 := by rw [List.length_take, List.length_drop]; omega
        have zc5 := isBlank_spec (s.getD i 0)
        have zc6 := length_spec (s.drop i) (by rw [List.length_drop]; omega) (by rw [List.length_drop]; omega)
        repeat first | (refine hK _ ?_; clear hK K) | simp only [Sv, ↓reduceIte, Nat.reduceEqDiff] | ((first | refine vm_reg (fun K hK => ?_) | refine vm_dreg (fun K hK => ?_) | refine vm_dregx (fun K hK => ?_) | refine clp_q ?_ | refine clq_mk (by assumption) ?_ | refine mcq_q ?_ | (apply mcr_mk; assumption) | (apply ocr_mk; assumption)); simp (disch := (first | omega | assumption)) only [S1, ↓reduceIte, Nat.reduceEqDiff, Nat.reduceAdd, Nat.reduceMul, Nat.reduceDiv, AOp.sb, AOp.mut, frzf, ↓Bool.false_eq_true, beq_self_eq_true, ite_self, Nat.reduceLeDiff, Int.reduceEq, Int.reduceSub, Int.reduceAdd, Int.reduceNeg, Int.reduceLT, Int.reduceLE, Nat.reduceLT, bz_LK0, hlt, hb, hn, tn_add, take_drop_range])
        by_cases hk : ((kind ((s.drop i).take n) : Nat) : Int) = 0
        · have hno := scan_err hlt' hb (by rw [hn]; omega)
          have zc7 := kind_spec ((s.drop i).take n) hkl
          repeat first | (refine hK _ ?_; clear hK K) | simp only [Sv, ↓reduceIte, Nat.reduceEqDiff] | ((first | refine vm_reg (fun K hK => ?_) | refine vm_dreg (fun K hK => ?_) | refine vm_dregx (fun K hK => ?_) | refine clp_q ?_ | refine clq_mk (by assumption) ?_ | refine mcq_q ?_ | (apply mcr_mk; assumption) | (apply ocr_mk; assumption)); simp (disch := (first | omega | assumption)) only [S1, ↓reduceIte, Nat.reduceEqDiff, Nat.reduceAdd, Nat.reduceMul, Nat.reduceDiv, AOp.sb, AOp.mut, frzf, ↓Bool.false_eq_true, beq_self_eq_true, ite_self, Nat.reduceLeDiff, Int.reduceEq, Int.reduceSub, Int.reduceAdd, Int.reduceNeg, Int.reduceLT, Int.reduceLE, Nat.reduceLT, bz_LK0, tn_add, take_drop_range, hk])
          refine hr _ ?_
          rw [scanR_none hL' h0]
          exact ⟨rfl, ⟨rfl, rfl⟩, trivial⟩
        · have hto := scan_tok hlt' hb (by rw [hn]; omega)
          have hpos := rowLen_pos (l := s.drop i) (by rw [hn]; omega)
          rw [hn] at hto hpos
          rw [hto, map_app] at hsc
          have zc8 := kind_spec ((s.drop i).take n) hkl
          repeat first | (refine hK _ ?_; clear hK K) | simp only [Sv, ↓reduceIte, Nat.reduceEqDiff] | ((first | refine vm_reg (fun K hK => ?_) | refine vm_dreg (fun K hK => ?_) | refine vm_dregx (fun K hK => ?_) | refine clp_q ?_ | refine clq_mk (by assumption) ?_ | refine mcq_q ?_ | (apply mcr_mk; assumption) | (apply ocr_mk; assumption)); simp (disch := (first | omega | assumption)) only [S1, ↓reduceIte, Nat.reduceEqDiff, Nat.reduceAdd, Nat.reduceMul, Nat.reduceDiv, AOp.sb, AOp.mut, frzf, ↓Bool.false_eq_true, beq_self_eq_true, ite_self, Nat.reduceLeDiff, Int.reduceEq, Int.reduceSub, Int.reduceAdd, Int.reduceNeg, Int.reduceLT, Int.reduceLE, Nat.reduceLT, bz_LK0, tn_add, take_drop_range, hk])
          refine hQ _ (i + n, pre ++ [⟨kind ((s.drop i).take n), (s.drop i).take n, i⟩]) ⟨by simp only; omega, by simp only [List.length_append, List.length_singleton]; omega, hsc⟩ (by simp only; omega) ?_
          simp (disch := (first | omega | assumption)) only [Sl, Sa, Sw, ↓reduceIte, Nat.reduceEqDiff, Nat.reduceLT, List.all_nil, List.all_cons, Nat.reduceBneDiff, Nat.reduceAdd, bne_iff_ne, ne_eq, reduceCtorEq, not_false_eq_true, not_true_eq_false, Bool.and_true, Bool.true_and, and_true, true_and, and_self, i_eq]
          repeat' first | rfl | omega | (simp only [List.length_append, List.length_cons, List.length_nil]; done) | apply And.intro
      · have zc9 := isBlank_spec (s.getD i 0)
        repeat first | (refine hK _ ?_; clear hK K) | simp only [Sv, ↓reduceIte, Nat.reduceEqDiff] | ((first | refine vm_reg (fun K hK => ?_) | refine vm_dreg (fun K hK => ?_) | refine vm_dregx (fun K hK => ?_) | refine clp_q ?_ | refine clq_mk (by assumption) ?_ | refine mcq_q ?_ | (apply mcr_mk; assumption) | (apply ocr_mk; assumption)); simp (disch := (first | omega | assumption)) only [S1, ↓reduceIte, Nat.reduceEqDiff, Nat.reduceAdd, Nat.reduceMul, Nat.reduceDiv, AOp.sb, AOp.mut, frzf, ↓Bool.false_eq_true, beq_self_eq_true, ite_self, Nat.reduceLeDiff, Int.reduceEq, Int.reduceSub, Int.reduceAdd, Int.reduceNeg, Int.reduceLT, Int.reduceLE, Nat.reduceLT, bz_LK0, hlt, hb])
        rw [scan_bl hlt' hb] at hsc
        refine hQ _ (i + 1, pre) ⟨by simp only; omega, by simp only; omega, hsc⟩ (by simp only; omega) ?_
        simp (disch := (first | omega | assumption)) only [Sl, Sa, Sw, ↓reduceIte, Nat.reduceEqDiff, Nat.reduceLT, List.all_nil, List.all_cons, Nat.reduceBneDiff, Nat.reduceAdd, bne_iff_ne, ne_eq, reduceCtorEq, not_false_eq_true, not_true_eq_false, Bool.and_true, Bool.true_and, and_true, true_and, and_self, i_eq]
        repeat' first | rfl | omega | (simp only [List.length_append, List.length_cons, List.length_nil]; done) | apply And.intro
    · have hend := scan_end (s := s) (i := i) (by omega)
      rw [hend, h0] at hsc
      cases hsc
theorem scanO_spec (s : List UInt8) : AFun Try.prog J0 8 [.s s] (.to 27 3 (T (scanR s).1) [.i .i64 (scanR s).2]) := by
  by_cases hL : 1000 < s.length
  · have h := scanO_err s (.inl hL)
    rw [scanR_long hL] at h ⊢; exact h
  · cases hs : scan s 0 with
    | none => have h := scanO_err s (.inr hs); rw [scanR_none hL hs] at h ⊢; exact h
    | some ts => rw [scanR_some hL hs]; exact scanO_ok s ts hL hs
theorem splitO_err (ts : List Tk) (hl : ts.length ≤ 10000000) (hn : (nestG ts 0 0).2 = 5) : AFun Try.prog J0 9 [.l 3 (T ts), .s [43]] (.to 24 1 [] [.i .i64 5]) := by
  refine AFun.mktn fol J0s Try.func9 rfl (ac := a9) (by kernel_rfl) rfl (by decide) rfl (by decide) ?_
  apply vm_start
  unfold a9
  simp only [init_eq, initE]
  have hlen : ([43] : List UInt8).length = 1 := rfl
  have h2 : isSym 43 = true := by decide
  have h3 : (([43] : List UInt8) == [40]) = false := by decide
  have h4 : (([43] : List UInt8) == [41]) = false := by decide
  have zc10 := contains_spec 43
  have zc11 := nest_spec ts (by omega)
  repeat first | (refine hK _ ?_; clear hK K) | simp only [Sv, ↓reduceIte, Nat.reduceEqDiff] | ((first | refine vm_reg (fun K hK => ?_) | refine vm_dreg (fun K hK => ?_) | refine vm_dregx (fun K hK => ?_) | refine clp_q ?_ | refine clq_mk (by assumption) ?_ | refine mcq_q ?_ | (apply mcr_mk; assumption) | (apply ocr_mk; assumption)); simp (disch := (first | omega | assumption)) only [S1, ↓reduceIte, Nat.reduceEqDiff, Nat.reduceAdd, Nat.reduceMul, Nat.reduceDiv, AOp.sb, AOp.mut, frzf, ↓Bool.false_eq_true, beq_self_eq_true, ite_self, Nat.reduceLeDiff, Int.reduceEq, Int.reduceSub, Int.reduceAdd, Int.reduceNeg, Int.reduceLT, Int.reduceLE, Nat.reduceLT, bz_LK0, hlen, h2, h3, h4, hn])
  exact ⟨trivial, ⟨rfl, rfl⟩, trivial⟩
end Go.Proofs.Ytjfbkegdnljfjaa
