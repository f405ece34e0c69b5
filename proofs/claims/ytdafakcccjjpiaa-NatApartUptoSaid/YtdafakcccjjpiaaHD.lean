/-
  The texts AP18, AP19, AP20.
-/
import Derived.Test.YtdafakcccjjpiaaGE
import Derived.Test.YtdafakcccjjpiaaBKA
import Derived.Test.YtdafakcccjjpiaaHA
namespace Go.Proofs.Ytdafakcccjjpiaa
open Go Go.RowKit Ab
set_option linter.unusedSimpArgs false
set_option linter.unusedVariables false
set_option maxHeartbeats 10000000
theorem bz_AP18 : type_of% (And.intro @W_len (And.intro @Nat.div_one (And.intro @Nat.mul_one (And.intro @tn_nat (And.intro @W_nf (And.intro @W_nil (And.intro @wi (And.intro @nf_g (And.intro @Bool.false_and (@W_cell)))))))))) := And.intro @W_len (And.intro @Nat.div_one (And.intro @Nat.mul_one (And.intro @tn_nat (And.intro @W_nf (And.intro @W_nil (And.intro @wi (And.intro @nf_g (And.intro @Bool.false_and (@W_cell)))))))))
theorem _root_.Go.Proofs.Ytdafakcccjjpiaa.Ab.AFun.mktn {P : Program} {J : World → Prop} (hfol : P.follows .mixedOrders = true) (hJs : ∀ w e w', J w → BelE w e w' → J w') {f : FuncId} {fn : Func} {c : Code} {ac : AC} {t0 : Nat} {ts : List Nat} {args : List V} {e sz : Nat} {rs : List V} (hf : P.funcs[f]? = some fn) (hb : fn.body = some c) (hc : cCode P fn.ntmps c = some ac) (hts : resSlots fn.results.toList = some (t0 :: ts)) (hts1 : ts ≠ []) (hn' : Nat.ble args.length fn.ntmps = true)
    (hsz : 0 < sz)
    (hv : avc (AFun P J) (XFun P) ac (fun ex s => match ex with | .normal | .ret => s.get t0 = .nl ∧ retN s ts rs | .exit _ => False) (initS args)) : AFun P J f args (.to e sz [] rs) := by
  have hn : args.length ≤ fn.ntmps := Nat.le_of_ble_eq_true hn'
  refine ⟨hsz, ?_⟩
  intro w H vs hJ hT hH hreps
  refine calls_of_wp hf hb ?_
  have hlen : vs.length = args.length := hreps.1
  have hsize : (vs.toArray ++ Array.replicate (fn.ntmps - vs.toArray.size) undef).size = fn.ntmps := by simp; omega
  have hconc : Conc w ⟨H, fun _ => False, []⟩ w H (fun _ => none) fn.ntmps { tmps := vs.toArray ++ Array.replicate (fn.ntmps - vs.toArray.size) undef, defers := [] } (initS args) := by
    refine ⟨⟨BelE.refl _ _, hT, hH, fun b hb _ => .inl hb, fun id o h => (by cases h), fun i j oi oj vi vj b hij h => (by cases h)⟩, hsize, rfl, fun _ _ h => (by cases h), fun t => ?_, fun _ _ => rfl⟩
    show Rep w H (fun _ => none) _ (lk (initE 0 args) t)
    rw [initE_get]
    simp only [Nat.zero_le, if_true, Nat.sub_zero]
    by_cases ht : t < args.length
    · have htv : t < vs.length := by omega
      have := hreps.2 t vs[t] args[t] (List.getElem?_eq_getElem htv) (List.getElem?_eq_getElem ht)
      simp only [Array.getD_eq_getD_getElem?, List.getD, List.getElem?_eq_getElem ht, Option.getD_some]
      rw [Array.getElem?_append_left (by simpa using htv)]
      simp only [List.getElem?_toArray, List.getElem?_eq_getElem htv, Option.getD_some]
      exact .up this
    · have : args.getD t V.any = .any := by simp [List.getD, List.getElem?_eq_none (Nat.le_of_not_lt ht)]
      rw [this]; exact .any _
  have last : ∀ (s' : St) (H' : Nat → Prop) (ov' : Nat → Option Value) (a' : Act) (w' : World), (s'.get t0 = .nl ∧ retN s' ts rs) → Conc w ⟨H, fun _ => False, []⟩ w' H' ov' fn.ntmps a' s' →
      a'.defers = [] ∧ ∃ r, (results fn a'.tmps).run P w' = .ok r w' ∧ ∃ (u : Value) (us : List Value) (n : Nat) (xs : List Value) (N : Nat → Prop), Ending.returned r = .returned (.tuple (u :: us).toArray) ∧ Below w.heap.size w w' ∧ w'.ownsRow w.heap.size e sz u n xs ∧ (∀ b, N b → w.heap.size ≤ b ∧ b < w'.heap.size) ∧ (∀ b, blk u = some b → ¬ N b) ∧
        RepAll w' (fun b => H b ∨ N b) xs [] ∧ (∀ x, x ∈ ([] : List V) → x.cell = true) ∧ n ≤ maxLen ∧ RepAll w' (fun b => H b ∨ N b) us rs := by
    rintro s' H' ov' a' w' ⟨h1, h3⟩ hc'
    have hr := hc'.env t0
    rw [h1] at hr
    have e1 := hr.inv_nl
    obtain ⟨hl, up, hup, hkey, hreps⟩ := retN_repK hc' ts rs h3
    obtain ⟨H1, hext, hm1, hfr, hfr5⟩ := hc'.mem.freeze hup
    have hin : ∀ b, H1 b → H b ∨ (H1 b ∧ w.heap.size ≤ b) := fun b hb => by
      rcases Nat.lt_or_ge b w.heap.size with h | h
      · exact .inl ((hm1.low b hb h).resolve_right (fun h => h))
      · exact .inr ⟨hb, h⟩
    refine ⟨hc'.dfr, _, resSlots_run hts _ _, a'.tmps.getD t0 undef, ts.map fun t => a'.tmps.getD t undef, 0, [], fun b => H1 b ∧ w.heap.size ≤ b, ?_, hc'.mem.bel.below (fun _ h => h), by rw [e1]; exact World.ownsRow_nil _ _ _ _, fun b hb => ⟨hb.2, hm1.Hlt b hb.1⟩, fun b hb hN => (by rw [e1] at hb; cases hb), ⟨rfl, fun j v x h => by simp at h⟩, fun x h => by simp at h, Nat.zero_le _, ⟨by simpa using hl, fun j v x h5 h6 => ?_⟩⟩
    · match ts, hts1 with
      | t1 :: ts', _ => rfl
    · simp only [List.getElem?_map, Option.map_eq_some_iff] at h5
      obtain ⟨q, hq, rfl⟩ := h5
      exact (hreps H1 hext.hH hfr j q x hq h6).mono hin (fun _ _ => rfl)
  refine wp_mono (avc_sound (J := J) (H0 := ⟨H, fun _ => False, []⟩) hfol (fun w' hb => hJs w _ w' hJ hb) c ac hc (fun _ _ h => by cases h) _ _ _ w H (fun _ => none) hconc hv) fun ex a' w' hq => ?_
  cases ex with
  | normal => obtain ⟨s', H', ov', hr, hc'⟩ := hq; exact last s' H' ov' a' w' hr hc'
  | ret => obtain ⟨s', H', ov', hr, hc'⟩ := hq; exact last s' H' ov' a' w' hr hc'
  | exit i => obtain ⟨s', H', ov', hr, _⟩ := hq; exact hr.elim
  | goto l => exact hq.elim
  | panic ch => exact hq.elim
  | outgrown => exact hq.elim
theorem subO (a b : List Nat) (ha : Wd a) (hb : Wd b) (la : a.length ≤ 1099511627776) (lb : b.length ≤ 1099511627776) :
    AFun Try.prog J0 8 [.l 1 (W a), .l 1 (W b)] (.to 45 1 (W (if nv B a < nv B b then [] else dg B (nv B a - nv B b))) [.i .i64 ((if nv B a < nv B b then 2 else 0 : Nat) : Int)]) := by
  by_cases h : nv B a < nv B b
  · simp only [h, ↓reduceIte, W_nil]
    refine AFun.mktn fol J0s Try.func8 rfl (ac := a8) (by kernel_rfl) rfl (by decide) rfl (by decide) ?_
    apply vm_start
    unfold a8
    simp only [init_eq, initE, qm, qr, qn]
    refine spQ @bz_AP18 ?_
    try simp only [Sv, ↓reduceIte, Nat.reduceEqDiff]
    refine vm_reg (fun K hK => ?_)
    refine smQ @bz_AP18 ?_
    refine clp_mk _ _ ?_ ?_ ?_ (limbSub_spec a b ha hb la lb) ?_
    · simp (disch := (first | omega | assumption)) only [S1, ↓reduceIte, Nat.reduceEqDiff, Nat.reduceAdd, Nat.reduceMul, Nat.reduceDiv, AOp.sb, AOp.mut, frzf, ↓Bool.false_eq_true, beq_self_eq_true, ite_self, Nat.reduceLeDiff, Int.reduceEq, Int.reduceSub, Int.reduceAdd, Int.reduceNeg, Int.reduceLT, Int.reduceLE, Nat.reduceLT, bz_AP18]
    · simp (disch := (first | omega | assumption)) only [S1, ↓reduceIte, Nat.reduceEqDiff, Nat.reduceAdd, Nat.reduceMul, Nat.reduceDiv, AOp.sb, AOp.mut, frzf, ↓Bool.false_eq_true, beq_self_eq_true, ite_self, Nat.reduceLeDiff, Int.reduceEq, Int.reduceSub, Int.reduceAdd, Int.reduceNeg, Int.reduceLT, Int.reduceLE, Nat.reduceLT, bz_AP18]
    · first | rfl | (simp (disch := (first | omega | assumption)) only [S1, ↓reduceIte, Nat.reduceEqDiff, Nat.reduceAdd, Nat.reduceMul, Nat.reduceDiv, AOp.sb, AOp.mut, frzf, ↓Bool.false_eq_true, beq_self_eq_true, ite_self, Nat.reduceLeDiff, Int.reduceEq, Int.reduceSub, Int.reduceAdd, Int.reduceNeg, Int.reduceLT, Int.reduceLE, Nat.reduceLT, bz_AP18])
    refine smQ @bz_AP18 ?_
    refine hK _ ?_
    clear hK K
    simp only [h, ↓reduceIte]
    try (refine hK _ ?_; clear hK K)
    refine spQ @bz_AP18 ?_
    exact ⟨trivial, ⟨rfl, rfl⟩, trivial⟩
  · have hw : (fl B (max a.length b.length) (nv B a + B ^ max a.length b.length - nv B b)).length ≤ 1099511627776 := by rw [fl_len]; omega
    have e : tz (fl B (max a.length b.length) (nv B a + B ^ max a.length b.length - nv B b)) = dg B (nv B a - nv B b) := by
      have h1 := nv_lt ha
      have h2 : B ^ a.length ≤ B ^ max a.length b.length := Nat.pow_le_pow_right B0 (by omega)
      rw [← dg_fl B2 (n := max a.length b.length) (by omega : nv B a - nv B b < _)]
      congr 1
      exact fl_congr B0 (by rw [show nv B a + B ^ max a.length b.length - nv B b = (nv B a - nv B b) + B ^ max a.length b.length from by omega, Nat.add_mod_right])
    have hown := own_spec _ hw
    rw [e] at hown
    simp only [h, ↓reduceIte]
    refine AFun.mkt fol J0s Try.func8 rfl (ac := a8) (by kernel_rfl) rfl (by decide) rfl (by decide) ?_
    apply vm_start
    unfold a8
    simp only [init_eq, initE, qm, qr, qn]
    try (refine hK _ ?_; clear hK K)
    refine spQ @bz_AP18 ?_
    try simp only [Sv, ↓reduceIte, Nat.reduceEqDiff]
    refine vm_reg (fun K hK => ?_)
    refine smQ @bz_AP18 ?_
    refine clp_mk _ _ ?_ ?_ ?_ (limbSub_spec a b ha hb la lb) ?_
    · simp (disch := (first | omega | assumption)) only [S1, ↓reduceIte, Nat.reduceEqDiff, Nat.reduceAdd, Nat.reduceMul, Nat.reduceDiv, AOp.sb, AOp.mut, frzf, ↓Bool.false_eq_true, beq_self_eq_true, ite_self, Nat.reduceLeDiff, Int.reduceEq, Int.reduceSub, Int.reduceAdd, Int.reduceNeg, Int.reduceLT, Int.reduceLE, Nat.reduceLT, bz_AP18]
    · simp (disch := (first | omega | assumption)) only [S1, ↓reduceIte, Nat.reduceEqDiff, Nat.reduceAdd, Nat.reduceMul, Nat.reduceDiv, AOp.sb, AOp.mut, frzf, ↓Bool.false_eq_true, beq_self_eq_true, ite_self, Nat.reduceLeDiff, Int.reduceEq, Int.reduceSub, Int.reduceAdd, Int.reduceNeg, Int.reduceLT, Int.reduceLE, Nat.reduceLT, bz_AP18]
    · first | rfl | (simp (disch := (first | omega | assumption)) only [S1, ↓reduceIte, Nat.reduceEqDiff, Nat.reduceAdd, Nat.reduceMul, Nat.reduceDiv, AOp.sb, AOp.mut, frzf, ↓Bool.false_eq_true, beq_self_eq_true, ite_self, Nat.reduceLeDiff, Int.reduceEq, Int.reduceSub, Int.reduceAdd, Int.reduceNeg, Int.reduceLT, Int.reduceLE, Nat.reduceLT, bz_AP18])
    refine smQ @bz_AP18 ?_
    refine hK _ ?_
    clear hK K
    simp only [h, ↓reduceIte]
    try (refine hK _ ?_; clear hK K)
    refine spQ @bz_AP18 ?_
    try simp only [Sv, ↓reduceIte, Nat.reduceEqDiff]
    refine vm_reg (fun K hK => ?_)
    refine smQ @bz_AP18 ?_
    refine clp_mk _ _ ?_ ?_ ?_ (hown) ?_
    · simp (disch := (first | omega | assumption)) only [S1, ↓reduceIte, Nat.reduceEqDiff, Nat.reduceAdd, Nat.reduceMul, Nat.reduceDiv, AOp.sb, AOp.mut, frzf, ↓Bool.false_eq_true, beq_self_eq_true, ite_self, Nat.reduceLeDiff, Int.reduceEq, Int.reduceSub, Int.reduceAdd, Int.reduceNeg, Int.reduceLT, Int.reduceLE, Nat.reduceLT, bz_AP18]
    · simp (disch := (first | omega | assumption)) only [S1, ↓reduceIte, Nat.reduceEqDiff, Nat.reduceAdd, Nat.reduceMul, Nat.reduceDiv, AOp.sb, AOp.mut, frzf, ↓Bool.false_eq_true, beq_self_eq_true, ite_self, Nat.reduceLeDiff, Int.reduceEq, Int.reduceSub, Int.reduceAdd, Int.reduceNeg, Int.reduceLT, Int.reduceLE, Nat.reduceLT, bz_AP18]
    · first | rfl | (simp (disch := (first | omega | assumption)) only [S1, ↓reduceIte, Nat.reduceEqDiff, Nat.reduceAdd, Nat.reduceMul, Nat.reduceDiv, AOp.sb, AOp.mut, frzf, ↓Bool.false_eq_true, beq_self_eq_true, ite_self, Nat.reduceLeDiff, Int.reduceEq, Int.reduceSub, Int.reduceAdd, Int.reduceNeg, Int.reduceLT, Int.reduceLE, Nat.reduceLT, bz_AP18])
    refine smQ @bz_AP18 ?_
    refine hK _ ?_
    clear hK K
    try (refine hK _ ?_; clear hK K)
    refine spQ @bz_AP18 ?_
    exact ⟨⟨_, _, rfl, rfl, rfl⟩, ⟨rfl, rfl⟩, trivial⟩
theorem diffO (a b : List Nat) (ha : Wd a) (hb : Wd b) (la : a.length ≤ 1099511627776) (lb : b.length ≤ 1099511627776) :
    AFun Try.prog J0 7 [.l 1 (W a), .l 1 (W b)] (.to 45 1 (W (if nv B a < nv B b then dg B (nv B b - nv B a) else dg B (nv B a - nv B b))) [.b (decide (nv B a < nv B b))]) := by
  by_cases h : nv B a < nv B b
  · simp only [h, ↓reduceIte, decide_true]
    refine AFun.mkt fol J0s Try.func7 rfl (ac := a7) (by kernel_rfl) rfl (by decide) rfl (by decide) ?_
    apply vm_start
    unfold a7
    simp only [init_eq, initE, qm, qr, qn]
    refine spQ @bz_AP18 ?_
    try simp only [Sv, ↓reduceIte, Nat.reduceEqDiff]
    refine vm_reg (fun K hK => ?_)
    refine smQ @bz_AP18 ?_
    refine clp_mk _ _ ?_ ?_ ?_ (subO a b ha hb la lb) ?_
    · simp (disch := (first | omega | assumption)) only [S1, ↓reduceIte, Nat.reduceEqDiff, Nat.reduceAdd, Nat.reduceMul, Nat.reduceDiv, AOp.sb, AOp.mut, frzf, ↓Bool.false_eq_true, beq_self_eq_true, ite_self, Nat.reduceLeDiff, Int.reduceEq, Int.reduceSub, Int.reduceAdd, Int.reduceNeg, Int.reduceLT, Int.reduceLE, Nat.reduceLT, bz_AP18]
    · simp (disch := (first | omega | assumption)) only [S1, ↓reduceIte, Nat.reduceEqDiff, Nat.reduceAdd, Nat.reduceMul, Nat.reduceDiv, AOp.sb, AOp.mut, frzf, ↓Bool.false_eq_true, beq_self_eq_true, ite_self, Nat.reduceLeDiff, Int.reduceEq, Int.reduceSub, Int.reduceAdd, Int.reduceNeg, Int.reduceLT, Int.reduceLE, Nat.reduceLT, bz_AP18]
    · first | rfl | (simp (disch := (first | omega | assumption)) only [S1, ↓reduceIte, Nat.reduceEqDiff, Nat.reduceAdd, Nat.reduceMul, Nat.reduceDiv, AOp.sb, AOp.mut, frzf, ↓Bool.false_eq_true, beq_self_eq_true, ite_self, Nat.reduceLeDiff, Int.reduceEq, Int.reduceSub, Int.reduceAdd, Int.reduceNeg, Int.reduceLT, Int.reduceLE, Nat.reduceLT, bz_AP18])
    simp only [h, ↓reduceIte, W_nil]
    refine smQ @bz_AP18 ?_
    refine hK _ ?_
    clear hK K
    try (refine hK _ ?_; clear hK K)
    refine spQ @bz_AP18 ?_
    try simp only [Sv, ↓reduceIte, Nat.reduceEqDiff]
    refine vm_reg (fun K hK => ?_)
    refine smQ @bz_AP18 ?_
    refine clp_mk _ _ ?_ ?_ ?_ (subO b a hb ha lb la) ?_
    · simp (disch := (first | omega | assumption)) only [S1, ↓reduceIte, Nat.reduceEqDiff, Nat.reduceAdd, Nat.reduceMul, Nat.reduceDiv, AOp.sb, AOp.mut, frzf, ↓Bool.false_eq_true, beq_self_eq_true, ite_self, Nat.reduceLeDiff, Int.reduceEq, Int.reduceSub, Int.reduceAdd, Int.reduceNeg, Int.reduceLT, Int.reduceLE, Nat.reduceLT, bz_AP18]
    · simp (disch := (first | omega | assumption)) only [S1, ↓reduceIte, Nat.reduceEqDiff, Nat.reduceAdd, Nat.reduceMul, Nat.reduceDiv, AOp.sb, AOp.mut, frzf, ↓Bool.false_eq_true, beq_self_eq_true, ite_self, Nat.reduceLeDiff, Int.reduceEq, Int.reduceSub, Int.reduceAdd, Int.reduceNeg, Int.reduceLT, Int.reduceLE, Nat.reduceLT, bz_AP18]
    · first | rfl | (simp (disch := (first | omega | assumption)) only [S1, ↓reduceIte, Nat.reduceEqDiff, Nat.reduceAdd, Nat.reduceMul, Nat.reduceDiv, AOp.sb, AOp.mut, frzf, ↓Bool.false_eq_true, beq_self_eq_true, ite_self, Nat.reduceLeDiff, Int.reduceEq, Int.reduceSub, Int.reduceAdd, Int.reduceNeg, Int.reduceLT, Int.reduceLE, Nat.reduceLT, bz_AP18])
    simp only [show ¬ nv B b < nv B a from by omega, ↓reduceIte]
    refine smQ @bz_AP18 ?_
    refine hK _ ?_
    clear hK K
    try (refine hK _ ?_; clear hK K)
    refine spQ @bz_AP18 ?_
    exact ⟨⟨_, _, rfl, rfl, rfl⟩, ⟨rfl, rfl⟩, trivial⟩
  · simp only [h, ↓reduceIte, decide_false]
    refine AFun.mkt fol J0s Try.func7 rfl (ac := a7) (by kernel_rfl) rfl (by decide) rfl (by decide) ?_
    apply vm_start
    unfold a7
    simp only [init_eq, initE, qm, qr, qn]
    try (refine hK _ ?_; clear hK K)
    refine spQ @bz_AP18 ?_
    try simp only [Sv, ↓reduceIte, Nat.reduceEqDiff]
    refine vm_reg (fun K hK => ?_)
    refine smQ @bz_AP18 ?_
    refine clp_mk _ _ ?_ ?_ ?_ (subO a b ha hb la lb) ?_
    · simp (disch := (first | omega | assumption)) only [S1, ↓reduceIte, Nat.reduceEqDiff, Nat.reduceAdd, Nat.reduceMul, Nat.reduceDiv, AOp.sb, AOp.mut, frzf, ↓Bool.false_eq_true, beq_self_eq_true, ite_self, Nat.reduceLeDiff, Int.reduceEq, Int.reduceSub, Int.reduceAdd, Int.reduceNeg, Int.reduceLT, Int.reduceLE, Nat.reduceLT, bz_AP18]
    · simp (disch := (first | omega | assumption)) only [S1, ↓reduceIte, Nat.reduceEqDiff, Nat.reduceAdd, Nat.reduceMul, Nat.reduceDiv, AOp.sb, AOp.mut, frzf, ↓Bool.false_eq_true, beq_self_eq_true, ite_self, Nat.reduceLeDiff, Int.reduceEq, Int.reduceSub, Int.reduceAdd, Int.reduceNeg, Int.reduceLT, Int.reduceLE, Nat.reduceLT, bz_AP18]
    · first | rfl | (simp (disch := (first | omega | assumption)) only [S1, ↓reduceIte, Nat.reduceEqDiff, Nat.reduceAdd, Nat.reduceMul, Nat.reduceDiv, AOp.sb, AOp.mut, frzf, ↓Bool.false_eq_true, beq_self_eq_true, ite_self, Nat.reduceLeDiff, Int.reduceEq, Int.reduceSub, Int.reduceAdd, Int.reduceNeg, Int.reduceLT, Int.reduceLE, Nat.reduceLT, bz_AP18])
    simp only [h, ↓reduceIte]
    refine smQ @bz_AP18 ?_
    refine hK _ ?_
    clear hK K
    try (refine hK _ ?_; clear hK K)
    refine spQ @bz_AP18 ?_
    exact ⟨⟨_, _, rfl, rfl, rfl⟩, ⟨rfl, rfl⟩, trivial⟩
theorem shlO (a : List Nat) (n : Int) (ha : Wd a) (la : a.length ≤ 100000000000) : AFun Try.prog J0 11 [.l 1 (W a), .i .i64 n] (.to 45 1 (W (shlR (nv B a) n).1) [.i .i64 (shlR (nv B a) n).2]) := by
  by_cases h1 : n < 0 ∨ 1048576 < n
  · rw [show shlR (nv B a) n = ([], 3) from if_pos h1]
    simp only [W_nil]
    refine AFun.mktn fol J0s Try.func11 rfl (ac := a11) (by kernel_rfl) rfl (by decide) rfl (by decide) ?_
    apply vm_start
    unfold a11
    simp only [init_eq, initE, qm, qr, qn]
    by_cases h2 : n < 0
    · refine spQ (ai @h2 @bz_AP18) ?_
      exact ⟨trivial, ⟨rfl, rfl⟩, trivial⟩
    · have h3 : 1048576 < n := h1.resolve_left h2
      refine spQ (ai @h3 (ai @h2 @bz_AP18)) ?_
      exact ⟨trivial, ⟨rfl, rfl⟩, trivial⟩
  · have h2 : ¬ n < 0 := fun h => h1 (.inl h)
    have h3 : ¬ 1048576 < n := fun h => h1 (.inr h)
    rw [show shlR (nv B a) n = (dg B (nv B a * 2 ^ n.toNat), 0) from if_neg (by omega)]
    obtain ⟨k, rfl⟩ : ∃ k : Nat, n = (k : Int) := ⟨n.toNat, by omega⟩
    have lt := tz_len a
    have lo := shlOut_len (tz a) k
    have e : nv B (shlOut (tz a) k) = nv B a * 2 ^ k := by rw [shlOut_nv (Lt_tz ha), nv_tz]
    refine AFun.mkt fol J0s Try.func11 rfl (ac := a11) (by kernel_rfl) rfl (by decide) rfl (by decide) ?_
    apply vm_start
    unfold a11
    simp only [init_eq, initE, qm, qr, qn]
    have zc1 := trim_spec a (by omega)
    have zc2 := limbShl_spec (tz a) k (Lt_tz ha) (by omega) (by omega)
    have zc3 := own_dg (shlOut (tz a) k) (shlOut_Wd (Lt_tz ha) k) (by omega)
    refine wkQ (ai @e (ai @h3 (ai @h2 @bz_AP18))) ?_
    exact ⟨⟨_, _, rfl, rfl, rfl⟩, ⟨rfl, rfl⟩, trivial⟩
theorem shrO (a : List Nat) (n : Int) (ha : Wd a) (la : a.length ≤ 100000000000) (hn : n < 9223372036854775808) : AFun Try.prog J0 10 [.l 1 (W a), .i .i64 n] (.to 45 1 (W (shrR (nv B a) n).1) [.i .i64 (shrR (nv B a) n).2]) := by
  by_cases h1 : n < 0
  · rw [show shrR (nv B a) n = ([], 3) from if_pos h1]
    simp only [W_nil]
    refine AFun.mktn fol J0s Try.func10 rfl (ac := a10) (by kernel_rfl) rfl (by decide) rfl (by decide) ?_
    apply vm_start
    unfold a10
    simp only [init_eq, initE, qm, qr, qn]
    refine spQ (ai @h1 @bz_AP18) ?_
    exact ⟨trivial, ⟨rfl, rfl⟩, trivial⟩
  · rw [show shrR (nv B a) n = (dg B (nv B a / 2 ^ n.toNat), 0) from if_neg h1]
    obtain ⟨k, rfl⟩ : ∃ k : Nat, n = (k : Int) := ⟨n.toNat, by omega⟩
    have e : nv B (fl B (a.length - k / 64) (nv B a / 2 ^ k)) = nv B a / 2 ^ k := by
      rw [nv_fl, Nat.mod_eq_of_lt]
      rw [pow_split, ← Nat.div_div_eq_div_mul]
      refine Nat.lt_of_le_of_lt (Nat.div_le_self _ _) ?_
      rcases Nat.lt_or_ge a.length (k / 64) with h | h
      · rw [Nat.div_eq_of_lt (Nat.lt_of_lt_of_le (nv_lt ha) (Nat.pow_le_pow_right B0 (by omega)))]
        exact Nat.pow_pos B0
      · rw [Nat.div_lt_iff_lt_mul (Nat.pow_pos B0), ← Nat.pow_add, show a.length - k / 64 + k / 64 = a.length from by omega]
        exact nv_lt ha
    refine AFun.mkt fol J0s Try.func10 rfl (ac := a10) (by kernel_rfl) rfl (by decide) rfl (by decide) ?_
    apply vm_start
    unfold a10
    simp only [init_eq, initE, qm, qr, qn]
    have zc4 := limbShr_spec a k ha (by omega) (by omega)
    have zc5 := own_dg (fl B (a.length - k / 64) (nv B a / 2 ^ k)) (fl_Lt B0 _ _) (by rw [fl_len]; omega)
    refine wkQ (ai @e (ai @h1 @bz_AP18)) ?_
    exact ⟨⟨_, _, rfl, rfl, rfl⟩, ⟨rfl, rfl⟩, trivial⟩
end Go.Proofs.Ytdafakcccjjpiaa
namespace Go.Proofs.Ytdafakcccjjpiaa
open Go Go.RowKit Go.Proofs Ab
set_option linter.unusedSimpArgs false
set_option linter.unusedVariables false
set_option maxHeartbeats 10000000
set_option maxHeartbeats 4000000
set_option maxRecDepth 2000000
end Go.Proofs.Ytdafakcccjjpiaa
namespace Go.Proofs.Ytdafakcccjjpiaa
open Go Go.RowKit Ab
set_option linter.unusedSimpArgs false
set_option linter.unusedVariables false
set_option maxHeartbeats 10000000
theorem bz_AP20 : type_of% (And.intro @W_len (And.intro @D_len (And.intro @Bl_len (And.intro @Nat.div_one (And.intro @Nat.mul_one (And.intro @tn_nat (And.intro @W_nf (And.intro @D_nf (And.intro @Bl_nf (And.intro @W_nil (And.intro @D_nil (And.intro @Bl_nil (And.intro @tmod_64 (And.intro @tdiv_64 (And.intro @wi (And.intro @wu (And.intro @nv_dgB (And.intro @wi (And.intro @nf_g (And.intro @Bool.false_and (@W_cell))))))))))))))))))))) := And.intro @W_len (And.intro @D_len (And.intro @Bl_len (And.intro @Nat.div_one (And.intro @Nat.mul_one (And.intro @tn_nat (And.intro @W_nf (And.intro @D_nf (And.intro @Bl_nf (And.intro @W_nil (And.intro @D_nil (And.intro @Bl_nil (And.intro @tmod_64 (And.intro @tdiv_64 (And.intro @wi (And.intro @wu (And.intro @nv_dgB (And.intro @wi (And.intro @nf_g (And.intro @Bool.false_and (@W_cell))))))))))))))))))))
def cutK (A1 A2 : List Nat) (f : Int) (s : St) : Prop :=
  s.get 6 = .i .i64 f ∧ ((∃ i j n m, i ≠ j ∧ s.get 4 = .ow 1 i n ∧ s.get 5 = .ow 1 j m ∧ s.ob i = some ⟨45, 1, W A1, true, false⟩ ∧ s.ob j = some ⟨45, 1, W A2, true, false⟩) ∨ (A1 = [] ∧ A2 = [] ∧ s.get 4 = .nl ∧ s.get 5 = .nl))
theorem cut_walk (a : List Nat) (n : Int) (ha : Wd a) (la : a.length ≤ 100000000000) (hn : n < 9223372036854775808) :
    avc (AFun Try.prog J0) (XFun Try.prog) a9 (fun ex s => (ex = .normal ∨ ex = .ret) ∧ cutK (shrR (nv B a) n).1 (lowR (nv B a) n) (shrR (nv B a) n).2 s) ⟨[(0, .l 1 (W a)), (1, .i .i64 n)], [], 0⟩ := by
  apply vm_start
  unfold a9
  simp only [init_eq, initE, qm, qr, qn]
  by_cases h1 : n < 0
  · have e : shrR (nv B a) n = ([], 3) := if_pos h1
    have e2 : lowR (nv B a) n = [] := if_pos h1
    rw [e, e2]
    have zc1 := shrO a n ha la hn
    refine wkQ (ai @e @bz_AP20) ?_
    exact ⟨.inr trivial, rfl, .inr ⟨rfl, rfl, rfl, rfl⟩⟩
  · have e : shrR (nv B a) n = (dg B (nv B a / 2 ^ n.toNat), 0) := if_neg h1
    have e2 : lowR (nv B a) n = dg B (nv B a % 2 ^ n.toNat) := if_neg h1
    rw [e, e2]
    obtain ⟨k, rfl⟩ : ∃ k : Nat, n = (k : Int) := ⟨n.toNat, by omega⟩
    rw [show ((k : Nat) : Int).toNat = k from rfl] at e ⊢
    by_cases h2 : (a.length : Int) ≤ ((k / 64 : Nat) : Int)
    · have e3 : nv B a % 2 ^ k = nv B a := by
        refine Nat.mod_eq_of_lt ?_
        rw [pow_split]
        exact Nat.lt_of_lt_of_le (Nat.lt_of_lt_of_le (nv_lt ha) (Nat.pow_le_pow_right B0 (by omega : a.length ≤ k / 64))) (Nat.le_mul_of_pos_right _ (Nat.pow_pos (by decide)))
      rw [e3]
      have zc2 := shrO a k ha la hn
      have zc3 := own_dg a ha (by omega)
      refine wkQ (ai @h2 (ai @e @bz_AP20)) ?_
      exact ⟨.inr trivial, rfl, .inl ⟨_, _, _, _, by decide, rfl, rfl, rfl, rfl⟩⟩
    · have hr64 : k % 64 < 64 := Nat.mod_lt _ (by decide)
      have e3 : nv B a % 2 ^ k = nv B ((a.take (k / 64 + 1)).set (k / 64) (a.getD (k / 64) 0 % 2 ^ (k % 64))) := by
        rw [pow_split, Nat.mod_mul, ← nv_mod B0 ha]
        have hx := nv_digit (b := B) B0 ha (k / 64)
        have hm : nv B a / B ^ (k / 64) % 2 ^ (k % 64) = a.getD (k / 64) 0 % 2 ^ (k % 64) := by
          rw [hx, show B = 2 ^ (k % 64) * 2 ^ (64 - k % 64) from by rw [← Nat.pow_add, show k % 64 + (64 - k % 64) = 64 from by omega]; rfl, Nat.mod_mul_right_mod]
        have hl : (a.take (k / 64)).length = k / 64 := by rw [List.length_take]; omega
        rw [hm, List.take_succ_eq_append_getElem (by omega), List.set_append_right _ _ (by omega), hl, Nat.sub_self, List.set_cons_zero, nv_app, hl, nv_one]
      have hset : Wd ((a.take (k / 64 + 1)).set (k / 64) (a.getD (k / 64) 0 % 2 ^ (k % 64))) := Lt_set (Lt_take ha _) _ _ (Nat.lt_of_le_of_lt (Nat.mod_le _ _) (Wd_get ha _))
      rw [e3]
      have hx := Wd_get ha (k / 64)
      have hp : 2 ^ (k % 64) < 18446744073709551616 := by
        have : (2 : Nat) ^ (k % 64) < 2 ^ 64 := Nat.pow_lt_pow_right (by decide) hr64
        exact this
      have hand := band64 (a.getD (k / 64) 0) (2 ^ (k % 64) - 1) hx (by omega)
      rw [Nat.and_two_pow_sub_one_eq_mod] at hand
      have hg : (a.take (k / 64 + 1)).getD (k / 64) 0 = a.getD (k / 64) 0 := by
        rw [List.getD_eq_getElem?_getD, List.getElem?_take_of_lt (by omega), ← List.getD_eq_getElem?_getD]
      have hls : (a.take (k / 64 + 1)).length = k / 64 + 1 := by rw [List.length_take]; omega
      have hsh := shl1 (k % 64) hr64
      have hpr := pred2 (k % 64)
      generalize hr : k % 64 = r at *
      generalize hw : k / 64 = w at *
      have zc4 := shrO a k ha la hn
      have zc5 := cloneN_spec (a.take (w + 1)) (by omega)
      have zc6 := own_dg ((a.take (w + 1)).set w (a.getD w 0 % 2 ^ r)) hset (by rw [List.length_set]; omega)
      refine wkQ (ai @W_set (ai @hand (ai @hpr (ai @hsh (ai @hg (ai @hls (ai @W_get (ai @hr (ai @tn_add1 (ai @W_take (ai @h2 (ai @hw (ai @e @bz_AP20))))))))))))) ?_
      exact ⟨.inr trivial, rfl, .inl ⟨_, _, _, _, by decide, rfl, rfl, rfl, rfl⟩⟩
def CutR (w : World) (A1 A2 : List Nat) (f : Int) (e : Ending) (w' : World) : Prop :=
  ∃ (v1 v2 : Value) (n1 n2 : Nat), e = .returned (.tuple #[v1, v2, .int .i64 f]) ∧ Below w.heap.size w w' ∧ w'.ownsRow w.heap.size 45 1 v1 n1 (Wv A1) ∧ w'.ownsRow w.heap.size 45 1 v2 n2 (Wv A2) ∧ ∀ q, v1.ownBlock = some q → v2.ownBlock ≠ some q
theorem cut_raw {w : World} {va : Value} {a : List Nat} {n : Int} {Ha : Nat → Prop} (hHlt : ∀ q, Ha q → q < w.heap.size) (hva : Rep0 w Ha va (.l 1 (W a))) (ha : Wd a) (la : a.length ≤ 100000000000) (hn : n < 9223372036854775808) :
    Calls Try.prog 9 #[va, .int .i64 n] w (CutR w (shrR (nv B a) n).1 (lowR (nv B a) n) (shrR (nv B a) n).2) := by
  refine run_pc Try.func9 rfl (vs := [va, .int .i64 n]) (by show 2 ≤ _; decide) (H := Ha) (E := fun _ => False) (ks := []) (ov0 := fun _ => none)
    (s0 := ⟨[(0, .l 1 (W a)), (1, .i .i64 n)], [], 0⟩) ⟨BelE.refl _ _, tj0 _ _, hHlt, fun b h _ => .inl h, fun id o h => (by cases h), fun i j oi oj vi vj q _ h => (by cases h)⟩ (fun m v h => by cases h) (fun k hk => ?env) (fun k hk => ?rest) (fun _ _ => rfl) (fun act hconc => ?_)
  case env =>
    match k, hk with
    | 0, _ => exact .base hva
    | 1, _ => exact .i _ _
  case rest =>
    match k, hk with
    | k + 2, _ => rfl
  refine wp_mono (avc_sound (J := J0) (w0 := w) (N := Try.f9.ntmps) fol (fun w' _ => trivial) _ a9 (by kernel_rfl) (fun m v h => by cases h) _ _ act w _ _ hconc (cut_walk a n ha la hn)) fun ex a' w' hq => ?_
  have last : ∀ (s' : St) (H' : Nat → Prop) (ov' : Nat → Option Value), cutK (shrR (nv B a) n).1 (lowR (nv B a) n) (shrR (nv B a) n).2 s' → Conc w ⟨Ha, fun _ => False, []⟩ w' H' ov' Try.f9.ntmps a' s' →
      a'.defers = [] ∧ ∃ r, (results Try.f9 a'.tmps).run Try.prog w' = .ok r w' ∧ CutR w (shrR (nv B a) n).1 (lowR (nv B a) n) (shrR (nv B a) n).2 (.returned r) w' := by
    rintro s' H' ov' ⟨h6, hK⟩ hc'
    have hB : Below w.heap.size w w' := hc'.mem.bel.below (fun _ h => h)
    have e6 := hc'.env 6
    rw [h6] at e6
    have e6' : a'.tmps.getD 6 undef = .int .i64 (shrR (nv B a) n).2 := e6.inv_i
    refine ⟨hc'.dfr, _, resSlots_run (show resSlots Try.f9.results.toList = some [4, 5, 6] from rfl) _ _, ?_⟩
    rcases hK with ⟨i, j, m1, m2, hij, g4, g5, o4, o5⟩ | ⟨hA1, hA2, g4, g5⟩
    · obtain ⟨x1, O1, R1, V1, B1⟩ := conc_row hc' g4 o4
      obtain ⟨x2, O2, R2, V2, B2⟩ := conc_row hc' g5 o5
      have hx1 := Wv_of R1
      have hx2 := Wv_of R2
      subst hx1
      subst hx2
      refine ⟨_, _, m1, m2, ?_, hB, ownB O1 (fun q hq => (B1 q (blk_ob O1 ▸ hq)).2.elim id False.elim), ownB O2 (fun q hq => (B2 q (blk_ob O2 ▸ hq)).2.elim id False.elim), fun q hq => ?_⟩
      · show Ending.returned (.tuple #[a'.tmps.getD 4 undef, a'.tmps.getD 5 undef, a'.tmps.getD 6 undef]) = _
        rw [e6']
      · have := hc'.mem.sep i j _ _ _ _ q hij o4 o5 V1 V2 (by rw [blk_ob O1]; exact hq)
        rwa [blk_ob O2] at this
    · have f4 := hc'.env 4
      rw [g4] at f4
      have f4' := f4.inv_nl
      have f5 := hc'.env 5
      rw [g5] at f5
      have f5' := f5.inv_nl
      rw [hA1, hA2]
      refine ⟨.slice none 0 0, .slice none 0 0, 0, 0, ?_, hB, World.ownsRow_nil _ _ _ _, World.ownsRow_nil _ _ _ _, fun q hq => by cases hq⟩
      show Ending.returned (.tuple #[a'.tmps.getD 4 undef, a'.tmps.getD 5 undef, a'.tmps.getD 6 undef]) = _
      rw [e6', f4', f5']
  cases ex with
  | normal => obtain ⟨s', H', ov', hq, hc'⟩ := hq; exact ⟨.inl rfl, last s' H' ov' hq.2 hc'⟩
  | ret => obtain ⟨s', H', ov', hq, hc'⟩ := hq; exact ⟨.inr rfl, last s' H' ov' hq.2 hc'⟩
  | exit i => obtain ⟨s', H', ov', hq, hc'⟩ := hq; exact absurd hq.1 (by simp)
  | goto l => exact hq.elim
  | panic ch => exact hq.elim
  | outgrown => exact hq.elim
end Go.Proofs.Ytdafakcccjjpiaa
