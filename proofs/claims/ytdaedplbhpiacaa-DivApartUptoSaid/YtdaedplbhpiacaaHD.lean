/-
  The texts AP18, AP19, AP20.
-/
import Derived.Test.YtdaedplbhpiacaaGE
import Derived.Test.YtdaedplbhpiacaaBKA
import Derived.Test.YtdaedplbhpiacaaHA
namespace Go.Proofs.Ytdaedplbhpiacaa
open Go Go.RowKit Ab
set_option linter.unusedSimpArgs false
set_option linter.unusedVariables false
set_option maxHeartbeats 10000000
theorem bz_AP18 : type_of% (And.intro @W_len (And.intro @Nat.div_one (And.intro @Nat.mul_one (And.intro @tn_nat (And.intro @W_nf (And.intro @W_nil (And.intro @wi (And.intro @nf_g (And.intro @Bool.false_and (@W_cell)))))))))) := And.intro @W_len (And.intro @Nat.div_one (And.intro @Nat.mul_one (And.intro @tn_nat (And.intro @W_nf (And.intro @W_nil (And.intro @wi (And.intro @nf_g (And.intro @Bool.false_and (@W_cell)))))))))
theorem _root_.Go.Proofs.Ytdaedplbhpiacaa.Ab.AFun.mktn {P : Program} {J : World → Prop} (hfol : P.follows .mixedOrders = true) (hJs : ∀ w e w', J w → BelE w e w' → J w') {f : FuncId} {fn : Func} {c : Code} {ac : AC} {t0 : Nat} {ts : List Nat} {args : List V} {e sz : Nat} {rs : List V} (hf : P.funcs[f]? = some fn) (hb : fn.body = some c) (hc : cCode P fn.ntmps c = some ac) (hts : resSlots fn.results.toList = some (t0 :: ts)) (hts1 : ts ≠ []) (hn' : Nat.ble args.length fn.ntmps = true)
    (hsz : 0 < sz)
    (hv : avc (AFun P J) (XFun P) ac (fun ex s => match ex with | .normal | .ret => s.get t0 = .nl ∧ retN s ts rs | .exit _ => False) (initS args)) : AFun P J f args (.to e sz [] rs) := by
  have hn : args.length ≤ fn.ntmps := Nat.le_of_ble_eq_true hn'
  refine ⟨hsz, ?_⟩
  intro w H vs hJ hT hH hreps
  refine calls_of_wp hf hb ?_
  have hlen : vs.length = args.length := hreps.1
  have hsize : (vs.toArray ++ Array.replicate (fn.ntmps - vs.toArray.size) undef).size = fn.ntmps := by simp; omega
  have hconc : Conc w ⟨H, fun _ => False, []⟩ w H (fun _ => none) fn.ntmps { tmps := vs.toArray ++ Array.replicate (fn.ntmps - vs.toArray.size) undef, defers := [] } (initS args) := by
    refine ⟨⟨BelE.refl _ _, hT, hH, fun b hb _ => .inl hb, fun id o h => (by cases h), fun i j oi oj vi vj b hij h => (by cases h)⟩, hsize, rfl, fun _ _ h => (by cases h), fun t => ?_, fun _ _ => rfl⟩
    show Rep w H (fun _ => none) _ (lk (initE 0 args) t)
    rw [initE_get]
    simp only [Nat.zero_le, if_true, Nat.sub_zero]
    by_cases ht : t < args.length
    · have htv : t < vs.length := by omega
      have := hreps.2 t vs[t] args[t] (List.getElem?_eq_getElem htv) (List.getElem?_eq_getElem ht)
      simp only [Array.getD_eq_getD_getElem?, List.getD, List.getElem?_eq_getElem ht, Option.getD_some]
      rw [Array.getElem?_append_left (by simpa using htv)]
      simp only [List.getElem?_toArray, List.getElem?_eq_getElem htv, Option.getD_some]
      exact .up this
    · have : args.getD t V.any = .any := by simp [List.getD, List.getElem?_eq_none (Nat.le_of_not_lt ht)]
      rw [this]; exact .any _
  have last : ∀ (s' : St) (H' : Nat → Prop) (ov' : Nat → Option Value) (a' : Act) (w' : World), (s'.get t0 = .nl ∧ retN s' ts rs) → Conc w ⟨H, fun _ => False, []⟩ w' H' ov' fn.ntmps a' s' →
      a'.defers = [] ∧ ∃ r, (results fn a'.tmps).run P w' = .ok r w' ∧ ∃ (u : Value) (us : List Value) (n : Nat) (xs : List Value) (N : Nat → Prop), Ending.returned r = .returned (.tuple (u :: us).toArray) ∧ Below w.heap.size w w' ∧ w'.ownsRow w.heap.size e sz u n xs ∧ (∀ b, N b → w.heap.size ≤ b ∧ b < w'.heap.size) ∧ (∀ b, blk u = some b → ¬ N b) ∧
        RepAll w' (fun b => H b ∨ N b) xs [] ∧ (∀ x, x ∈ ([] : List V) → x.cell = true) ∧ n ≤ maxLen ∧ RepAll w' (fun b => H b ∨ N b) us rs := by
    rintro s' H' ov' a' w' ⟨h1, h3⟩ hc'
    have hr := hc'.env t0
    rw [h1] at hr
    have e1 := hr.inv_nl
    obtain ⟨hl, up, hup, hkey, hreps⟩ := retN_repK hc' ts rs h3
    obtain ⟨H1, hext, hm1, hfr, hfr5⟩ := hc'.mem.freeze hup
    have hin : ∀ b, H1 b → H b ∨ (H1 b ∧ w.heap.size ≤ b) := fun b hb => by
      rcases Nat.lt_or_ge b w.heap.size with h | h
      · exact .inl ((hm1.low b hb h).resolve_right (fun h => h))
      · exact .inr ⟨hb, h⟩
    refine ⟨hc'.dfr, _, resSlots_run hts _ _, a'.tmps.getD t0 undef, ts.map fun t => a'.tmps.getD t undef, 0, [], fun b => H1 b ∧ w.heap.size ≤ b, ?_, hc'.mem.bel.below (fun _ h => h), by rw [e1]; exact World.ownsRow_nil _ _ _ _, fun b hb => ⟨hb.2, hm1.Hlt b hb.1⟩, fun b hb hN => (by rw [e1] at hb; cases hb), ⟨rfl, fun j v x h => by simp at h⟩, fun x h => by simp at h, Nat.zero_le _, ⟨by simpa using hl, fun j v x h5 h6 => ?_⟩⟩
    · match ts, hts1 with
      | t1 :: ts', _ => rfl
    · simp only [List.getElem?_map, Option.map_eq_some_iff] at h5
      obtain ⟨q, hq, rfl⟩ := h5
      exact (hreps H1 hext.hH hfr j q x hq h6).mono hin (fun _ _ => rfl)
  refine wp_mono (avc_sound (J := J) (H0 := ⟨H, fun _ => False, []⟩) hfol (fun w' hb => hJs w _ w' hJ hb) c ac hc (fun _ _ h => by cases h) _ _ _ w H (fun _ => none) hconc hv) fun ex a' w' hq => ?_
  cases ex with
  | normal => obtain ⟨s', H', ov', hr, hc'⟩ := hq; exact last s' H' ov' a' w' hr hc'
  | ret => obtain ⟨s', H', ov', hr, hc'⟩ := hq; exact last s' H' ov' a' w' hr hc'
  | exit i => obtain ⟨s', H', ov', hr, _⟩ := hq; exact hr.elim
  | goto l => exact hq.elim
  | panic ch => exact hq.elim
  | outgrown => exact hq.elim
theorem shrO (a : List Nat) (n : Int) (ha : Wd a) (la : a.length ≤ 100000000000) (hn : n < 9223372036854775808) : AFun Try.prog J0 56 [.l 1 (W a), .i .i64 n] (.to 24 1 (W (shrR (nv B a) n).1) [.i .i64 (shrR (nv B a) n).2]) := by
  by_cases h1 : n < 0
  · rw [show shrR (nv B a) n = ([], 3) from if_pos h1]
    simp only [W_nil]
    refine AFun.mktn fol J0s Try.func56 rfl (ac := a56) (by kernel_rfl) rfl (by decide) rfl (by decide) ?_
    apply vm_start
    unfold a56
    simp only [init_eq, initE, qm, qr, qn]
    refine spQ (ai @h1 @bz_AP18) ?_
    exact ⟨trivial, ⟨rfl, rfl⟩, trivial⟩
  · rw [show shrR (nv B a) n = (dg B (nv B a / 2 ^ n.toNat), 0) from if_neg h1]
    obtain ⟨k, rfl⟩ : ∃ k : Nat, n = (k : Int) := ⟨n.toNat, by omega⟩
    have e : nv B (fl B (a.length - k / 64) (nv B a / 2 ^ k)) = nv B a / 2 ^ k := by
      rw [nv_fl, Nat.mod_eq_of_lt]
      rw [pow_split, ← Nat.div_div_eq_div_mul]
      refine Nat.lt_of_le_of_lt (Nat.div_le_self _ _) ?_
      rcases Nat.lt_or_ge a.length (k / 64) with h | h
      · rw [Nat.div_eq_of_lt (Nat.lt_of_lt_of_le (nv_lt ha) (Nat.pow_le_pow_right B0 (by omega)))]
        exact Nat.pow_pos B0
      · rw [Nat.div_lt_iff_lt_mul (Nat.pow_pos B0), ← Nat.pow_add, show a.length - k / 64 + k / 64 = a.length from by omega]
        exact nv_lt ha
    refine AFun.mkt fol J0s Try.func56 rfl (ac := a56) (by kernel_rfl) rfl (by decide) rfl (by decide) ?_
    apply vm_start
    unfold a56
    simp only [init_eq, initE, qm, qr, qn]
    have zc4 := limbShr_spec a k ha (by omega) (by omega)
    have zc5 := own_dg (fl B (a.length - k / 64) (nv B a / 2 ^ k)) (fl_Lt B0 _ _) (by rw [fl_len]; omega)
    refine wkQ (ai @e (ai @h1 @bz_AP18)) ?_
    exact ⟨⟨_, _, rfl, rfl, rfl⟩, ⟨rfl, rfl⟩, trivial⟩
end Go.Proofs.Ytdaedplbhpiacaa
namespace Go.Proofs.Ytdaedplbhpiacaa
open Go Go.RowKit Go.Proofs Ab
set_option linter.unusedSimpArgs false
set_option linter.unusedVariables false
set_option maxHeartbeats 10000000
set_option maxHeartbeats 4000000
set_option maxRecDepth 2000000
end Go.Proofs.Ytdaedplbhpiacaa
namespace Go.Proofs.Ytdaedplbhpiacaa
open Go Go.RowKit Ab
set_option linter.unusedSimpArgs false
set_option linter.unusedVariables false
set_option maxHeartbeats 10000000
def CutR (w : World) (A1 A2 : List Nat) (f : Int) (e : Ending) (w' : World) : Prop :=
  ∃ (v1 v2 : Value) (n1 n2 : Nat), e = .returned (.tuple #[v1, v2, .int .i64 f]) ∧ Below w.heap.size w w' ∧ w'.ownsRow w.heap.size 24 1 v1 n1 (Wv A1) ∧ w'.ownsRow w.heap.size 24 1 v2 n2 (Wv A2) ∧ ∀ q, v1.ownBlock = some q → v2.ownBlock ≠ some q
end Go.Proofs.Ytdaedplbhpiacaa
