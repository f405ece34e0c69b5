/-
  A function's code in the layer piece by piece; own rows that are frozen between two pieces.
-/
import Derived.Test.YteaiegppmbcibaaGI
import Derived.Test.YteaiegppmbcibaaGD
namespace Go.Proofs.Yteaiegppmbcibaa
open Go Go.RowKit Go.Proofs Ab
set_option linter.unusedSimpArgs false
set_option linter.unusedVariables false
set_option maxHeartbeats 10000000
def _root_.Go.Proofs.Yteaiegppmbcibaa.Ab.AC.p1 : AC → AC
  | .seq a _ => a
  | c => c
def _root_.Go.Proofs.Yteaiegppmbcibaa.Ab.AC.p2 : AC → AC
  | .seq _ b => b
  | c => c
theorem seq_go {P : Program} {N : Nat} {w0 : World} {H0 : HS} {c1 c2 : Code} {A1 A2 : AC} {K : St → Prop} {s : St} {a : Act} {w : World} {H : Nat → Prop} {ov : Nat → Option Value} {R : Exit → Act → World → Prop}
    (hfol : P.follows .mixedOrders = true) (hc : cCode P N c1 = some A1) (hn : nodk H0 A1) (hconc : Conc w0 H0 w H ov N a s)
    (hv : avc (AFun P J0) (XFun P) (A1.seq A2) (fun e s' => e = .normal ∧ K s') s)
    (k : ∀ a' w' H' ov' s', avc (AFun P J0) (XFun P) A2 (fun e s' => e = .normal ∧ K s') s' → Conc w0 H0 w' H' ov' N a' s' → c2.wp P R a' w') : (c1.seq c2).wp P R a w := by
  simp only [avc] at hv
  refine wp_seq (wp_mono (avc_sound (J := J0) hfol (fun w' _ => trivial) c1 A1 hc hn _ s a w H ov hconc hv) fun ex a' w' hq => ?_)
  cases ex with
  | normal => obtain ⟨s', H', ov', hq, hc'⟩ := hq; exact k a' w' H' ov' s' hq hc'
  | ret => obtain ⟨s', H', ov', hq, hc'⟩ := hq; exact absurd hq.1 (by simp)
  | exit i => obtain ⟨s', H', ov', hq, hc'⟩ := hq; exact absurd hq.1 (by simp)
  | goto l => exact hq.elim
  | panic ch => exact hq.elim
  | outgrown => exact hq.elim
theorem last_go {P : Program} {N : Nat} {w0 : World} {H0 : HS} {c1 c2 : Code} {A1 : AC} {K : St → Prop} {s : St} {a : Act} {w : World} {H : Nat → Prop} {ov : Nat → Option Value} {R : Exit → Act → World → Prop}
    (hfol : P.follows .mixedOrders = true) (hc : cCode P N c1 = some A1) (hn : nodk H0 A1) (hconc : Conc w0 H0 w H ov N a s)
    (hv : avc (AFun P J0) (XFun P) A1 (fun e s' => e = .normal ∧ K s') s)
    (k : ∀ a' w' H' ov' s', K s' → Conc w0 H0 w' H' ov' N a' s' → c2.wp P R a' w') : (c1.seq c2).wp P R a w := by
  refine wp_seq (wp_mono (avc_sound (J := J0) hfol (fun w' _ => trivial) c1 A1 hc hn _ s a w H ov hconc hv) fun ex a' w' hq => ?_)
  cases ex with
  | normal => obtain ⟨s', H', ov', hq, hc'⟩ := hq; exact k a' w' H' ov' s' hq.2 hc'
  | ret => obtain ⟨s', H', ov', hq, hc'⟩ := hq; exact absurd hq.1 (by simp)
  | exit i => obtain ⟨s', H', ov', hq, hc'⟩ := hq; exact absurd hq.1 (by simp)
  | goto l => exact hq.elim
  | panic ch => exact hq.elim
  | outgrown => exact hq.elim
def _root_.Go.Proofs.Yteaiegppmbcibaa.Ab.St.fz (s : St) (t sz : Nat) : St := ⟨(t, rd s.ob sz (s.get t)) :: s.env, frz s.ob (s.get t) ++ s.obs, s.nx⟩
theorem fz_conc {w0 : World} {H0 : HS} {w : World} {H : Nat → Prop} {ov : Nat → Option Value} {N : Nat} {a : Act} {s : St} (hc : Conc w0 H0 w H ov N a s) {t sz : Nat} (hsz : 0 < sz) (ok : okR s.ob (s.get t)) (okA : (rd s.ob sz (s.get t)).okArg = true) :
    ∃ H', Conc w0 H0 w H' ov N a (s.fz t sz) := by
  obtain ⟨H', e, m, h1, h2⟩ := hc.mem.freeze (onlyFrz_frz (ob := s.ob) (s.get t))
  have hob : (s.fz t sz).ob = upd s.ob (frz s.ob (s.get t)) := by funext i; simp [St.fz, St.ob, lo_app]; rfl
  refine ⟨H', ⟨by rw [hob]; exact m, hc.siz, hc.dfr, hc.kp, fun u => ?_, hc.new⟩⟩
  show Rep w H' ov _ (lk ((t, rd s.ob sz (s.get t)) :: s.env) u)
  unfold lk
  split
  · rename_i e2; subst e2
    exact .base (rd_rep hc.mem hsz (hc.env t) ok (.inl okA) e.hH fun k y u b h3 h4 h5 => h1 k y u b h3 h4 h5)
  · exact (hc.env u).mono e
theorem run_pc {P : Program} {f : FuncId} {fn : Func} {c : Code} (hf : P.funcs[f]? = some fn) (hb : fn.body = some c) {vs : List Value} (hn : vs.length ≤ fn.ntmps)
    {w : World} {H E : Nat → Prop} {ks : List (Nat × Value)} {ov0 : Nat → Option Value} {s0 : St} (hm : Mem w ⟨H, E, ks⟩ w H ov0 s0.ob) (hks : ∀ m v, (m, v) ∈ ks → m < vs.length ∧ vs.getD m undef = v) (henv : ∀ k, k < vs.length → Rep w H ov0 (vs.getD k undef) (s0.get k)) (hrest : ∀ k, vs.length ≤ k → s0.get k = .any) (hnew : ∀ id, s0.nx ≤ id → ov0 id = none)
    {R : Ending → World → Prop} (k : ∀ a, Conc w ⟨H, E, ks⟩ w H ov0 fn.ntmps a s0 → c.wp P (fun ex a' w' => (ex = .normal ∨ ex = .ret) ∧ a'.defers = [] ∧ ∃ r, (results fn a'.tmps).run P w' = .ok r w' ∧ R (.returned r) w') a w) :
    Calls P f vs.toArray w R := by
  refine calls_of_wp hf hb ?_
  have hsz : (vs.toArray ++ Array.replicate (fn.ntmps - vs.toArray.size) undef).size = fn.ntmps := by simp; omega
  have hget : ∀ k, k < vs.length → ((vs.toArray ++ Array.replicate (fn.ntmps - vs.toArray.size) undef).getD k undef) = vs.getD k undef := fun k hk => by
    simp only [Array.getD_eq_getD_getElem?, List.getD]
    rw [Array.getElem?_append_left (by simpa using hk)]
    simp
  have hconc : Conc w ⟨H, E, ks⟩ w H ov0 fn.ntmps { tmps := vs.toArray ++ Array.replicate (fn.ntmps - vs.toArray.size) undef, defers := [] } s0 := by
    refine ⟨hm, hsz, rfl, fun m v h => (hget m (hks m v h).1).trans (hks m v h).2, fun k => ?_, hnew⟩
    by_cases hk : k < vs.length
    · have h := henv k hk
      have e := hget k hk
      show Rep w H ov0 ((vs.toArray ++ Array.replicate (fn.ntmps - vs.toArray.size) undef).getD k undef) _
      rw [e]; exact h
    · rw [hrest k (by omega)]; exact .any _
  refine wp_mono (k _ hconc) fun ex a' w' ⟨h1, h2, r, h3, h4⟩ => ?_
  rcases h1 with rfl | rfl
  · exact ⟨h2, r, h3, h4⟩
  · exact ⟨h2, r, h3, h4⟩
def cRen (r : Nat → Nat) (x1 x2 : V) : Prop := (x1 = x2 ∧ x2.cell = true) ∨ (∃ sz i n, x1 = .ow sz (r i) n ∧ x2 = .ow sz i n) ∨ (x1 = .nl ∧ x2 = .nl)
structure oRen (r : Nat → Nat) (o1 o2 : Ob) : Prop where
  e : o2.e = o1.e
  sz : o2.sz = o1.sz
  mu : o2.mu = o1.mu
  isv : o2.isv = o1.isv
  len : o2.cs.length = o1.cs.length
  cs : ∀ (j : Nat) (x1 x2 : V), o1.cs[j]? = some x1 → o2.cs[j]? = some x2 → cRen r x1 x2
theorem oRen.refl {r : Nat → Nat} {o : Ob} (h : ∀ x, x ∈ o.cs → x.cell = true) : oRen r o o := ⟨rfl, rfl, rfl, rfl, rfl, fun j x1 x2 h1 h2 => by
  rw [h1] at h2; cases h2; exact .inl ⟨rfl, h _ (List.mem_of_getElem? h1)⟩⟩
theorem oRen.rfo {r : Nat → Nat} {o1 o2 : Ob} (h : oRen r o1 o2) : Ab.rfo o2 = Ab.rfo o1 := by unfold Ab.rfo; rw [h.e, h.isv]
theorem mem_rebase {w0 w : World} {H0 : HS} {H1 H2 : Nat → Prop} {ov : Nat → Option Value} {ob ob2 : Nat → Option Ob} {r : Nat → Nat} (hm : Mem w0 H0 w H1 ov ob) (h12 : ∀ q, H1 q → H2 q) (hlt : ∀ q, H2 q → q < w.heap.size)
    (hx : ∀ i o v q, ob i = some o → ov i = some v → blk v = some q → H2 q → H1 q) (hinj : ∀ i j o p, ob2 i = some o → ob2 j = some p → r i = r j → i = j) (hob : ∀ i o2, ob2 i = some o2 → ∃ o1, ob (r i) = some o1 ∧ oRen r o1 o2) (ks : List (Nat × Value)) :
    Mem w ⟨H2, fun q => ∃ i o v, ob2 i = some o ∧ ov (r i) = some v ∧ blk v = some q, ks⟩ w H2 (fun i => ov (r i)) ob2 := by
  refine ⟨BelE.refl _ _, hm.tj.mono h12 (fun _ _ => rfl), hlt, fun b h _ => .inl h, fun i o2 hi => ?_, fun i j oi oj vi vj b hij hi hj hvi hvj hb => ?_⟩
  · obtain ⟨o1, h1, hr⟩ := hob i o2 hi
    obtain ⟨v, hv, hor⟩ := hm.obj _ _ h1
    have e : Ext w H1 ov w H2 ov := ⟨h12, fun _ _ => rfl, fun _ _ h => h⟩
    have cell : ∀ (u : Value) (x1 x2 : V), cRen r x1 x2 → Rep w H1 ov u x1 → Rep w H2 (fun i => ov (r i)) u x2 := fun u x1 x2 hc hu => by
      rcases hc with ⟨rfl, hc⟩ | ⟨sz, i, n, rfl, rfl⟩ | ⟨rfl, rfl⟩
      · exact .base ((hu.down hc).mono h12 (fun _ _ => rfl))
      · obtain ⟨a, cap, rfl, h3, h4, h5, h6⟩ := hu.inv_ow
        exact .ow sz i n cap a h4 h5 h6 h3
      · rw [hu.inv_nl]; exact .nl
    have reps : ∀ xs, RepCs w H1 ov xs o1.cs → RepCs w H2 (fun i => ov (r i)) xs o2.cs := fun xs hrs => ⟨hrs.1.trans hr.len.symm, fun j u x2 hu hx2 => by
      have hj : j < o1.cs.length := by rw [← hr.len]; exact (List.getElem?_eq_some_iff.1 hx2).1
      exact cell u _ x2 (hr.cs j _ x2 (List.getElem?_eq_getElem hj) hx2) (hrs.2 j u _ hu (List.getElem?_eq_getElem hj))⟩
    refine ⟨v, hv, fun x2 hx2 => ?_, fun q hq => .inr ⟨i, o2, v, hi, hv, hq⟩, fun q hq => ?_, ?_⟩
    · obtain ⟨j, hj⟩ := List.mem_iff_getElem?.1 hx2
      have hj1 : j < o1.cs.length := by rw [← hr.len]; exact (List.getElem?_eq_some_iff.1 hj).1
      rcases hr.cs j _ x2 (List.getElem?_eq_getElem hj1) hj with ⟨_, hc⟩ | ⟨sz, k, n, e1, rfl⟩ | ⟨e1, rfl⟩
      · exact .inl hc
      · right
        rcases hor.clr _ (List.getElem_mem hj1) with h5 | ⟨h5, _⟩
        · rw [e1] at h5; cases h5
        · exact ⟨by rw [hr.rfo]; exact h5, rfl⟩
      · right
        rcases hor.clr _ (List.getElem_mem hj1) with h5 | ⟨h5, _⟩
        · rw [e1] at h5; cases h5
        · exact ⟨by rw [hr.rfo]; exact h5, rfl⟩
    · rw [hr.mu]
      exact ⟨fun h => (hor.fz q hq).1 (hx _ _ _ _ h1 hv hq h), fun h => h12 q ((hor.fz q hq).2 h)⟩
    · rcases hor.bd with ⟨hv1, ⟨b, cur, rfl, hB, hh, hrs⟩ | ⟨hsz, n, xs, hown, hrs, hn⟩⟩ | ⟨hv1, hsz, n, xs, hown, hrs, hn⟩
      · exact .inl ⟨by rw [hr.isv]; exact hv1, .inl ⟨b, cur, rfl, hB, by rw [hr.e]; exact hh, reps _ hrs⟩⟩
      · exact .inl ⟨by rw [hr.isv]; exact hv1, .inr ⟨by rw [hr.sz]; exact hsz, n, xs, by rw [hr.e, hr.sz]; exact hown, reps _ hrs, hn⟩⟩
      · refine .inr ⟨by rw [hr.isv]; exact hv1, by rw [hr.sz]; exact hsz, n, xs, by rw [hr.e, hr.sz]; exact hown, ?_, hn⟩
        refine (reps _ hrs.cs).all fun x2 hx2 => ?_
        obtain ⟨j, hj⟩ := List.mem_iff_getElem?.1 hx2
        have hj1 : j < o1.cs.length := by rw [← hr.len]; exact (List.getElem?_eq_some_iff.1 hj).1
        rcases hr.cs j _ x2 (List.getElem?_eq_getElem hj1) hj with ⟨_, hc⟩ | ⟨sz, k, n, e1, rfl⟩ | ⟨e1, rfl⟩
        · exact hc
        · rcases hor.clr _ (List.getElem_mem hj1) with h5 | ⟨h5, _⟩
          · rw [e1] at h5; cases h5
          · rw [rfo_row hv1] at h5; cases h5
        · rcases hor.clr _ (List.getElem_mem hj1) with h5 | ⟨h5, _⟩
          · rw [e1] at h5; cases h5
          · rw [rfo_row hv1] at h5; cases h5
  · obtain ⟨o1, h1, _⟩ := hob i oi hi
    obtain ⟨o2, h2, _⟩ := hob j oj hj
    exact hm.sep (r i) (r j) o1 o2 vi vj b (fun e => hij (hinj i j oi oj hi hj e)) h1 h2 hvi hvj hb
end Go.Proofs.Yteaiegppmbcibaa
