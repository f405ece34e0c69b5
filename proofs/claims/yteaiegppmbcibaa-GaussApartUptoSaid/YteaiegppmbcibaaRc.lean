/-
  Functions whose results lie in variables.
-/
import Derived.Test.YteaiegppmbcibaaGC
namespace Go.Proofs.Yteaiegppmbcibaa.Ab
open Go Go.RowKit
set_option linter.unusedSimpArgs false
set_option linter.unusedVariables false
set_option maxHeartbeats 10000000
inductive RS where
  | t (n : Nat)
  | c (a : Nat) (ag : Bool) (n : Nat)
def cRS (P : Program) : List ResultVar → Option (List RS)
  | [] => some []
  | .tmp t :: r => match cRS P r with | some l => some (.t t :: l) | none => none
  | .cell a t :: r => match P.info? t, P.underlying t, cRS P r with | some ti, some _, some l => some (.c a (isAg P t) ti.size :: l) | _, _, _ => none
def rsq (ag : Bool) (n k : Nat) : Option Ob → Option V
  | some o => if ag then (if k + n ≤ o.cs.length ∧ rfo o = false then some (.g ((o.cs.drop k).take n)) else none) else (if k < o.cs.length then some (o.cs.getD k .un) else none)
  | none => none
def rsp (s : St) (ag : Bool) (n : Nat) : V → Option V
  | .pt j k => rsq ag n k (s.ob j)
  | _ => none
def rsV (s : St) : RS → Option V
  | .t n => some (s.get n)
  | .c a ag n => rsp s ag n (s.get a)
def ocons : Option V → Option (List V) → Option (List V)
  | some v, some l => some (v :: l)
  | _, _ => none
def rsVs (s : St) : List RS → Option (List V)
  | [] => some []
  | x :: r => ocons (rsV s x) (rsVs s r)
def retNV (s : St) : List V → List V → Prop
  | [], [] => True
  | v :: vs, r :: rs => (match r with | .o _ _ _ => False | r => ret1 s v r) ∧ retNV s vs rs
  | _, _ => False
def retV (s : St) (r : V) : Option (List V) → Prop
  | some [v] => ret1 s v r
  | some vs => match r with | .t rs => retNV s vs rs | _ => False
  | none => False
def retC (s : St) (rs : List RS) (r : V) : Prop := retV s r (rsVs s rs)
section
variable {P : Program} {J : World → Prop} {w0 : World} {H0 : HS} {N : Nat}
theorem rs_cons {w : World} {H : Nat → Prop} {ov : Nat → Option Value} {s : St} {F : ResultVar → Sem Value} {x : ResultVar} {l : List ResultVar} {y : RS} {rs' : List RS} {vs : List V} (hv : rsVs s (y :: rs') = some vs)
    (hy : ∀ v, rsV s y = some v → ∃ cv, (F x).run P w = .ok cv w ∧ Rep w H ov cv v)
    (ih : ∀ vs', rsVs s rs' = some vs' → ∃ cvs : List Value, (l.mapM F).run P w = .ok cvs w ∧ cvs.length = vs'.length ∧ ∀ (j : Nat) (v : Value) (x : V), cvs[j]? = some v → vs'[j]? = some x → Rep w H ov v x) :
    ∃ cvs : List Value, ((x :: l).mapM F).run P w = .ok cvs w ∧ cvs.length = vs.length ∧ ∀ (j : Nat) (v : Value) (x : V), cvs[j]? = some v → vs[j]? = some x → Rep w H ov v x := by
  simp only [rsVs] at hv
  cases h1 : rsV s y with
  | none => rw [h1] at hv; simp [ocons] at hv
  | some v =>
    cases h2 : rsVs s rs' with
    | none => rw [h1, h2] at hv; simp [ocons] at hv
    | some vs' =>
      rw [h1, h2] at hv
      simp only [ocons, Option.some.injEq] at hv
      subst hv
      obtain ⟨cv, r1, r2⟩ := hy v h1
      obtain ⟨cvs, q1, q2, q3⟩ := ih vs' h2
      refine ⟨cv :: cvs, ?_, by simp [q2], fun j u z hu hz => ?_⟩
      · simp only [List.mapM_cons, Sem.run_bind, r1, Result.andThen_ok, q1, Sem.run_pure]
      · cases j with
        | zero => simp at hu hz; subst hu; subst hz; exact r2
        | succ j => exact q3 j u z (by simpa using hu) (by simpa using hz)
def slotF (a : Act) (x : ResultVar) : Sem Value := match x with
  | ResultVar.tmp t => (pure (a.tmps.getD t undef) : Sem Value)
  | ResultVar.cell q t => do loadVar t (← asAddr (a.tmps.getD q undef))
theorem rs_run {w : World} {H : Nat → Prop} {ov : Nat → Option Value} {a : Act} {s : St} (hc : Conc w0 H0 w H ov N a s) : ∀ (l : List ResultVar) (rs : List RS) (vs : List V), cRS P l = some rs → rsVs s rs = some vs →
    ∃ cvs : List Value, (l.mapM (slotF a)).run P w = .ok cvs w ∧ cvs.length = vs.length ∧ ∀ (j : Nat) (v : Value) (x : V), cvs[j]? = some v → vs[j]? = some x → Rep w H ov v x
  | [], rs, vs, h, hv => by
    simp only [cRS, Option.some.injEq] at h; subst h
    simp only [rsVs, Option.some.injEq] at hv; subst hv
    exact ⟨[], rfl, rfl, fun j v x h => by simp at h⟩
  | .tmp t :: l, rs, vs, h, hv => by
    simp only [cRS] at h
    split at h
    · rename_i l' hl'
      cases h
      refine rs_cons hv (fun v hv => ?_) (fun vs' h2 => rs_run hc l l' vs' hl' h2)
      simp only [rsV, Option.some.injEq] at hv
      subst hv
      exact ⟨_, by simp only [slotF, Sem.run_pure], hc.env t⟩
    · cases h
  | .cell q t :: l, rs, vs, h, hv => by
    simp only [cRS] at h
    split at h
    · rename_i ti d l' hi hd hl'
      cases h
      refine rs_cons hv (fun v hv => ?_) (fun vs' h2 => rs_run hc l l' vs' hl' h2)
      have hq := hc.env q
      simp only [rsV] at hv
      cases hg : s.get q <;> rw [hg] at hv hq <;> simp only [rsp] at hv <;> (try cases hv)
      case pt j k =>
        obtain ⟨b, u, e, hu, hb⟩ := hq.inv_pt
        cases ho : s.ob j with
        | none => rw [ho] at hv; cases hv
        | some o =>
          rw [ho] at hv
          simp only [rsq] at hv
          cases hag : isAg P t <;> rw [hag] at hv <;> simp only [Bool.false_eq_true, if_false, if_true] at hv
          · split at hv
            · rename_i hk
              cases hv
              obtain ⟨c, hcc, _, hr, _⟩ := hc.mem.at ho (List.getElem?_eq_getElem hk) hu hb
              have hag' : (isAgg t).run P w = .ok false w := by
                rw [← hag]
                simp only [isAgg, isAg, Sem.run_bind, run_underlying hd, Result.andThen_ok, hd]
                cases d <;> rfl
              refine ⟨c, ?_, ?_⟩
              · simp [slotF, e, asAddr, loadVar, hag', hcc]
              · have : o.cs.getD k .un = o.cs[k] := by rw [List.getD_eq_getElem?_getD, List.getElem?_eq_getElem hk]; rfl
                rw [this]; exact hr
            · cases hv
          · split at hv
            · rename_i hk
              cases hv
              obtain ⟨us, hl, hus, hra⟩ := hc.mem.row ho hk.2 hk.1 hu hb
              have := (load_run (P := P) t b k ti.size us hl hus hi rfl hd).1 hag
              refine ⟨.agg us.toArray, ?_, .up (.g us _ hra.1 hra.2)⟩
              simpa [slotF, e, asAddr, Instr.loadAt, Instr.sureAddr] using this
            · cases hv
    · cases h
theorem ret1_ob {s s' : St} (h : s'.obs = s.obs) {v r : V} (hr : ret1 s v r) : ret1 s' v r := by
  have e : s'.ob = s.ob := by funext i; show lo s'.obs i = lo s.obs i; rw [h]
  unfold ret1 at *
  rw [e]; exact hr
def envs (T : Nat) : List V → List (Nat × V) → List (Nat × V)
  | [], l => l
  | v :: r, l => (T, v) :: envs (T + 1) r l
theorem envs_lk : ∀ (vs : List V) (T : Nat) (l : List (Nat × V)) (t : Nat), lk (envs T vs l) t = if T ≤ t ∧ t < T + vs.length then vs.getD (t - T) .any else lk l t
  | [], T, l, t => by simp [envs]; omega
  | v :: r, T, l, t => by
    simp only [envs, lk, envs_lk r (T + 1) l t, List.length_cons]
    by_cases h : T = t
    · subst h; simp
    · rw [if_neg h]
      by_cases h2 : T + 1 ≤ t ∧ t < T + 1 + r.length
      · rw [if_pos h2, if_pos (by omega), show t - T = (t - (T + 1)) + 1 from by omega]; rfl
      · rw [if_neg h2, if_neg (by omega)]
theorem retC_res (hE0 : ∀ b, ¬ H0.e b) (hK0 : H0.kp = []) {w : World} {H : Nat → Prop} {ov : Nat → Option Value} {a : Act} {s : St} (hc : Conc w0 H0 w H ov N a s) {vs : List V} {cvs : List Value} (hl : cvs.length = vs.length)
    (hr : ∀ (j : Nat) (v : Value) (x : V), cvs[j]? = some v → vs[j]? = some x → Rep w H ov v x) {r : V} (h : retV s r (some vs)) : Res w0 w H0.h (match cvs with | [v] => v | cvs => .tuple cvs.toArray) r := by
  have hsz := hc.siz
  obtain ⟨a', ha'⟩ : ∃ a' : Act, a' = { a with tmps := a.tmps ++ cvs.toArray } := ⟨_, rfl⟩
  obtain ⟨s', hs'⟩ : ∃ s' : St, s' = { s with env := envs N vs s.env } := ⟨_, rfl⟩
  have htm : ∀ t, a'.tmps.getD t undef = if t < N then a.tmps.getD t undef else cvs.getD (t - N) undef := fun t => by
    rw [ha']
    simp only [Array.getD_eq_getD_getElem?]
    by_cases ht : t < N
    · rw [if_pos ht, Array.getElem?_append_left (by omega)]
    · rw [if_neg ht, Array.getElem?_append_right (by omega), hsz]
      simp [List.getD_eq_getElem?_getD]
  have hget : ∀ t, s'.get t = if N ≤ t ∧ t < N + vs.length then vs.getD (t - N) .any else s.get t := fun t => by rw [hs']; exact envs_lk vs N s.env t
  have hc' : Conc w0 H0 w H ov (N + cvs.length) a' s' := by
    refine ⟨?_, by rw [ha']; simp [hsz], by rw [ha']; exact hc.dfr, fun m v h => (by rw [hK0] at h; cases h), fun t => ?_, ?_⟩
    · have : s'.ob = s.ob := by rw [hs']; rfl
      rw [this]; exact hc.mem
    · rw [htm, hget]
      by_cases ht : N ≤ t ∧ t < N + vs.length
      · rw [if_neg (by omega), if_pos ht]
        have h1 : t - N < cvs.length := by omega
        have h2 : t - N < vs.length := by omega
        have := hr (t - N) cvs[t - N] vs[t - N] (List.getElem?_eq_getElem h1) (List.getElem?_eq_getElem h2)
        rw [List.getD_eq_getElem?_getD, List.getElem?_eq_getElem h1, List.getD_eq_getElem?_getD, List.getElem?_eq_getElem h2]; exact this
      · rw [if_neg ht]
        by_cases h1 : t < N
        · rw [if_pos h1]; exact hc.env t
        · rw [if_neg h1]
          have h2 := hc.env t
          rw [Array.getD_eq_getD_getElem?, Array.getElem?_eq_none (by omega)] at h2
          rw [List.getD_eq_getElem?_getD, List.getElem?_eq_none (by omega)]; exact h2
    · rw [hs']; exact hc.new
  have hat : ∀ j, j < vs.length → s'.get (N + j) = vs.getD j .any := fun j hj => by rw [hget, if_pos (by omega), Nat.add_sub_cancel_left]
  have hav : ∀ j, j < cvs.length → a'.tmps.getD (N + j) undef = cvs.getD j undef := fun j hj => by rw [htm, if_neg (by omega), Nat.add_sub_cancel_left]
  have hobs : s'.obs = s.obs := by rw [hs']
  match vs, cvs, hl, h with
  | [v], [cv], _, h =>
    have := retOk_res hE0 hc' (ts := [N]) (r := r) (by
      show ret1 s' (s'.get N) r
      have h1 := hat 0 (by simp)
      rw [Nat.add_zero] at h1
      rw [h1]
      exact ret1_ob hobs h)
    have h2 := hav 0 (by simp)
    rw [Nat.add_zero] at h2
    show Res w0 w H0.h cv r
    have e : resVal a'.tmps [N] = cv := by show a'.tmps.getD N undef = cv; rw [h2]; rfl
    rw [e] at this; exact this
  | [], [], _, h =>
    simp only [retV] at h
    cases r with
    | t rs =>
      cases rs with
      | nil => exact retOk_res hE0 hc' (ts := []) (r := .t []) rfl
      | cons x l => exact h.elim
    | _ => exact h.elim
  | v :: v' :: vs, cv :: cv' :: cvs, hl, h =>
    simp only [retV] at h
    cases r with
    | t rs =>
      have gen : ∀ (vs : List V) (rs : List V) (T : Nat), retNV s vs rs → (∀ j, j < vs.length → s'.get (T + j) = vs.getD j .any) → retN s' (List.range' T vs.length) rs := by
        intro vs
        induction vs with
        | nil => intro rs T h _; cases rs with | nil => exact trivial | cons x l => exact h.elim
        | cons v vs ih =>
          intro rs T h hg
          cases rs with
          | nil => exact h.elim
          | cons r rs =>
            have h0 := hg 0 (by simp)
            rw [Nat.add_zero] at h0
            refine ⟨?_, ih rs (T + 1) h.2 fun j hj => by have := hg (j + 1) (by simp; omega); rw [show T + 1 + j = T + (j + 1) from by omega, this]; rfl⟩
            rw [h0]
            have h1 := h.1
            cases r <;> simp only [] at h1 ⊢ <;> first | exact ret1_ob hobs h1 | exact h1
      have hN := gen (v :: v' :: vs) rs N h (fun j hj => hat j hj)
      have := retOk_res hE0 hc' (ts := List.range' N (v :: v' :: vs).length) (r := .t rs) hN
      have e : resVal a'.tmps (List.range' N (v :: v' :: vs).length) = .tuple (cv :: cv' :: cvs).toArray := by
        show Value.tuple ((List.range' N (v :: v' :: vs).length).map fun t => a'.tmps.getD t undef).toArray = _
        congr 2
        refine List.ext_getElem (by simp at hl ⊢; omega) fun j h1 h2 => ?_
        simp only [List.getElem_map, List.getElem_range', Nat.one_mul]
        rw [hav j (by simpa using h2), List.getD_eq_getElem?_getD, List.getElem?_eq_getElem h2]; rfl
      rw [e] at this; exact this
    | _ => exact h.elim
theorem AFun.mkc (hfol : P.follows .mixedOrders = true) (hJs : ∀ w e w', J w → BelE w e w' → J w') {f : FuncId} {fn : Func} {c : Code} {ac : AC} {rs : List RS} {args : List V} {r : V} (hf : P.funcs[f]? = some fn) (hb : fn.body = some c) (hc : cCode P fn.ntmps c = some ac) (hts : cRS P fn.results.toList = some rs) (hn' : Nat.ble args.length fn.ntmps = true) (hmu : r.isMu = false)
    (hv : avc (AFun P J) (XFun P) ac (fun e s => match e with | .normal => retC s rs r | .ret => retC s rs r | .exit _ => False) (initS args)) : AFun P J f args r := by
  have hn : args.length ≤ fn.ntmps := Nat.le_of_ble_eq_true hn'
  refine .of0 hmu ?_
  intro w H vs hJ hT hH hreps
  refine calls_of_wp hf hb ?_
  have hlen : vs.length = args.length := hreps.1
  have hsz : (vs.toArray ++ Array.replicate (fn.ntmps - vs.toArray.size) undef).size = fn.ntmps := by simp; omega
  have hconc : Conc w ⟨H, fun _ => False, []⟩ w H (fun _ => none) fn.ntmps { tmps := vs.toArray ++ Array.replicate (fn.ntmps - vs.toArray.size) undef, defers := [] } (initS args) := by
    refine ⟨⟨BelE.refl _ _, hT, hH, fun b hb _ => .inl hb, fun id o h => (by cases h), fun i j oi oj vi vj b hij h => (by cases h)⟩, hsz, rfl, fun _ _ h => (by cases h), fun t => ?_, fun _ _ => rfl⟩
    show Rep w H (fun _ => none) _ (lk (initE 0 args) t)
    rw [initE_get]
    simp only [Nat.zero_le, if_true, Nat.sub_zero]
    by_cases ht : t < args.length
    · have htv : t < vs.length := by omega
      have := hreps.2 t vs[t] args[t] (List.getElem?_eq_getElem htv) (List.getElem?_eq_getElem ht)
      simp only [Array.getD_eq_getD_getElem?, List.getD, List.getElem?_eq_getElem ht, Option.getD_some]
      rw [Array.getElem?_append_left (by simpa using htv)]
      simp only [List.getElem?_toArray, List.getElem?_eq_getElem htv, Option.getD_some]
      exact .up this
    · have : args.getD t V.any = .any := by simp [List.getD, List.getElem?_eq_none (Nat.le_of_not_lt ht)]
      rw [this]; exact .any _
  have fin : ∀ (s' : St) (H' : Nat → Prop) (ov' : Nat → Option Value) (a' : Act) (w' : World), retC s' rs r → Conc w ⟨H, fun _ => False, []⟩ w' H' ov' fn.ntmps a' s' → ∃ v, (results fn a'.tmps).run P w' = .ok v w' ∧ Res w w' H v r := by
    intro s' H' ov' a' w' hr hc'
    unfold retC at hr
    cases hvs : rsVs s' rs with
    | none => rw [hvs] at hr; exact hr.elim
    | some us =>
      rw [hvs] at hr
      obtain ⟨cvs, h1, h2, h3⟩ := rs_run (P := P) hc' _ _ _ hts hvs
      refine ⟨_, ?_, retC_res (fun _ h => h) rfl hc' h2 h3 hr⟩
      have hra : fn.results = fn.results.toList.toArray := by simp
      unfold results
      rw [hra]
      simp only [Array.mapM_eq_mapM_toList, List.toList_toArray, Sem.run_bind, Sem.run_map]
      erw [h1]
      simp only [Result.andThen_ok, Sem.run_pure]
      match cvs with
      | [] => rfl
      | [t] => simp
      | t :: t' :: ts => simp
  refine wp_mono (avc_sound (J := J) (H0 := ⟨H, fun _ => False, []⟩) hfol (fun w' hb => hJs w _ w' hJ hb) c ac hc (fun _ _ h => by cases h) _ _ _ w H (fun _ => none) hconc hv) fun e a' w' hq => ?_
  cases e with
  | normal =>
    obtain ⟨s', H', ov', hr, hc'⟩ := hq
    obtain ⟨v, h1, h2⟩ := fin s' H' ov' a' w' hr hc'
    exact ⟨hc'.dfr, v, h1, v, rfl, hc'.mem.bel.below (fun _ h => h), h2⟩
  | ret =>
    obtain ⟨s', H', ov', hr, hc'⟩ := hq
    obtain ⟨v, h1, h2⟩ := fin s' H' ov' a' w' hr hc'
    exact ⟨hc'.dfr, v, h1, v, rfl, hc'.mem.bel.below (fun _ h => h), h2⟩
  | exit i => obtain ⟨s', H', ov', hr, _⟩ := hq; exact hr.elim
  | goto l => exact hq.elim
  | panic ch => exact hq.elim
  | outgrown => exact hq.elim
end
section
variable {s : St} {ag : Bool} {n j k a : Nat} {v r : V} {e sz : Nat} {cs : List V} {mu q : Bool} {l : List RS} {vs : List V}
theorem rsVs_nil : rsVs s [] = some [] := rfl
theorem rsVs_cons {x : RS} : rsVs s (x :: l) = ocons (rsV s x) (rsVs s l) := rfl
theorem rsV_t : rsV s (.t a) = some (s.get a) := rfl
theorem rsV_c : rsV s (.c a ag n) = rsp s ag n (s.get a) := rfl
theorem rsp_pt : rsp s ag n (.pt j k) = rsq ag n k (s.ob j) := rfl
theorem rsq_t : rsq true n k (some ⟨e, sz, cs, mu, q⟩) = if k + n ≤ cs.length ∧ rfo ⟨e, sz, cs, mu, q⟩ = false then some (.g ((cs.drop k).take n)) else none := rfl
theorem rsq_f : rsq false n k (some ⟨e, sz, cs, mu, q⟩) = if k < cs.length then some (cs.getD k .un) else none := rfl
theorem ocons_ss : ocons (some v) (some vs) = some (v :: vs) := rfl
theorem retV_1 : retV s r (some [v]) = ret1 s v r := rfl
theorem retV_2 {v' : V} {rs : List V} : retV s (.t rs) (some (v :: v' :: vs)) = retNV s (v :: v' :: vs) rs := rfl
theorem retNV_nil : retNV s [] [] = True := rfl
theorem retNV_cons {rs : List V} : retNV s (v :: vs) (r :: rs) = ((match r with | .o _ _ _ => False | r => ret1 s v r) ∧ retNV s vs rs) := rfl
end
theorem mkcQ {P : Program} {J : World → Prop} (hfol : P.follows .mixedOrders = true) (hJs : ∀ w e w', J w → BelE w e w' → J w') {f : FuncId} {fn : Func} {c : Code} {args : List V} {r : V} (hf : P.funcs[f]? = some fn) (ac : AC) (rs : List RS)
    (k : vm (AFun P J) (XFun P) [.c ac] (fun e s => match e with | .normal => retC s rs r | .ret => retC s rs r | .exit _ => False) (initS args))
    (hb : fn.body = some c := by rfl) (hc : cCode P fn.ntmps c = some ac := by kernel_rfl) (hts : cRS P fn.results.toList = some rs := by kernel_rfl) (hn' : Nat.ble args.length fn.ntmps = true := by rfl) (hmu : r.isMu = false := by rfl) : AFun P J f args r :=
  AFun.mkc hfol hJs hf hb hc hts hn' hmu (vm_start k)
end Go.Proofs.Yteaiegppmbcibaa.Ab
