/-
  surdtop.SurdThrough: the points that are chosen; the law's walk.
-/
import Derived.Test.YtbkpaeejjepnpaaGreatVP4
namespace Go.Proofs.YtbkpaeejjepnpaaGreat
open Go Go.RowKit Ab
set_option linter.unusedSimpArgs false
set_option linter.unusedVariables false
set_option maxHeartbeats 10000000
theorem bz_VP5 : type_of% (And.intro @W_len (And.intro @D_len (And.intro @Nat.div_one (And.intro @Nat.mul_one (And.intro @tn_nat (And.intro @W_nf (And.intro @D_nf (And.intro @W_nil (And.intro @D_nil (And.intro @wi (And.intro @nf_g (And.intro @Bool.false_and (And.intro @W_cell (@RC_nf)))))))))))))) := And.intro @W_len (And.intro @D_len (And.intro @Nat.div_one (And.intro @Nat.mul_one (And.intro @tn_nat (And.intro @W_nf (And.intro @D_nf (And.intro @W_nil (And.intro @D_nil (And.intro @wi (And.intro @nf_g (And.intro @Bool.false_and (And.intro @W_cell (@RC_nf)))))))))))))
def frs (acc : R3) (x : Bool × List Nat × List Nat) (j : Nat) : Bool := (acc.take j).all fun y => decide (qvp x ≠ qvp y)
def pst (n : Nat) (acc : R3) (x : Bool × List Nat × List Nat) : R3 := if frs acc x acc.length = true ∧ acc.length < n then acc ++ [x] else acc
def ptF (xs : R3) (n : Nat) : Nat → R3
  | 0 => []
  | i + 1 => pst n (ptF xs n i) (xs.getD i nul3)
theorem frs_succ {acc : R3} {x : Bool × List Nat × List Nat} {j : Nat} (h : j < acc.length) : frs acc x (j + 1) = (frs acc x j && decide (qvp x ≠ qvp (acc.getD j nul3))) := by
  unfold frs
  rw [List.take_succ_eq_append_getElem h, List.all_append, List.getD_eq_getElem?_getD, List.getElem?_eq_getElem h]
  simp
structure Pt (xs : R3) (n m i : Nat) (acc : R3) : Prop where
  ln : acc.length ≤ n
  wt : wt acc ≤ wt xs
  qk : Qk acc m
  ds : ∀ a b, a < acc.length → b < a → (qcs acc).getD a 0 ≠ (qcs acc).getD b 0
theorem ptF_wt (xs : R3) (n : Nat) : ∀ i, i ≤ xs.length → wt (ptF xs n i) ≤ wt (xs.take i)
  | 0, _ => by simp [ptF, wt]
  | i + 1, h => by
    have ih := ptF_wt xs n i (by omega)
    rw [List.take_succ_eq_append_getElem (by omega), wt_snoc]
    have e : xs.getD i nul3 = xs[i] := by rw [List.getD_eq_getElem?_getD, List.getElem?_eq_getElem (by omega)]; rfl
    unfold ptF pst
    split
    · rw [wt_snoc, e]; omega
    · omega
theorem ptF_ok {xs : R3} {n m : Nat} (hx : Qk xs m) : ∀ i, i ≤ xs.length → (ptF xs n i).length ≤ n ∧ Qk (ptF xs n i) m ∧ ∀ a b, a < (ptF xs n i).length → b < a → (qcs (ptF xs n i)).getD a 0 ≠ (qcs (ptF xs n i)).getD b 0
  | 0, _ => ⟨Nat.zero_le _, (fun p (hp : p ∈ ([] : R3)) => by cases hp), fun a b (h : a < 0) => absurd h (by omega)⟩
  | i + 1, h => by
    obtain ⟨h1, h2, h3⟩ := ptF_ok hx i (by omega)
    have hm := hx _ (getD_mem (l := xs) (i := i) (by omega))
    show (pst n (ptF xs n i) (xs.getD i nul3)).length ≤ n ∧ Qk (pst n (ptF xs n i) (xs.getD i nul3)) m ∧ ∀ a b, a < (pst n (ptF xs n i) (xs.getD i nul3)).length → b < a → (qcs (pst n (ptF xs n i) (xs.getD i nul3))).getD a 0 ≠ (qcs (pst n (ptF xs n i) (xs.getD i nul3))).getD b 0
    generalize xs.getD i nul3 = x at *
    generalize ptF xs n i = acc at *
    unfold pst
    split
    · rename_i hc
      refine ⟨by rw [List.length_append, List.length_singleton]; omega, fun p hp => ?_, fun a b ha hb => ?_⟩
      · rcases List.mem_append.1 hp with hp | hp
        · exact h2 p hp
        · rcases List.mem_singleton.1 hp with rfl
          exact hm
      · have ql : ∀ u, (qcs (acc ++ [x])).getD u 0 = if u < acc.length then (qcs acc).getD u 0 else (if u = acc.length then qvp x else 0) := fun u => by
          unfold qcs
          rw [List.map_append, List.getD_eq_getElem?_getD]
          by_cases hu : u < acc.length
          · rw [List.getElem?_append_left (by simpa using hu), if_pos hu, List.getD_eq_getElem?_getD]
          · rw [List.getElem?_append_right (by simpa using hu), if_neg hu, List.length_map]
            by_cases hu2 : u = acc.length
            · rw [if_pos hu2, hu2, Nat.sub_self]; rfl
            · rw [if_neg hu2, List.getElem?_eq_none (by simp; omega)]; rfl
        rw [List.length_append, List.length_singleton] at ha
        rw [ql, ql, if_pos (show b < acc.length by omega)]
        by_cases hu : a < acc.length
        · rw [if_pos hu]; exact h3 a b hu hb
        · rw [if_neg hu, if_pos (by omega)]
          have h4 := hc.1
          unfold frs at h4
          rw [List.take_length] at h4
          have h5 := List.all_eq_true.1 h4 (acc.getD b nul3) (getD_mem (by omega))
          rw [qcs_get acc b (by omega)]
          simpa using h5
    · exact ⟨h1, h2, h3⟩
theorem cq_0 (p q : Rat) : cq p q = 0 ↔ p = q := by
  unfold cq
  split
  · rename_i h
    exact ⟨fun h' => absurd h' (by decide), fun h' => by rw [h'] at h; exact absurd h (Rat.lt_irrefl)⟩
  · split
    · rename_i h; exact ⟨fun _ => h, fun _ => rfl⟩
    · rename_i h; exact ⟨fun h' => absurd h' (by decide), fun h' => absurd h' h⟩
theorem twholem2 : AFun Tryz.prog J0 5 [.i .i64 (-2)] (.g [.b true, .l 1 [.i .u64 2]]) := by
  refine mkcQ fol J0s Tryz.func5 a5 [.c 2 true 2] ?_
  unfold a5
  simp only [init_eq, initE, qm, qr, qn]
  refine spQ @bz_VP5 ?_
  simp (disch := (first | omega | assumption)) only [retC, rsVs_nil, rsVs_cons, rsV_t, rsV_c, rsp_pt, rsq_t, rsq_f, ocons_ss, retV_1, retV_2, retNV_nil, retNV_cons, retOk, retN, ret1, retF, ret1F, V.okArg, and_true, true_and, S1, ↓reduceIte, Nat.reduceEqDiff, Nat.reduceAdd, Nat.reduceMul, Nat.reduceDiv, AOp.sb, AOp.mut, frzf, ↓Bool.false_eq_true, beq_self_eq_true, ite_self, Nat.reduceLeDiff, Int.reduceEq, Int.reduceSub, Int.reduceAdd, Int.reduceNeg, Int.reduceLT, Int.reduceLE, Nat.reduceLT, bz_VP5, show IntKind.u64.wrap 2 = 2 from rfl]
theorem thr_fin {k : R3} {Q0 : List Rat} {G M0 n m wl wa d X mm : Nat} {z : Rat} (hmm : mm = 26 * 1048576 + 10) (hz : Sx' z d X) (hk : Qk k m) (hkn : k.length = n) (hn : n ≤ 12) (hQl : Q0.length = n) (hQ : PB Q0 G M0) (hdis : ∀ i j, i < n → j < i → (qcs k).getD i 0 ≠ (qcs k).getD j 0)
    (hG : G ≤ B ^ wl) (hM : M0 ≤ B ^ wl) (hX : X ≤ B ^ wa) (hT : wl + wt k + wa ≤ 1048576) :
    val (thS (qcs k) Q0 n).1 z = val Q0 z ∧ Hz (thS (qcs k) Q0 n).1 z mm ∧ Cq (thS (qcs k) Q0 n).1 mm ∧ (thS (qcs k) Q0 n).1.length ≤ n := by
  have h := thS_Nw hk hkn hn hQl hQ hdis n (Nat.le_refl _)
  have hY := YY_le k n (by omega)
  have hP := Nat.le_trans (PP_le hk n (by omega)).1 hY
  have hd := Nat.le_trans hz.dX hX
  have bS : n * M0 * 24 ^ n * YY k n ^ 13 ≤ B ^ (1 + wl + 13 * wt k) := by
    have := B_mul (B_mul (c24 hn) hM) (B_pow hY 13)
    rwa [show n * 24 ^ n * M0 * YY k n ^ 13 = n * M0 * 24 ^ n * YY k n ^ 13 from by rw [Nat.mul_right_comm n]] at this
  have eS : G * PP k n ^ 13 ≤ B ^ (wl + 13 * wt k) := B_mul hG (B_pow hP 13)
  have hQn : (thS (qcs k) Q0 n).2.2 = [] := List.eq_nil_of_length_eq_zero (by have := h.lQ; omega)
  refine ⟨?_, Hz_of hz h.hS (by have := h.lS; omega) (B_lt (B_mul eS (B_pow hd 13)) (by omega)) (B_lt (B_mul (B_mul c12' bS) (B_pow hX 13)) (by omega)), fun i => Fq_Sz h.hS.1 (h.hS.2 i) (B_lt eS (by omega)) (B_lt bS (by omega)), h.lS⟩
  rw [h.hv z, hQn, show val [] z = 0 from rfl]; grind
theorem thr_calls {l k : R3} {s : Bool} {a d : List Nat} {n m : Nat} (hm : m ≤ 1048577) (kl : Qk l m) (hk : Qk k m) (hln : l.length = n) (hkn : k.length = n) (hn : n ≤ 12) (hdis : ∀ i j, i < n → j < i → (qcs k).getD i 0 ≠ (qcs k).getD j 0)
    (ha : Wd a) (hd : Wd d) (h0 : nv B d ≠ 0) (hT : wt l + wt k + (a.length + d.length) ≤ 1048576) :
    ∃ (ys S : List Rat) (v : Rat), ys.length = n ∧ S.length ≤ n ∧
      (∀ j, j < n → AFun Tryz.prog J0 29 [.l 3 (RC l), rL (k.getD j nul3).1 (k.getD j nul3).2.1 (k.getD j nul3).2.2] (.t [rN (ys.getD j 0).num (ys.getD j 0).den, .i .i64 0])) ∧
      AFun Tryz.prog J0 30 [.l 3 (RC k), .l 3 (RC (nfq ys))] (.t [.l 3 (RC (nfq S)), .i .i64 0]) ∧
      AFun Tryz.prog J0 8 [.l 3 (RC (nfq S))] (.l 3 (RC (nfq S))) ∧
      AFun Tryz.prog J0 29 [.l 3 (RC (nfq S)), rL s a d] (.t [rN v.num v.den, .i .i64 0]) ∧
      AFun Tryz.prog J0 29 [.l 3 (RC l), rL s a d] (.t [rN v.num v.den, .i .i64 0]) ∧
      AFun Tryz.prog J0 25 [rN v.num v.den, rN v.num v.den] (.b true) := by
  obtain ⟨y1, y2, y3⟩ := raw_PB kl
  have hQ : PB (qcs l) (DD l) (B ^ wt l) := ⟨y1, y3⟩
  have hQl : (qcs l).length = n := by rw [qcs_len]; exact hln
  have hz := raw_Sx s ha hd h0
  obtain ⟨mm, hmm⟩ : ∃ mm, mm = 26 * 1048576 + 10 := ⟨_, rfl⟩
  obtain ⟨f1, f2, f3, f4⟩ := thr_fin hmm hz hk hkn hn hQl hQ hdis y2 (Nat.le_refl _) (Nat.le_refl _) hT
  have hmb : mm ≤ 48000000 := by omega
  have hzl : ∀ {x : Rat} {e X w : Nat}, Sx' x e X → X ≤ B ^ w → wt l + w ≤ 1048576 → Hz (qcs l) x mm := fun hx hX hw => by
    have hd := Nat.le_trans hx.dX hX
    exact Hz_of hx hQ (by omega) (B_lt (B_mul y2 (B_pow hd 13)) (by omega)) (B_lt (B_mul (B_mul c12' (Nat.le_refl (B ^ wt l))) (B_pow hX 13)) (by omega))
  have hzp : ∀ j, j < n → Hz (qcs l) ((qcs k).getD j 0) mm ∧ AFun Tryz.prog J0 29 [.l 3 (RC l), rL (k.getD j nul3).1 (k.getD j nul3).2.1 (k.getD j nul3).2.2] (.t [rN (val (qcs l) ((qcs k).getD j 0)).num (val (qcs l) ((qcs k).getD j 0)).den, .i .i64 0]) := fun j hj => by
    obtain ⟨w1, w2, l1, l2, h0⟩ := hk _ (getD_mem (l := k) (i := j) (by omega))
    have hx := raw_Sx (k.getD j nul3).1 w1 w2 h0
    have hxe : (qcs k).getD j 0 = mkRat (zv (k.getD j nul3).1 (k.getD j nul3).2.1) (nv B (k.getD j nul3).2.2) := qcs_get k j (by omega)
    rw [hxe]
    have hw := wt_one (k := k) (i := j) (by omega)
    have h := hzl hx (B_le hw) (by omega)
    exact ⟨h, eat_spec l _ _ _ mm hmb (by omega) (Qk_up kl (by omega)) w1 w2 (by omega) (by omega) h0 h⟩
  have hyg : ∀ j, j < n → ((qcs k).map (val (qcs l))).getD j 0 = val (qcs l) ((qcs k).getD j 0) := fun j hj => by
    have : j < (qcs k).length := by rw [qcs_len]; omega
    simp [List.getD_eq_getElem?_getD, this]
  have hyl : ((qcs k).map (val (qcs l))).length = n := by rw [List.length_map, qcs_len]; exact hkn
  have hyz : ∀ M9, mm ≤ M9 → Cq ((qcs k).map (val (qcs l))) M9 := fun M9 h9 j => by
    by_cases hj : j < n
    · rw [hyg j hj]
      have h := ((hzp j hj).1 0).1
      rw [List.drop_zero] at h
      exact ⟨pup h.1 h9, pup h.2 h9⟩
    · rw [List.getD_eq_getElem?_getD, List.getElem?_eq_none (by omega)]
      exact ⟨Nat.pow_pos B0, Nat.one_lt_pow (by omega) (by decide)⟩
  have g1 := through_spec k (qcs l) (DD l) (B ^ wt l) n m (wt l) 1048576 hm hk hkn hn hQl hQ hdis y2 (Nat.le_refl _) (by omega) rfl _ rfl (hyz 48000000 hmb)
  have g3 := eat_spec (nfq (thS (qcs k) (qcs l) n).1) s a d mm hmb (by rw [nfq_len]; omega) (Qk_nfq f3) ha hd (by omega) (by omega) h0 (by rw [qcs_nfq]; exact f2)
  have h4 := hzl hz (Nat.le_refl _) (by omega)
  have g4 := eat_spec l s a d mm hmb (by omega) (Qk_up kl (by omega)) ha hd (by omega) (by omega) h0 h4
  have h5 := (h4 0).1
  rw [List.drop_zero] at h5
  rw [qcs_nfq, f1] at g3
  have g5 := tsameR_spec (decide ((val (qcs l) (mkRat (zv s a) (nv B d))).num < 0)) (dg B (val (qcs l) (mkRat (zv s a) (nv B d))).num.natAbs) (dg B (val (qcs l) (mkRat (zv s a) (nv B d))).den) (by have := dlen h5.1; omega) (by have := dlen h5.2; omega)
  exact ⟨_, _, _, hyl, f4, (fun j hj => by rw [hyg j hj]; exact (hzp j hj).2), g1, tcopyP_spec _ mm (by omega) (by rw [nfq_len]; omega) (Qk_Ql (Qk_nfq f3)), g3, g4, g5⟩
end Go.Proofs.YtbkpaeejjepnpaaGreat
