/-
  zpoly: sizes, forms, sums, products.
-/
import Derived.Test.YtihcbbkiifglmaaT0
import Derived.Test.YtihcbbkiifglmaaZ2
import Derived.Test.YtihcbbkiifglmaaZ7
import Derived.Test.YtihcbbkiifglmaaZC
namespace Go.Proofs.Ytihcbbkiifglmaa
open Go Go.RowKit Ab
set_option linter.unusedSimpArgs false
set_option linter.unusedVariables false
set_option maxHeartbeats 10000000
theorem bz_T1 : type_of% (And.intro @W_len (And.intro @D_len (And.intro @Nat.div_one (And.intro @Nat.mul_one (And.intro @tn_nat (And.intro @W_nf (And.intro @D_nf (And.intro @W_nil (And.intro @D_nil (And.intro @wi (And.intro @nf_g (And.intro @Bool.false_and (And.intro @W_cell (And.intro @ZC_cell (@ZC_nil))))))))))))))) := And.intro @W_len (And.intro @D_len (And.intro @Nat.div_one (And.intro @Nat.mul_one (And.intro @tn_nat (And.intro @W_nf (And.intro @D_nf (And.intro @W_nil (And.intro @D_nil (And.intro @wi (And.intro @nf_g (And.intro @Bool.false_and (And.intro @W_cell (And.intro @ZC_cell (@ZC_nil))))))))))))))

/-- the words of all coefficients -/
def Zk (l : List (Bool × List Nat)) (m : Nat) : Prop := ∀ p, p ∈ l → Wd p.2 ∧ p.2.length ≤ m
/-- coefficients of so many words -/
def Cz (l : List Int) (m : Nat) : Prop := ∀ i, (l.getD i 0).natAbs < B ^ m
def zcs (l : List (Bool × List Nat)) : List Int := l.map zvp
theorem zcs_len (l : List (Bool × List Nat)) : (zcs l).length = l.length := by simp [zcs]
theorem zvp0 : zvp (false, []) = 0 := rfl
theorem zcs_get (l : List (Bool × List Nat)) (i : Nat) : (zcs l).getD i 0 = zvp (l.getD i (false, [])) := by
  by_cases h : i < l.length
  · simp [zcs, List.getD_eq_getElem?_getD, h]
  · rw [gD0 (by rw [zcs_len]; omega), List.getD_eq_getElem?_getD, List.getElem?_eq_none (by omega)]; rfl
theorem getD_mem {l : List (Bool × List Nat)} {i : Nat} (h : i < l.length) : l.getD i (false, []) ∈ l := by
  rw [List.getD_eq_getElem?_getD, List.getElem?_eq_getElem h]; exact List.getElem_mem h
theorem Zk_get {l : List (Bool × List Nat)} {m : Nat} (h : Zk l m) (i : Nat) : Wd (l.getD i (false, [])).2 ∧ (l.getD i (false, [])).2.length ≤ m := by
  by_cases hi : i < l.length
  · exact h _ (getD_mem hi)
  · rw [List.getD_eq_getElem?_getD, List.getElem?_eq_none (by omega)]; exact ⟨Wd_nil, Nat.zero_le _⟩
theorem Zk_Cz {l : List (Bool × List Nat)} {m : Nat} (h : Zk l m) : Cz (zcs l) m := fun i => by
  obtain ⟨h1, h2⟩ := Zk_get h i
  rw [zcs_get]
  exact zv_lt h1 h2
theorem sgz_z (z : Int) : (sgz z = 0) = (z = 0) := by unfold sgz; split; (exact propext ⟨fun h => absurd h (by decide), fun h => by omega⟩); split; (exact propext ⟨fun h => absurd h (by decide), fun h => by omega⟩); exact propext ⟨fun _ => by omega, fun _ => rfl⟩
theorem sgz_ng (z : Int) : (sgz z < 0) = (z < 0) := by
  unfold sgz; split
  · rename_i h; exact propext ⟨fun _ => h, fun _ => by decide⟩
  · rename_i h; split <;> exact propext ⟨fun h' => absurd h' (by decide), fun h' => absurd h' h⟩
/-- a polynomial in its own form -/
def nfl (cs : List Int) : List (Bool × List Nat) := cs.map nfp
theorem nfl_len (cs : List Int) : (nfl cs).length = cs.length := by simp [nfl]
theorem nfl_get (cs : List Int) (i : Nat) (h : i < cs.length) : (nfl cs).getD i (false, []) = nfp (cs.getD i 0) := by
  simp [nfl, List.getD_eq_getElem?_getD, h]
theorem zcs_nfl (cs : List Int) : zcs (nfl cs) = cs := by
  unfold zcs nfl
  rw [List.map_map]
  have : zvp ∘ nfp = id := funext zvp_nfp
  rw [this, List.map_id]
theorem Zk_nfl {cs : List Int} {m : Nat} (h : Cz cs m) : Zk (nfl cs) m := fun p hp => by
  obtain ⟨c, hc, rfl⟩ := List.mem_map.1 hp
  obtain ⟨i, hi, rfl⟩ := List.getElem_of_mem hc
  have := h i
  rw [List.getD_eq_getElem?_getD, List.getElem?_eq_getElem hi] at this
  exact ⟨Wd_dg _, dlen this⟩
theorem Cz_tzi {l : List Int} {m : Nat} (h : Cz l m) : Cz (tzi l) m := fun i => by rw [tzi_cf]; exact h i
theorem Cz_up {l : List Int} {m n : Nat} (h : Cz l m) (hn : m ≤ n) : Cz l n := fun i => pup (h i) hn
theorem Cz_addl {a b : List Int} {m : Nat} (ha : Cz a m) (hb : Cz b m) : Cz (addl a b) (m + 1) := fun i => by
  rw [addl_get]
  have := padd (ha i) (hb i)
  exact Nat.lt_of_le_of_lt (Int.natAbs_add_le _ _) this
theorem pmul {u v j k : Nat} (h : u < B ^ j) (h' : v < B ^ k) : u * v < B ^ (j + k) := by
  rw [Nat.pow_add]
  exact Nat.mul_lt_mul'' h h'
theorem Cz_map {l : List Int} {z : Int} {m k : Nat} (h : Cz l m) (hz : z.natAbs < B ^ k) : Cz (l.map fun c => c * z) (m + k) := fun i => by
  rw [getD_map0 _ _ (by simp), Int.natAbs_mul]
  exact pmul (h i) hz
theorem Cz_mulF {a b : List Int} {n m i : Nat} (ha : Cz a m) (hb : Cz b m) (hi : i ≤ 1000) : Cz (mulF a b n i) (2 * m + 1) := fun k => by
  have h := mulF_Cb (n := n) (m := B ^ m) (fun i => Nat.le_of_lt (ha i)) (fun i => Nat.le_of_lt (hb i)) i k
  refine Nat.lt_of_le_of_lt h ?_
  rw [← Nat.pow_add, show m + m = 2 * m from by omega, Nat.pow_succ, Nat.mul_comm i]
  have hp : 0 < B ^ (2 * m) := Nat.pow_pos B0
  exact Nat.mul_lt_mul_of_pos_left (Nat.lt_of_le_of_lt hi (by decide)) hp
theorem Cz_mull {a b : List Int} {m : Nat} (ha : Cz a m) (hb : Cz b m) (la : a.length ≤ 1000) : Cz (mull a b) (2 * m + 1) := by
  unfold mull
  split
  · exact fun i => by simp; exact Nat.pow_pos B0
  · exact Cz_tzi (Cz_mulF ha hb la)
theorem zmulN {x y : Int} {m : Nat} (hx : x.natAbs < B ^ m) (hy : y.natAbs < B ^ m) (hm : m ≤ 100000000) : AFun Try.prog J0 19 [zN x, zN y] (zN (x * y)) := by
  have := zmul_spec (decide (x < 0)) (decide (y < 0)) (dg B x.natAbs) (dg B y.natAbs) (Wd_dg _) (Wd_dg _) (Nat.le_trans (dlen hx) hm) (Nat.le_trans (dlen hy) hm)
  rwa [zv_N, zv_N] at this
/-! ### rows that are filled -/
theorem ZC_set : ∀ (l : List (Bool × List Nat)) (i : Nat) (s : Bool) (a : List Nat), ((ZC l).set (i * 2) (.b s)).set (i * 2 + 1) (.l 1 (W a)) = ZC (l.set i (s, a))
  | [], i, s, a => by simp [ZC]
  | p :: r, 0, s, a => rfl
  | p :: r, i + 1, s, a => by
    have := ZC_set r i s a
    rw [show (i + 1) * 2 = (i * 2 + 1) + 1 from by omega]
    simp only [ZC, List.set_cons_succ, this]
theorem nfl_set (l : List Int) (i : Nat) (c : Int) : (nfl l).set i (nfp c) = nfl (l.set i c) := by unfold nfl; rw [List.map_set]
theorem ZN_set (l : List Int) (i : Nat) (c : Int) : ((ZC (nfl l)).set (i * 2) (.b (decide (c < 0)))).set (i * 2 + 1) (.l 1 (W (dg B c.natAbs))) = ZC (nfl (l.set i c)) := by rw [ZC_set]; show ZC ((nfl l).set i (nfp c)) = _; rw [nfl_set]
theorem mk_ZC (n : Nat) : (List.replicate n [V.b false, V.l 1 []]).flatten = ZC (nfl (List.replicate n 0)) := by
  induction n with
  | zero => rfl
  | succ n ih => rw [List.replicate_succ, List.flatten_cons, ih, List.replicate_succ]; rfl
theorem zN_00 : zN 0 = .g [.b false, .l 1 []] := by show V.g [.b (decide ((0 : Int) < 0)), .l 1 (W (dg B 0))] = _; rw [dg_zero]; rfl
theorem ZN_row (l : List Int) (i : Nat) (h : i < l.length) : ((ZC (nfl l)).drop (i * 2)).take 2 = [.b (decide (l.getD i 0 < 0)), .l 1 (W (dg B (l.getD i 0).natAbs))] := by
  obtain ⟨r1, _⟩ := ZC_row (nfl l) i (by rw [nfl_len]; exact h)
  rw [nfl_get l i h] at r1
  exact r1
theorem ZN_len (l : List Int) : (ZC (nfl l)).length = l.length * 2 := by rw [ZC_len, nfl_len]
/-- filled so far -/
def fll (R : List Int) (i : Nat) : List Int := R.take i ++ List.replicate (R.length - i) 0
theorem fll_len (R : List Int) (i : Nat) (h : i ≤ R.length) : (fll R i).length = R.length := by unfold fll; rw [List.length_append, List.length_take, List.length_replicate]; omega
theorem fll_0 (R : List Int) : fll R 0 = List.replicate R.length 0 := by simp [fll]
theorem fll_all (R : List Int) : fll R R.length = R := by simp [fll]
theorem fll_set (R : List Int) (i : Nat) (h : i < R.length) : (fll R i).set i (R.getD i 0) = fll R (i + 1) := by
  unfold fll
  rw [show R.length - i = (R.length - (i + 1)) + 1 from by omega, List.replicate_succ, List.set_append_right _ _ (by rw [List.length_take]; omega), List.length_take, show i - min i R.length = 0 from by omega, List.set_cons_zero, take_snoc' R i h, List.append_assoc]; rfl
/-! ### zpoly -/
-- surd/zpoly.size
def a24 : AC := .seq (.reg [⟨some 2, none, .mv (.k (.i .i64 0))⟩])
  (.seq (.reg [⟨some 4, none, .mv (.t 0)⟩, 
      ⟨some 5, none, .len (.t 4)⟩, 
      ⟨some 3, none, .mv (.t 5)⟩])
  (.seq (.blk 0
    (.loop
      (.seq (.seq (.reg [⟨some 6, none, .mv (.t 3)⟩, 
              ⟨some 7, none, .bin .gtr (.t 6) (.k (.i .i64 0))⟩, 
              ⟨some 8, none, .mv (.t 7)⟩, 
              ⟨some 9, some (8, true), .mv (.t 0)⟩, 
              ⟨some 10, some (8, true), .mv (.t 3)⟩, 
              ⟨some 11, some (8, true), .bin .sub (.t 10) (.k (.i .i64 1))⟩, 
              ⟨some 12, some (8, true), .idx 2 (.t 9) (.t 11)⟩, 
              ⟨some 13, some (8, true), .ld true 2 (.t 12)⟩, 
              ⟨some 14, some (8, true), .call 28 [(1, (.t 13))]⟩, 
              ⟨some 15, some (8, true), .bin .eql (.t 14) (.k (.i .i64 0))⟩, 
              ⟨some 16, none, .pick (.t 8) (.t 15) (.k (.b false))⟩])
          (.cond (.t 16)
          (.skip)
          (.exit 0)))
        (.blk 1
        (.reg [⟨some 17, none, .mv (.t 3)⟩, 
            ⟨some 18, none, .bin .sub (.t 17) (.k (.i .i64 1))⟩, 
            ⟨some 3, none, .mv (.t 18)⟩])))))
  (.seq (.reg [⟨some 19, none, .mv (.t 3)⟩, 
      ⟨some 2, none, .mv (.t 19)⟩])
  (.ret))))
theorem zsize_spec (l : List (Bool × List Nat)) (m : Nat) (hm : m ≤ 100000000) (ll : l.length ≤ 1000000) (hp : Zk l m) : AFun Try.prog J0 24 [.l 2 (ZC l)] (.i .i64 (((tzi (zcs l)).length : Nat) : Int)) := by
  have hlen : (ZC l).length / 2 = l.length := by rw [ZC_len]; omega
  have hz := ZC_len l
  have hcl := zcs_len l
  obtain ⟨r, hr0⟩ : ∃ r, r = (tzi (zcs l)).length := ⟨_, rfl⟩
  rw [← hr0]
  refine AFun.mk fol J0s Try.func24 rfl (ac := a24) (by kernel_rfl) rfl rfl rfl ?_
  apply vm_start
  unfold a24
  simp only [init_eq, initE]
  repeat first
    | (refine hK _ ?_; clear hK K)
    | ((first | refine vm_reg (fun K hK => ?_) | refine vm_dreg (fun K hK => ?_) | refine vm_dregx (fun K hK => ?_)); simp (disch := (first | omega | assumption)) only [S1, ↓reduceIte, Nat.reduceEqDiff, Nat.reduceAdd, Nat.reduceMul, Nat.reduceDiv, AOp.sb, AOp.mut, ↓Bool.false_eq_true, beq_self_eq_true, ite_self, Nat.reduceLeDiff, Int.reduceEq, Int.reduceSub, Int.reduceAdd, Int.reduceNeg, Int.reduceLT, Int.reduceLE, Nat.reduceLT, bz_T1, hlen]; refine hK _ ?_; clear hK K)
    | simp only [Sv, ↓reduceIte, Nat.reduceEqDiff]
  refine vm_loopA [] Nat (fun n => ⟨[(0, .l 2 (ZC l)), (3, .i .i64 (n : Int))], [], 0⟩) (fun n => n ≤ l.length ∧ tzi (zcs l) = tzi ((zcs l).take n)) (fun n => n) l.length ⟨by omega, by rw [← hcl, List.take_length]⟩ (by simp (disch := (first | omega | assumption)) only [Sl, Sa, Sw, ↓reduceIte, Nat.reduceEqDiff, Nat.reduceLT, List.all_nil, List.all_cons, Nat.reduceBneDiff, Nat.reduceAdd, bne_iff_ne, ne_eq, reduceCtorEq, not_false_eq_true, not_true_eq_false, Bool.and_true, Bool.true_and, and_true, true_and, and_self]) (by
    simp (disch := (first | omega | assumption)) only [Sl, Sa, Sw, ↓reduceIte, Nat.reduceEqDiff, Nat.reduceLT, List.all_nil, List.all_cons, Nat.reduceBneDiff, Nat.reduceAdd, bne_iff_ne, ne_eq, reduceCtorEq, not_false_eq_true, not_true_eq_false, Bool.and_true, Bool.true_and, and_true, true_and, and_self, i_eq]
    repeat' first | rfl | omega | (simp only [List.length_append, List.length_cons, List.length_nil]; done) | apply And.intro) ?_
  intro n ⟨hn, ht⟩ Q' hQ he hr
  by_cases h0 : 0 < (n : Int)
  · obtain ⟨k, rfl⟩ : ∃ k, n = k + 1 := ⟨n - 1, by omega⟩
    have hk : k < l.length := by omega
    obtain ⟨r1, r2⟩ := ZC_row l k hk
    obtain ⟨wa, la⟩ := hp _ (getD_mem hk)
    have hs := zsign_spec (l.getD k (false, [])).1 (l.getD k (false, [])).2 wa (by omega)
    have hg := zcs_get l k
    have hsz := sgz_z (zvp (l.getD k (false, [])))
    rw [← hg] at hsz
    rw [show zv (l.getD k (false, [])).1 (l.getD k (false, [])).2 = zvp (l.getD k (false, [])) from rfl, ← hg] at hs
    generalize l.getD k (false, []) = p at *
    by_cases h1 : (zcs l).getD k 0 = 0
    · have hx : (sgz ((zcs l).getD k 0) = 0) := hsz.mpr h1
      have zc1 := hs
      repeat first | (refine hK _ ?_; clear hK K) | simp only [Sv, ↓reduceIte, Nat.reduceEqDiff] | ((first | refine vm_reg (fun K hK => ?_) | refine vm_dreg (fun K hK => ?_) | refine vm_dregx (fun K hK => ?_) | refine clp_q ?_ | refine clq_mk (by assumption) ?_ | refine mcq_q ?_ | (apply mcr_mk; assumption)); simp (disch := (first | omega | assumption)) only [S1, ↓reduceIte, Nat.reduceEqDiff, Nat.reduceAdd, Nat.reduceMul, Nat.reduceDiv, AOp.sb, AOp.mut, ↓Bool.false_eq_true, beq_self_eq_true, ite_self, Nat.reduceLeDiff, Int.reduceEq, Int.reduceSub, Int.reduceAdd, Int.reduceNeg, Int.reduceLT, Int.reduceLE, Nat.reduceLT, bz_T1, h0, tn_sub1, Nat.add_sub_cancel, hz, r1, hx])
      refine hQ _ k ⟨by omega, ?_⟩ (by omega) ?_
      · rw [ht]; exact tzi_zero _ k (by omega) h1
      · simp (disch := (first | omega | assumption)) only [Sl, Sa, Sw, ↓reduceIte, Nat.reduceEqDiff, Nat.reduceLT, List.all_nil, List.all_cons, Nat.reduceBneDiff, Nat.reduceAdd, bne_iff_ne, ne_eq, reduceCtorEq, not_false_eq_true, not_true_eq_false, Bool.and_true, Bool.true_and, and_true, true_and, and_self, i_eq]
        try omega
    · have hx : ¬ (sgz ((zcs l).getD k 0) = 0) := fun h => h1 (hsz.mp h)
      have e : r = k + 1 := by
        rw [hr0, ht, tzi_top _ k (by omega) h1, List.length_take, Nat.min_eq_left (by omega)]
      have zc2 := hs
      repeat first | (refine hK _ ?_; clear hK K) | simp only [Sv, ↓reduceIte, Nat.reduceEqDiff] | ((first | refine vm_reg (fun K hK => ?_) | refine vm_dreg (fun K hK => ?_) | refine vm_dregx (fun K hK => ?_) | refine clp_q ?_ | refine clq_mk (by assumption) ?_ | refine mcq_q ?_ | (apply mcr_mk; assumption)); simp (disch := (first | omega | assumption)) only [S1, ↓reduceIte, Nat.reduceEqDiff, Nat.reduceAdd, Nat.reduceMul, Nat.reduceDiv, AOp.sb, AOp.mut, ↓Bool.false_eq_true, beq_self_eq_true, ite_self, Nat.reduceLeDiff, Int.reduceEq, Int.reduceSub, Int.reduceAdd, Int.reduceNeg, Int.reduceLT, Int.reduceLE, Nat.reduceLT, bz_T1, h0, tn_sub1, Nat.add_sub_cancel, hz, r1, hx])
      refine he _ _ ?_
      repeat first
        | (refine hK _ ?_; clear hK K)
        | ((first | refine vm_reg (fun K hK => ?_) | refine vm_dreg (fun K hK => ?_) | refine vm_dregx (fun K hK => ?_)); simp (disch := (first | omega | assumption)) only [S1, ↓reduceIte, Nat.reduceEqDiff, Nat.reduceAdd, Nat.reduceMul, Nat.reduceDiv, AOp.sb, AOp.mut, ↓Bool.false_eq_true, beq_self_eq_true, ite_self, Nat.reduceLeDiff, Int.reduceEq, Int.reduceSub, Int.reduceAdd, Int.reduceNeg, Int.reduceLT, Int.reduceLE, Nat.reduceLT, bz_T1]; refine hK _ ?_; clear hK K)
        | simp only [Sv, ↓reduceIte, Nat.reduceEqDiff]
      simp (disch := (first | omega | assumption)) only [retOk, retN, ret1, retF, ret1F, V.okArg, and_true, true_and, S1, ↓reduceIte, Nat.reduceEqDiff, Nat.reduceAdd, Nat.reduceMul, Nat.reduceDiv, AOp.sb, AOp.mut, ↓Bool.false_eq_true, beq_self_eq_true, ite_self, Nat.reduceLeDiff, Int.reduceEq, Int.reduceSub, Int.reduceAdd, Int.reduceNeg, Int.reduceLT, Int.reduceLE, Nat.reduceLT, bz_T1, e]
  · obtain rfl : n = 0 := by omega
    have e : r = 0 := by rw [hr0, ht]; rfl
    repeat first
      | (refine hK _ ?_; clear hK K)
      | ((first | refine vm_reg (fun K hK => ?_) | refine vm_dreg (fun K hK => ?_) | refine vm_dregx (fun K hK => ?_)); simp (disch := (first | omega | assumption)) only [S1, ↓reduceIte, Nat.reduceEqDiff, Nat.reduceAdd, Nat.reduceMul, Nat.reduceDiv, AOp.sb, AOp.mut, ↓Bool.false_eq_true, beq_self_eq_true, ite_self, Nat.reduceLeDiff, Int.reduceEq, Int.reduceSub, Int.reduceAdd, Int.reduceNeg, Int.reduceLT, Int.reduceLE, Nat.reduceLT, bz_T1, h0]; refine hK _ ?_; clear hK K)
      | simp only [Sv, ↓reduceIte, Nat.reduceEqDiff]
    refine he _ _ ?_
    repeat first
      | (refine hK _ ?_; clear hK K)
      | ((first | refine vm_reg (fun K hK => ?_) | refine vm_dreg (fun K hK => ?_) | refine vm_dregx (fun K hK => ?_)); simp (disch := (first | omega | assumption)) only [S1, ↓reduceIte, Nat.reduceEqDiff, Nat.reduceAdd, Nat.reduceMul, Nat.reduceDiv, AOp.sb, AOp.mut, ↓Bool.false_eq_true, beq_self_eq_true, ite_self, Nat.reduceLeDiff, Int.reduceEq, Int.reduceSub, Int.reduceAdd, Int.reduceNeg, Int.reduceLT, Int.reduceLE, Nat.reduceLT, bz_T1]; refine hK _ ?_; clear hK K)
      | simp only [Sv, ↓reduceIte, Nat.reduceEqDiff]
    simp (disch := (first | omega | assumption)) only [retOk, retN, ret1, retF, ret1F, V.okArg, and_true, true_and, S1, ↓reduceIte, Nat.reduceEqDiff, Nat.reduceAdd, Nat.reduceMul, Nat.reduceDiv, AOp.sb, AOp.mut, ↓Bool.false_eq_true, beq_self_eq_true, ite_self, Nat.reduceLeDiff, Int.reduceEq, Int.reduceSub, Int.reduceAdd, Int.reduceNeg, Int.reduceLT, Int.reduceLE, Nat.reduceLT, bz_T1, e]
theorem zcs_take_nfp (l : List (Bool × List Nat)) (i : Nat) (h : i < l.length) : ((zcs l).take (i + 1)).map nfp = ((zcs l).take i).map nfp ++ [nfp (zvp (l.getD i (false, [])))] := by
  have h' : i < (zcs l).length := by rw [zcs_len]; exact h
  rw [List.take_succ_eq_append_getElem h', List.map_append]
  congr 1
  have := zcs_get l i
  rw [List.getD_eq_getElem?_getD, List.getElem?_eq_getElem h'] at this
  rw [← this]; rfl
-- surd/zpoly.Norm
def a10 : AC := .seq (.reg [⟨some 2, none, .mv (.k .nl)⟩])
  (.seq (.reg [⟨some 3, none, .mv (.k .nl)⟩])
  (.seq (.seq (.reg [⟨some 5, none, .mv (.t 0)⟩, 
        ⟨some 6, none, .call 24 [(2, (.t 5))]⟩, 
        ⟨some 7, none, .mv (.k (.i .i64 0))⟩])
    (.blk 0
    (.loop
      (.seq (.reg [⟨some 8, none, .bin .lss (.t 7) (.t 6)⟩])
        (.seq (.cond (.t 8)
          (.skip)
          (.exit 0))
        (.seq (.blk 1
          (.seq (.reg [⟨some 9, none, .mv (.t 7)⟩, 
                ⟨some 4, none, .mv (.t 9)⟩])
            (.reg [⟨some 10, none, .mv (.t 3)⟩, 
              ⟨some 11, none, .mv (.t 0)⟩, 
              ⟨some 12, none, .mv (.t 4)⟩, 
              ⟨some 13, none, .idx 2 (.t 11) (.t 12)⟩, 
              ⟨some 14, none, .ld true 2 (.t 13)⟩, 
              ⟨some 15, none, .call 25 [(1, (.t 14))]⟩, 
              ⟨some 16, none, .bsl 33 2 1 [(.b false), (.l 1 [])] [(0, (.t 15))]⟩, 
              ⟨some 17, none, .app 33 2 32 (.t 10) (.t 16)⟩, 
              ⟨some 3, none, .mv (.t 17)⟩])))
        (.reg [⟨some 18, none, .bin .add (.t 7) (.k (.i .i64 1))⟩, 
          ⟨some 7, none, .mv (.t 18)⟩])))))))
  (.seq (.reg [⟨some 19, none, .mv (.t 3)⟩, 
      ⟨some 2, none, .mv (.t 19)⟩])
  (.ret))))
theorem zpnorm_spec (l : List (Bool × List Nat)) (m : Nat) (hm : m ≤ 100000000) (ll : l.length ≤ 1000000) (hp : Zk l m) : AFun Try.prog J0 10 [.l 2 (ZC l)] (.o 33 2 (ZC (nfl (tzi (zcs l))))) := by
  have hsz := zsize_spec l m (by omega) ll hp
  have hz := ZC_len l
  have htl := tzi_len (zcs l)
  rw [zcs_len] at htl
  have htk := tzi_take (zcs l)
  obtain ⟨n, hn⟩ : ∃ n, n = (tzi (zcs l)).length := ⟨_, rfl⟩
  rw [← hn] at hsz htl htk
  rw [← htk]
  unfold nfl
  refine AFun.mk fol J0s Try.func10 rfl (ac := a10) (by kernel_rfl) rfl rfl rfl ?_
  apply vm_start
  unfold a10
  simp only [init_eq, initE]
  have zc3 := hsz
  repeat first | (refine hK _ ?_; clear hK K) | simp only [Sv, ↓reduceIte, Nat.reduceEqDiff] | ((first | refine vm_reg (fun K hK => ?_) | refine vm_dreg (fun K hK => ?_) | refine vm_dregx (fun K hK => ?_) | refine clp_q ?_ | refine clq_mk (by assumption) ?_ | refine mcq_q ?_ | (apply mcr_mk; assumption)); simp (disch := (first | omega | assumption)) only [S1, ↓reduceIte, Nat.reduceEqDiff, Nat.reduceAdd, Nat.reduceMul, Nat.reduceDiv, AOp.sb, AOp.mut, ↓Bool.false_eq_true, beq_self_eq_true, ite_self, Nat.reduceLeDiff, Int.reduceEq, Int.reduceSub, Int.reduceAdd, Int.reduceNeg, Int.reduceLT, Int.reduceLE, Nat.reduceLT, bz_T1])
  refine vm_loopA [(3, 33, 2)] Nat (fun i => ⟨[(0, .l 2 (ZC l)), (3, .ow 2 0 i), (6, .i .i64 (n : Int)), (7, .i .i64 (i : Int))], [(0, some ⟨33, 2, ZC (((zcs l).take i).map nfp), true, false⟩)], 1⟩)
    (fun i => i ≤ n) (fun i => n - i) 0 (Nat.zero_le _) (by simp (disch := (first | omega | assumption)) only [Sl, Sa, Sw, ↓reduceIte, Nat.reduceEqDiff, Nat.reduceLT, List.all_nil, List.all_cons, Nat.reduceBneDiff, Nat.reduceAdd, bne_iff_ne, ne_eq, reduceCtorEq, not_false_eq_true, not_true_eq_false, Bool.and_true, Bool.true_and, and_true, true_and, and_self]) (by
    simp (disch := (first | omega | assumption)) only [Sl, Sa, Sw, ↓reduceIte, Nat.reduceEqDiff, Nat.reduceLT, List.all_nil, List.all_cons, Nat.reduceBneDiff, Nat.reduceAdd, bne_iff_ne, ne_eq, reduceCtorEq, not_false_eq_true, not_true_eq_false, Bool.and_true, Bool.true_and, and_true, true_and, and_self, i_eq]
    repeat' first | rfl | omega | (simp only [List.length_append, List.length_cons, List.length_nil]; done) | apply And.intro) ?_
  intro i hi Q' hQ he hr
  by_cases h : (i : Int) < (n : Int)
  · have hk : i < l.length := by omega
    obtain ⟨r1, r2⟩ := ZC_row l i hk
    obtain ⟨wa, la⟩ := hp _ (getD_mem hk)
    have hs := znorm_spec (l.getD i (false, [])).1 (l.getD i (false, [])).2 wa (by omega)
    have hap := ZC_app1 (((zcs l).take i).map nfp) (zvp (l.getD i (false, [])))
    rw [← zcs_take_nfp l i hk] at hap
    have hlz := ZC_len (((zcs l).take (i + 1)).map nfp)
    rw [List.length_map, List.length_take, zcs_len] at hlz
    have hlz0 := ZC_len (((zcs l).take i).map nfp)
    rw [List.length_map, List.length_take, zcs_len] at hlz0
    rw [show zv (l.getD i (false, [])).1 (l.getD i (false, [])).2 = zvp (l.getD i (false, [])) from rfl] at hs
    generalize l.getD i (false, []) = p at *
    have zc4 := hs
    repeat first | (refine hK _ ?_; clear hK K) | simp only [Sv, ↓reduceIte, Nat.reduceEqDiff] | ((first | refine vm_reg (fun K hK => ?_) | refine vm_dreg (fun K hK => ?_) | refine vm_dregx (fun K hK => ?_) | refine clp_q ?_ | refine clq_mk (by assumption) ?_ | refine mcq_q ?_ | (apply mcr_mk; assumption)); simp (disch := (first | omega | assumption)) only [S1, ↓reduceIte, Nat.reduceEqDiff, Nat.reduceAdd, Nat.reduceMul, Nat.reduceDiv, AOp.sb, AOp.mut, ↓Bool.false_eq_true, beq_self_eq_true, ite_self, Nat.reduceLeDiff, Int.reduceEq, Int.reduceSub, Int.reduceAdd, Int.reduceNeg, Int.reduceLT, Int.reduceLE, Nat.reduceLT, bz_T1, h, hz, r1, hap])
    refine hQ _ (i + 1) (by omega) (by omega) ?_
    simp (disch := (first | omega | assumption)) only [Sl, Sa, Sw, ↓reduceIte, Nat.reduceEqDiff, Nat.reduceLT, List.all_nil, List.all_cons, Nat.reduceBneDiff, Nat.reduceAdd, bne_iff_ne, ne_eq, reduceCtorEq, not_false_eq_true, not_true_eq_false, Bool.and_true, Bool.true_and, and_true, true_and, and_self, i_eq]
    repeat' first | rfl | omega | (simp only [List.length_append, List.length_cons, List.length_nil]; done) | apply And.intro
  · obtain rfl : i = n := by omega
    repeat first
      | (refine hK _ ?_; clear hK K)
      | ((first | refine vm_reg (fun K hK => ?_) | refine vm_dreg (fun K hK => ?_) | refine vm_dregx (fun K hK => ?_)); simp (disch := (first | omega | assumption)) only [S1, ↓reduceIte, Nat.reduceEqDiff, Nat.reduceAdd, Nat.reduceMul, Nat.reduceDiv, AOp.sb, AOp.mut, ↓Bool.false_eq_true, beq_self_eq_true, ite_self, Nat.reduceLeDiff, Int.reduceEq, Int.reduceSub, Int.reduceAdd, Int.reduceNeg, Int.reduceLT, Int.reduceLE, Nat.reduceLT, bz_T1, h]; refine hK _ ?_; clear hK K)
      | simp only [Sv, ↓reduceIte, Nat.reduceEqDiff]
    refine he _ _ ?_
    repeat first
      | (refine hK _ ?_; clear hK K)
      | ((first | refine vm_reg (fun K hK => ?_) | refine vm_dreg (fun K hK => ?_) | refine vm_dregx (fun K hK => ?_)); simp (disch := (first | omega | assumption)) only [S1, ↓reduceIte, Nat.reduceEqDiff, Nat.reduceAdd, Nat.reduceMul, Nat.reduceDiv, AOp.sb, AOp.mut, ↓Bool.false_eq_true, beq_self_eq_true, ite_self, Nat.reduceLeDiff, Int.reduceEq, Int.reduceSub, Int.reduceAdd, Int.reduceNeg, Int.reduceLT, Int.reduceLE, Nat.reduceLT, bz_T1]; refine hK _ ?_; clear hK K)
      | simp only [Sv, ↓reduceIte, Nat.reduceEqDiff]
    simp (disch := (first | omega | assumption)) only [retOk, retN, ret1, retF, ret1F, V.okArg, and_true, true_and, S1, ↓reduceIte, Nat.reduceEqDiff, Nat.reduceAdd, Nat.reduceMul, Nat.reduceDiv, AOp.sb, AOp.mut, ↓Bool.false_eq_true, beq_self_eq_true, ite_self, Nat.reduceLeDiff, Int.reduceEq, Int.reduceSub, Int.reduceAdd, Int.reduceNeg, Int.reduceLT, Int.reduceLE, Nat.reduceLT, bz_T1]
/-- the same, of numbers -/
theorem zpnormN (cs : List Int) (m : Nat) (hm : m ≤ 100000000) (ll : cs.length ≤ 1000000) (hp : Cz cs m) : AFun Try.prog J0 10 [.l 2 (ZC (nfl cs))] (.l 2 (ZC (nfl (tzi cs)))) := by
  have := (zpnorm_spec (nfl cs) m hm (by rw [nfl_len]; exact ll) (Zk_nfl hp)).frozen
  rwa [zcs_nfl] at this
-- surd/zpoly.at
def a22 : AC := .seq (.reg [⟨some 4, none, .al 33 [(.b false), (.l 1 [])]⟩])
  (.seq (.seq (.reg [⟨some 5, none, .mv (.t 1)⟩, 
        ⟨some 6, none, .bin .lss (.t 5) (.k (.i .i64 0))⟩, 
        ⟨some 7, none, .mv (.t 6)⟩, 
        ⟨some 8, some (7, false), .mv (.t 1)⟩, 
        ⟨some 9, some (7, false), .mv (.t 0)⟩, 
        ⟨some 10, some (7, false), .len (.t 9)⟩, 
        ⟨some 11, some (7, false), .bin .geq (.t 8) (.t 10)⟩, 
        ⟨some 12, none, .pick (.t 7) (.k (.b true)) (.t 11)⟩])
    (.cond (.t 12)
    (.seq (.reg [⟨some 13, none, .bld [(.b false), (.l 1 [])] []⟩, 
          ⟨none, none, .st 2 (.t 4) (.t 13)⟩])
      (.ret))
    (.skip)))
  (.seq (.reg [⟨some 14, none, .mv (.t 0)⟩, 
      ⟨some 15, none, .mv (.t 1)⟩, 
      ⟨some 16, none, .idx 2 (.t 14) (.t 15)⟩, 
      ⟨some 17, none, .ld true 2 (.t 16)⟩, 
      ⟨none, none, .st 2 (.t 4) (.t 17)⟩])
  (.ret)))
theorem zat_spec (l : List (Bool × List Nat)) (i : Nat) : AFun Try.prog J0 22 [.l 2 (ZC l), .i .i64 (i : Int)] (zL (l.getD i (false, [])).1 (l.getD i (false, [])).2) := by
  have hl := ZC_len l
  have hd : l.length * 2 / 2 = l.length := by omega
  have h0 : ¬ (i : Int) < 0 := by omega
  by_cases h : i < l.length
  · obtain ⟨hr, _⟩ := ZC_row l i h
    have h1 : ¬ (l.length : Int) ≤ (i : Int) := by omega
    generalize l.getD i (false, []) = c at *
    refine AFun.mkc fol J0s Try.func22 rfl (ac := a22) (by kernel_rfl) (rs := [.c 4 true 2]) (by kernel_rfl) rfl rfl ?_
    apply vm_start
    unfold a22
    simp only [init_eq, initE]
    repeat first
      | (refine hK _ ?_; clear hK K)
      | ((first | refine vm_reg (fun K hK => ?_) | refine vm_dreg (fun K hK => ?_) | refine vm_dregx (fun K hK => ?_)); simp (disch := (first | omega | assumption)) only [S1, ↓reduceIte, Nat.reduceEqDiff, Nat.reduceAdd, Nat.reduceMul, Nat.reduceDiv, AOp.sb, AOp.mut, ↓Bool.false_eq_true, beq_self_eq_true, ite_self, Nat.reduceLeDiff, Int.reduceEq, Int.reduceSub, Int.reduceAdd, Int.reduceNeg, Int.reduceLT, Int.reduceLE, Nat.reduceLT, bz_T1, h0, hl, hd, h1, hr]; refine hK _ ?_; clear hK K)
      | simp only [Sv, ↓reduceIte, Nat.reduceEqDiff]
    simp (disch := (first | omega | assumption)) only [retC, rsVs_nil, rsVs_cons, rsV_t, rsV_c, rsp_pt, rsq_t, rsq_f, ocons_ss, retV_1, retV_2, retNV_nil, retNV_cons, retOk, retN, ret1, retF, ret1F, V.okArg, and_true, true_and, S1, ↓reduceIte, Nat.reduceEqDiff, Nat.reduceAdd, Nat.reduceMul, Nat.reduceDiv, AOp.sb, AOp.mut, ↓Bool.false_eq_true, beq_self_eq_true, ite_self, Nat.reduceLeDiff, Int.reduceEq, Int.reduceSub, Int.reduceAdd, Int.reduceNeg, Int.reduceLT, Int.reduceLE, Nat.reduceLT, bz_T1]
  · rw [show l.getD i (false, []) = (false, []) from by rw [List.getD_eq_getElem?_getD, List.getElem?_eq_none (by omega)]; rfl]
    show AFun _ _ _ _ (.g [.b false, .l 1 []])
    have h1 : (l.length : Int) ≤ (i : Int) := by omega
    refine AFun.mkc fol J0s Try.func22 rfl (ac := a22) (by kernel_rfl) (rs := [.c 4 true 2]) (by kernel_rfl) rfl rfl ?_
    apply vm_start
    unfold a22
    simp only [init_eq, initE]
    repeat first
      | (refine hK _ ?_; clear hK K)
      | ((first | refine vm_reg (fun K hK => ?_) | refine vm_dreg (fun K hK => ?_) | refine vm_dregx (fun K hK => ?_)); simp (disch := (first | omega | assumption)) only [S1, ↓reduceIte, Nat.reduceEqDiff, Nat.reduceAdd, Nat.reduceMul, Nat.reduceDiv, AOp.sb, AOp.mut, ↓Bool.false_eq_true, beq_self_eq_true, ite_self, Nat.reduceLeDiff, Int.reduceEq, Int.reduceSub, Int.reduceAdd, Int.reduceNeg, Int.reduceLT, Int.reduceLE, Nat.reduceLT, bz_T1, h0, hl, hd, h1]; refine hK _ ?_; clear hK K)
      | simp only [Sv, ↓reduceIte, Nat.reduceEqDiff]
    simp (disch := (first | omega | assumption)) only [retC, rsVs_nil, rsVs_cons, rsV_t, rsV_c, rsp_pt, rsq_t, rsq_f, ocons_ss, retV_1, retV_2, retNV_nil, retNV_cons, retOk, retN, ret1, retF, ret1F, V.okArg, and_true, true_and, S1, ↓reduceIte, Nat.reduceEqDiff, Nat.reduceAdd, Nat.reduceMul, Nat.reduceDiv, AOp.sb, AOp.mut, ↓Bool.false_eq_true, beq_self_eq_true, ite_self, Nat.reduceLeDiff, Int.reduceEq, Int.reduceSub, Int.reduceAdd, Int.reduceNeg, Int.reduceLT, Int.reduceLE, Nat.reduceLT, bz_T1]
-- surd/zpoly.Add
def a8 : AC := .seq (.reg [⟨some 4, none, .mv (.k .nl)⟩])
  (.seq (.reg [⟨some 7, none, .mv (.t 0)⟩, 
      ⟨some 8, none, .len (.t 7)⟩, 
      ⟨some 9, none, .mv (.t 1)⟩, 
      ⟨some 10, none, .len (.t 9)⟩, 
      ⟨some 11, none, .mm true (.t 8) (.t 10)⟩, 
      ⟨some 12, none, .mk 33 2 32 [(.b false), (.l 1 [])] (.t 11) (.t 11)⟩, 
      ⟨some 5, none, .mv (.t 12)⟩])
  (.seq (.seq (.reg [⟨some 13, none, .mv (.t 5)⟩, 
        ⟨some 14, none, .len (.t 13)⟩, 
        ⟨some 15, none, .mv (.k (.i .i64 0))⟩])
    (.blk 0
    (.loop
      (.seq (.reg [⟨some 16, none, .bin .lss (.t 15) (.t 14)⟩])
        (.seq (.cond (.t 16)
          (.skip)
          (.exit 0))
        (.seq (.blk 1
          (.seq (.reg [⟨some 17, none, .mv (.t 15)⟩, 
                ⟨some 6, none, .mv (.t 17)⟩])
            (.reg [⟨some 18, none, .mv (.t 5)⟩, 
              ⟨some 19, none, .mv (.t 6)⟩, 
              ⟨some 20, none, .mv (.t 0)⟩, 
              ⟨some 21, none, .mv (.t 6)⟩, 
              ⟨some 22, none, .call 22 [(2, (.t 20)), (1, (.t 21))]⟩, 
              ⟨some 23, none, .mv (.t 1)⟩, 
              ⟨some 24, none, .mv (.t 6)⟩, 
              ⟨some 25, none, .call 22 [(2, (.t 23)), (1, (.t 24))]⟩, 
              ⟨some 26, none, .call 20 [(1, (.t 22)), (1, (.t 25))]⟩, 
              ⟨some 27, none, .idx 2 (.t 18) (.t 19)⟩, 
              ⟨none, none, .st 2 (.t 27) (.t 26)⟩])))
        (.reg [⟨some 28, none, .bin .add (.t 15) (.k (.i .i64 1))⟩, 
          ⟨some 15, none, .mv (.t 28)⟩])))))))
  (.seq (.reg [⟨some 29, none, .mv (.t 5)⟩, 
      ⟨some 30, none, .call 10 [(2, (.t 29))]⟩, 
      ⟨some 4, none, .mv (.t 30)⟩])
  (.ret))))
theorem zpadd_spec (a b : List (Bool × List Nat)) (m : Nat) (hm : m ≤ 10000000) (la : a.length ≤ 1000000) (lb : b.length ≤ 1000000) (ca : Zk a m) (cb : Zk b m) : AFun Try.prog J0 8 [.l 2 (ZC a), .l 2 (ZC b)] (.l 2 (ZC (nfl (tzi (addl (zcs a) (zcs b)))))) := by
  have ha := ZC_len a
  have hb := ZC_len b
  have hda : a.length * 2 / 2 = a.length := by omega
  have hdb : b.length * 2 / 2 = b.length := by omega
  have ha1 := zat_spec a
  have hb1 := zat_spec b
  obtain ⟨n, hn⟩ : ∃ n, n = max a.length b.length := ⟨_, rfl⟩
  have hmx : max (a.length : Int) (b.length : Int) = (n : Int) := by omega
  have hn0 : (0 : Int) ≤ (n : Int) := by omega
  have lad : (addl (zcs a) (zcs b)).length = n := by rw [addl_len, zcs_len, zcs_len, hn]
  have hno := zpnormN (addl (zcs a) (zcs b)) (m + 1) (by omega) (by omega) (Cz_addl (Zk_Cz ca) (Zk_Cz cb))
  have hge := fun i => addl_get (zcs a) (zcs b) i
  simp only [zcs_get] at hge
  generalize addl (zcs a) (zcs b) = R at *
  generalize tzi R = res at *
  have hdn : n * 2 / 2 = n := by omega
  have hf0 := fll_0 R
  rw [lad] at hf0
  have hmk := mk_ZC n
  rw [← hf0] at hmk
  refine AFun.mk fol J0s Try.func8 rfl (ac := a8) (by kernel_rfl) rfl rfl rfl ?_
  apply vm_start
  unfold a8
  simp only [init_eq, initE]
  repeat first
    | (refine hK _ ?_; clear hK K)
    | ((first | refine vm_reg (fun K hK => ?_) | refine vm_dreg (fun K hK => ?_) | refine vm_dregx (fun K hK => ?_)); simp (disch := (first | omega | assumption)) only [S1, ↓reduceIte, Nat.reduceEqDiff, Nat.reduceAdd, Nat.reduceMul, Nat.reduceDiv, AOp.sb, AOp.mut, ↓Bool.false_eq_true, beq_self_eq_true, ite_self, Nat.reduceLeDiff, Int.reduceEq, Int.reduceSub, Int.reduceAdd, Int.reduceNeg, Int.reduceLT, Int.reduceLE, Nat.reduceLT, bz_T1, ha, hb, hda, hdb, hmx, hn0, hmk]; refine hK _ ?_; clear hK K)
    | simp only [Sv, ↓reduceIte, Nat.reduceEqDiff]
  refine vm_loopA [] Nat (fun i => ⟨[(0, .l 2 (ZC a)), (1, .l 2 (ZC b)), (5, .ow 2 0 n), (14, .i .i64 (n : Int)), (15, .i .i64 (i : Int))],
      [(0, some ⟨33, 2, ZC (nfl (fll R i)), true, false⟩)], 1⟩)
    (fun i => i ≤ n) (fun i => n - i) 0 (Nat.zero_le _) (by simp (disch := (first | omega | assumption)) only [Sl, Sa, Sw, ↓reduceIte, Nat.reduceEqDiff, Nat.reduceLT, List.all_nil, List.all_cons, Nat.reduceBneDiff, Nat.reduceAdd, bne_iff_ne, ne_eq, reduceCtorEq, not_false_eq_true, not_true_eq_false, Bool.and_true, Bool.true_and, and_true, true_and, and_self]) (by
    simp (disch := (first | omega | assumption)) only [Sl, Sa, Sw, ↓reduceIte, Nat.reduceEqDiff, Nat.reduceLT, List.all_nil, List.all_cons, Nat.reduceBneDiff, Nat.reduceAdd, bne_iff_ne, ne_eq, reduceCtorEq, not_false_eq_true, not_true_eq_false, Bool.and_true, Bool.true_and, and_true, true_and, and_self, i_eq]
    repeat' first | rfl | omega | (simp only [List.length_append, List.length_cons, List.length_nil]; done) | apply And.intro) ?_
  intro i hi Q' hQ he hr
  by_cases h : (i : Int) < (n : Int)
  · have h1 := ha1 i
    have h2 := hb1 i
    obtain ⟨w1, l1⟩ := Zk_get ca i
    obtain ⟨w2, l2⟩ := Zk_get cb i
    have h3 := zadd_spec (a.getD i (false, [])).1 (b.getD i (false, [])).1 (a.getD i (false, [])).2 (b.getD i (false, [])).2 w1 w2 (by omega) (by omega)
    have h4 := hge i
    unfold zvp at h4
    rw [← h4] at h3
    have hl := ZN_len (fll R i)
    rw [fll_len _ _ (by omega), lad] at hl
    have hs := ZN_set (fll R i) i (R.getD i 0)
    rw [fll_set R i (by omega)] at hs
    clear hge h4
    generalize a.getD i (false, []) = x at *
    generalize b.getD i (false, []) = y at *
    generalize R.getD i 0 = z at *
    have zc5 := h1
    have zc6 := h2
    have zc7 := h3
    repeat first | (refine hK _ ?_; clear hK K) | simp only [Sv, ↓reduceIte, Nat.reduceEqDiff] | ((first | refine vm_reg (fun K hK => ?_) | refine vm_dreg (fun K hK => ?_) | refine vm_dregx (fun K hK => ?_) | refine clp_q ?_ | refine clq_mk (by assumption) ?_ | refine mcq_q ?_ | (apply mcr_mk; assumption)); simp (disch := (first | omega | assumption)) only [S1, ↓reduceIte, Nat.reduceEqDiff, Nat.reduceAdd, Nat.reduceMul, Nat.reduceDiv, AOp.sb, AOp.mut, ↓Bool.false_eq_true, beq_self_eq_true, ite_self, Nat.reduceLeDiff, Int.reduceEq, Int.reduceSub, Int.reduceAdd, Int.reduceNeg, Int.reduceLT, Int.reduceLE, Nat.reduceLT, bz_T1, h, hl, hs])
    refine hQ _ (i + 1) (by omega) (by omega) ?_
    simp (disch := (first | omega | assumption)) only [Sl, Sa, Sw, ↓reduceIte, Nat.reduceEqDiff, Nat.reduceLT, List.all_nil, List.all_cons, Nat.reduceBneDiff, Nat.reduceAdd, bne_iff_ne, ne_eq, reduceCtorEq, not_false_eq_true, not_true_eq_false, Bool.and_true, Bool.true_and, and_true, true_and, and_self, i_eq]
    repeat' first | rfl | omega | (simp only [List.length_append, List.length_cons, List.length_nil]; done) | apply And.intro
  · obtain rfl : i = n := by omega
    rw [show fll R i = R from by rw [← lad]; exact fll_all R]
    repeat first
      | (refine hK _ ?_; clear hK K)
      | ((first | refine vm_reg (fun K hK => ?_) | refine vm_dreg (fun K hK => ?_) | refine vm_dregx (fun K hK => ?_)); simp (disch := (first | omega | assumption)) only [S1, ↓reduceIte, Nat.reduceEqDiff, Nat.reduceAdd, Nat.reduceMul, Nat.reduceDiv, AOp.sb, AOp.mut, ↓Bool.false_eq_true, beq_self_eq_true, ite_self, Nat.reduceLeDiff, Int.reduceEq, Int.reduceSub, Int.reduceAdd, Int.reduceNeg, Int.reduceLT, Int.reduceLE, Nat.reduceLT, bz_T1, h]; refine hK _ ?_; clear hK K)
      | simp only [Sv, ↓reduceIte, Nat.reduceEqDiff]
    refine he _ _ ?_
    have zc8 := hno
    repeat first | (refine hK _ ?_; clear hK K) | simp only [Sv, ↓reduceIte, Nat.reduceEqDiff] | ((first | refine vm_reg (fun K hK => ?_) | refine vm_dreg (fun K hK => ?_) | refine vm_dregx (fun K hK => ?_) | refine clp_q ?_ | refine clq_mk (by assumption) ?_ | refine mcq_q ?_ | (apply mcr_mk; assumption)); simp (disch := (first | omega | assumption)) only [S1, ↓reduceIte, Nat.reduceEqDiff, Nat.reduceAdd, Nat.reduceMul, Nat.reduceDiv, AOp.sb, AOp.mut, ↓Bool.false_eq_true, beq_self_eq_true, ite_self, Nat.reduceLeDiff, Int.reduceEq, Int.reduceSub, Int.reduceAdd, Int.reduceNeg, Int.reduceLT, Int.reduceLE, Nat.reduceLT, bz_T1])
    simp (disch := (first | omega | assumption)) only [retOk, retN, ret1, retF, ret1F, V.okArg, and_true, true_and, S1, ↓reduceIte, Nat.reduceEqDiff, Nat.reduceAdd, Nat.reduceMul, Nat.reduceDiv, AOp.sb, AOp.mut, ↓Bool.false_eq_true, beq_self_eq_true, ite_self, Nat.reduceLeDiff, Int.reduceEq, Int.reduceSub, Int.reduceAdd, Int.reduceNeg, Int.reduceLT, Int.reduceLE, Nat.reduceLT, bz_T1]
-- surd/zpoly.Scale
def a16 : AC := .seq (.reg [⟨some 3, none, .bx 33 (.t 1)⟩, 
      ⟨some 4, none, .mv (.k .nl)⟩])
  (.seq (.reg [⟨some 7, none, .mv (.t 0)⟩, 
      ⟨some 8, none, .len (.t 7)⟩, 
      ⟨some 9, none, .mk 33 2 32 [(.b false), (.l 1 [])] (.t 8) (.t 8)⟩, 
      ⟨some 5, none, .mv (.t 9)⟩])
  (.seq (.seq (.reg [⟨some 10, none, .mv (.t 5)⟩, 
        ⟨some 11, none, .len (.t 10)⟩, 
        ⟨some 12, none, .mv (.k (.i .i64 0))⟩])
    (.blk 0
    (.loop
      (.seq (.reg [⟨some 13, none, .bin .lss (.t 12) (.t 11)⟩])
        (.seq (.cond (.t 13)
          (.skip)
          (.exit 0))
        (.seq (.blk 1
          (.seq (.reg [⟨some 14, none, .mv (.t 12)⟩, 
                ⟨some 6, none, .mv (.t 14)⟩])
            (.dreg [⟨some 15, none, .mv (.t 5)⟩, 
              ⟨some 16, none, .mv (.t 6)⟩, 
              ⟨some 17, none, .mv (.t 0)⟩, 
              ⟨some 18, none, .mv (.t 6)⟩, 
              ⟨some 19, none, .idx 2 (.t 17) (.t 18)⟩, 
              ⟨some 20, none, .ld true 2 (.t 19)⟩, 
              ⟨some 21, none, .ld true 2 (.t 3)⟩, 
              ⟨some 22, none, .call 19 [(1, (.t 20)), (1, (.t 21))]⟩, 
              ⟨some 23, none, .idx 2 (.t 15) (.t 16)⟩, 
              ⟨none, none, .st 2 (.t 23) (.t 22)⟩])))
        (.reg [⟨some 24, none, .bin .add (.t 12) (.k (.i .i64 1))⟩, 
          ⟨some 12, none, .mv (.t 24)⟩])))))))
  (.seq (.reg [⟨some 25, none, .mv (.t 5)⟩, 
      ⟨some 26, none, .call 10 [(2, (.t 25))]⟩, 
      ⟨some 4, none, .mv (.t 26)⟩])
  (.ret))))
theorem zpscale_spec (l : List (Bool × List Nat)) (s : Bool) (c : List Nat) (m : Nat) (hm : m ≤ 10000000) (ll : l.length ≤ 1000000) (hl : Zk l m) (wc : Wd c) (lc : c.length ≤ m) : AFun Try.prog J0 16 [.l 2 (ZC l), zL s c] (.l 2 (ZC (nfl (tzi ((zcs l).map fun x => x * zv s c))))) := by
  have ha := ZC_len l
  have hda : l.length * 2 / 2 = l.length := by omega
  have hn0 : (0 : Int) ≤ (l.length : Int) := by omega
  have lR : ((zcs l).map fun x => x * zv s c).length = l.length := by rw [List.length_map, zcs_len]
  have hno := zpnormN ((zcs l).map fun x => x * zv s c) (m + m) (by omega) (by omega) (Cz_map (Zk_Cz hl) (zv_lt wc lc))
  have hge := fun i => getD_map0 (zcs l) (fun x => x * zv s c) (by simp) i
  simp only [zcs_get] at hge
  generalize ((zcs l).map fun x => x * zv s c) = R at *
  generalize tzi R = res at *
  have hf0 := fll_0 R
  rw [lR] at hf0
  have hmk := mk_ZC l.length
  rw [← hf0] at hmk
  refine AFun.mk fol J0s Try.func16 rfl (ac := a16) (by kernel_rfl) rfl rfl rfl ?_
  apply vm_start
  unfold a16
  simp only [init_eq, initE]
  repeat first
    | (refine hK _ ?_; clear hK K)
    | ((first | refine vm_reg (fun K hK => ?_) | refine vm_dreg (fun K hK => ?_) | refine vm_dregx (fun K hK => ?_)); simp (disch := (first | omega | assumption)) only [S1, ↓reduceIte, Nat.reduceEqDiff, Nat.reduceAdd, Nat.reduceMul, Nat.reduceDiv, AOp.sb, AOp.mut, ↓Bool.false_eq_true, beq_self_eq_true, ite_self, Nat.reduceLeDiff, Int.reduceEq, Int.reduceSub, Int.reduceAdd, Int.reduceNeg, Int.reduceLT, Int.reduceLE, Nat.reduceLT, bz_T1, ha, hda, hn0, hmk]; refine hK _ ?_; clear hK K)
    | simp only [Sv, ↓reduceIte, Nat.reduceEqDiff]
  refine vm_loopA [] Nat (fun i => ⟨[(0, .l 2 (ZC l)), (3, .pt 0 0), (5, .ow 2 1 l.length), (11, .i .i64 (l.length : Int)), (12, .i .i64 (i : Int))],
      [(0, some ⟨33, 2, [.b s, .l 1 (W c)], true, true⟩), (1, some ⟨33, 2, ZC (nfl (fll R i)), true, false⟩)], 2⟩)
    (fun i => i ≤ l.length) (fun i => l.length - i) 0 (Nat.zero_le _) (by simp (disch := (first | omega | assumption)) only [Sl, Sa, Sw, ↓reduceIte, Nat.reduceEqDiff, Nat.reduceLT, List.all_nil, List.all_cons, Nat.reduceBneDiff, Nat.reduceAdd, bne_iff_ne, ne_eq, reduceCtorEq, not_false_eq_true, not_true_eq_false, Bool.and_true, Bool.true_and, and_true, true_and, and_self]) (by
    simp (disch := (first | omega | assumption)) only [Sl, Sa, Sw, ↓reduceIte, Nat.reduceEqDiff, Nat.reduceLT, List.all_nil, List.all_cons, Nat.reduceBneDiff, Nat.reduceAdd, bne_iff_ne, ne_eq, reduceCtorEq, not_false_eq_true, not_true_eq_false, Bool.and_true, Bool.true_and, and_true, true_and, and_self, i_eq]
    repeat' first | rfl | omega | (simp only [List.length_append, List.length_cons, List.length_nil]; done) | apply And.intro) ?_
  intro i hi Q' hQ he hr
  by_cases h : (i : Int) < (l.length : Int)
  · obtain ⟨r1, r2⟩ := ZC_row l i (by omega)
    obtain ⟨w1, l1⟩ := Zk_get hl i
    have h3 := zmul_spec (l.getD i (false, [])).1 s (l.getD i (false, [])).2 c w1 wc (by omega) (by omega)
    have h4 := hge i
    unfold zvp at h4
    rw [← h4] at h3
    have hz := ZN_len (fll R i)
    rw [fll_len _ _ (by omega), lR] at hz
    have hs := ZN_set (fll R i) i (R.getD i 0)
    rw [fll_set R i (by omega)] at hs
    clear hge h4
    generalize l.getD i (false, []) = x at *
    generalize R.getD i 0 = z at *
    have zc9 := h3
    repeat first | (refine hK _ ?_; clear hK K) | simp only [Sv, ↓reduceIte, Nat.reduceEqDiff] | ((first | refine vm_reg (fun K hK => ?_) | refine vm_dreg (fun K hK => ?_) | refine vm_dregx (fun K hK => ?_) | refine clp_q ?_ | refine clq_mk (by assumption) ?_ | refine mcq_q ?_ | (apply mcr_mk; assumption)); simp (disch := (first | omega | assumption)) only [S1, ↓reduceIte, Nat.reduceEqDiff, Nat.reduceAdd, Nat.reduceMul, Nat.reduceDiv, AOp.sb, AOp.mut, ↓Bool.false_eq_true, beq_self_eq_true, ite_self, Nat.reduceLeDiff, Int.reduceEq, Int.reduceSub, Int.reduceAdd, Int.reduceNeg, Int.reduceLT, Int.reduceLE, Nat.reduceLT, bz_T1, h, r1, hz, hs])
    refine hQ _ (i + 1) (by omega) (by omega) ?_
    simp (disch := (first | omega | assumption)) only [Sl, Sa, Sw, ↓reduceIte, Nat.reduceEqDiff, Nat.reduceLT, List.all_nil, List.all_cons, Nat.reduceBneDiff, Nat.reduceAdd, bne_iff_ne, ne_eq, reduceCtorEq, not_false_eq_true, not_true_eq_false, Bool.and_true, Bool.true_and, and_true, true_and, and_self, i_eq]
    repeat' first | rfl | omega | (simp only [List.length_append, List.length_cons, List.length_nil]; done) | apply And.intro
  · obtain rfl : i = l.length := by omega
    rw [show fll R l.length = R from by rw [← lR]; exact fll_all R]
    repeat first
      | (refine hK _ ?_; clear hK K)
      | ((first | refine vm_reg (fun K hK => ?_) | refine vm_dreg (fun K hK => ?_) | refine vm_dregx (fun K hK => ?_)); simp (disch := (first | omega | assumption)) only [S1, ↓reduceIte, Nat.reduceEqDiff, Nat.reduceAdd, Nat.reduceMul, Nat.reduceDiv, AOp.sb, AOp.mut, ↓Bool.false_eq_true, beq_self_eq_true, ite_self, Nat.reduceLeDiff, Int.reduceEq, Int.reduceSub, Int.reduceAdd, Int.reduceNeg, Int.reduceLT, Int.reduceLE, Nat.reduceLT, bz_T1, h]; refine hK _ ?_; clear hK K)
      | simp only [Sv, ↓reduceIte, Nat.reduceEqDiff]
    refine he _ _ ?_
    have zc10 := hno
    repeat first | (refine hK _ ?_; clear hK K) | simp only [Sv, ↓reduceIte, Nat.reduceEqDiff] | ((first | refine vm_reg (fun K hK => ?_) | refine vm_dreg (fun K hK => ?_) | refine vm_dregx (fun K hK => ?_) | refine clp_q ?_ | refine clq_mk (by assumption) ?_ | refine mcq_q ?_ | (apply mcr_mk; assumption)); simp (disch := (first | omega | assumption)) only [S1, ↓reduceIte, Nat.reduceEqDiff, Nat.reduceAdd, Nat.reduceMul, Nat.reduceDiv, AOp.sb, AOp.mut, ↓Bool.false_eq_true, beq_self_eq_true, ite_self, Nat.reduceLeDiff, Int.reduceEq, Int.reduceSub, Int.reduceAdd, Int.reduceNeg, Int.reduceLT, Int.reduceLE, Nat.reduceLT, bz_T1])
    simp (disch := (first | omega | assumption)) only [retOk, retN, ret1, retF, ret1F, V.okArg, and_true, true_and, S1, ↓reduceIte, Nat.reduceEqDiff, Nat.reduceAdd, Nat.reduceMul, Nat.reduceDiv, AOp.sb, AOp.mut, ↓Bool.false_eq_true, beq_self_eq_true, ite_self, Nat.reduceLeDiff, Int.reduceEq, Int.reduceSub, Int.reduceAdd, Int.reduceNeg, Int.reduceLT, Int.reduceLE, Nat.reduceLT, bz_T1]
-- surd/zpoly.Neg
def a23 : AC := .seq (.reg [⟨some 2, none, .mv (.k .nl)⟩])
  (.seq (.reg [⟨some 3, none, .mv (.t 0)⟩, 
      ⟨some 4, none, .call 26 [(1, (.k (.i .i64 (-1))))]⟩, 
      ⟨some 5, none, .call 16 [(2, (.t 3)), (1, (.t 4))]⟩, 
      ⟨some 2, none, .mv (.t 5)⟩])
  (.ret))
theorem zpneg_spec (l : List (Bool × List Nat)) (m : Nat) (hm : m ≤ 10000000) (hm1 : 1 ≤ m) (ll : l.length ≤ 1000000) (hl : Zk l m) : AFun Try.prog J0 23 [.l 2 (ZC l)] (.l 2 (ZC (nfl (tzi ((zcs l).map fun x => x * -1))))) := by
  have h1 := zofn_spec (-1) (by decide) (by decide)
  have h2 := zpscale_spec l (decide ((-1 : Int) < 0)) (dg B (-1 : Int).natAbs) m hm ll hl (Wd_dg _) (Nat.le_trans (dlen (k := 1) (by decide)) hm1)
  rw [zv_N] at h2
  refine AFun.mk fol J0s Try.func23 rfl (ac := a23) (by kernel_rfl) rfl rfl rfl ?_
  apply vm_start
  unfold a23
  simp only [init_eq, initE]
  have zc11 := h1
  have zc12 := h2
  repeat first | (refine hK _ ?_; clear hK K) | simp only [Sv, ↓reduceIte, Nat.reduceEqDiff] | ((first | refine vm_reg (fun K hK => ?_) | refine vm_dreg (fun K hK => ?_) | refine vm_dregx (fun K hK => ?_) | refine clp_q ?_ | refine clq_mk (by assumption) ?_ | refine mcq_q ?_ | (apply mcr_mk; assumption)); simp (disch := (first | omega | assumption)) only [S1, ↓reduceIte, Nat.reduceEqDiff, Nat.reduceAdd, Nat.reduceMul, Nat.reduceDiv, AOp.sb, AOp.mut, ↓Bool.false_eq_true, beq_self_eq_true, ite_self, Nat.reduceLeDiff, Int.reduceEq, Int.reduceSub, Int.reduceAdd, Int.reduceNeg, Int.reduceLT, Int.reduceLE, Nat.reduceLT, bz_T1])
  simp (disch := (first | omega | assumption)) only [retOk, retN, ret1, retF, ret1F, V.okArg, and_true, true_and, S1, ↓reduceIte, Nat.reduceEqDiff, Nat.reduceAdd, Nat.reduceMul, Nat.reduceDiv, AOp.sb, AOp.mut, ↓Bool.false_eq_true, beq_self_eq_true, ite_self, Nat.reduceLeDiff, Int.reduceEq, Int.reduceSub, Int.reduceAdd, Int.reduceNeg, Int.reduceLT, Int.reduceLE, Nat.reduceLT, bz_T1]
-- surd/zpoly.Sub
def a9 : AC := .seq (.reg [⟨some 4, none, .mv (.k .nl)⟩])
  (.seq (.reg [⟨some 5, none, .mv (.t 0)⟩, 
      ⟨some 6, none, .mv (.t 1)⟩, 
      ⟨some 7, none, .call 23 [(2, (.t 6))]⟩, 
      ⟨some 8, none, .call 8 [(2, (.t 5)), (2, (.t 7))]⟩, 
      ⟨some 4, none, .mv (.t 8)⟩])
  (.ret))
theorem zpsub_spec (a b : List (Bool × List Nat)) (m : Nat) (hm : m ≤ 5000000) (hm1 : 1 ≤ m) (la : a.length ≤ 1000000) (lb : b.length ≤ 1000000) (ca : Zk a m) (cb : Zk b m) : AFun Try.prog J0 9 [.l 2 (ZC a), .l 2 (ZC b)] (.l 2 (ZC (nfl (tzi (addl (zcs a) (tzi ((zcs b).map fun x => x * -1))))))) := by
  have h1 := zpneg_spec b m (by omega) hm1 lb cb
  have h2 := zpadd_spec a (nfl (tzi ((zcs b).map fun x => x * -1))) (m + m) (by omega) la (by
    rw [nfl_len]; exact Nat.le_trans (tzi_len _) (by rw [List.length_map, zcs_len]; exact lb)) (fun p hp => ⟨(ca p hp).1, by have := (ca p hp).2; omega⟩) (Zk_nfl (Cz_tzi (Cz_map (Zk_Cz cb) (Nat.lt_of_lt_of_le (show (-1 : Int).natAbs < B ^ 1 by decide) (Nat.pow_le_pow_right B0 hm1)))))
  rw [zcs_nfl] at h2
  refine AFun.mk fol J0s Try.func9 rfl (ac := a9) (by kernel_rfl) rfl rfl rfl ?_
  apply vm_start
  unfold a9
  simp only [init_eq, initE]
  have zc13 := h1
  have zc14 := h2
  repeat first | (refine hK _ ?_; clear hK K) | simp only [Sv, ↓reduceIte, Nat.reduceEqDiff] | ((first | refine vm_reg (fun K hK => ?_) | refine vm_dreg (fun K hK => ?_) | refine vm_dregx (fun K hK => ?_) | refine clp_q ?_ | refine clq_mk (by assumption) ?_ | refine mcq_q ?_ | (apply mcr_mk; assumption)); simp (disch := (first | omega | assumption)) only [S1, ↓reduceIte, Nat.reduceEqDiff, Nat.reduceAdd, Nat.reduceMul, Nat.reduceDiv, AOp.sb, AOp.mut, ↓Bool.false_eq_true, beq_self_eq_true, ite_self, Nat.reduceLeDiff, Int.reduceEq, Int.reduceSub, Int.reduceAdd, Int.reduceNeg, Int.reduceLT, Int.reduceLE, Nat.reduceLT, bz_T1])
  simp (disch := (first | omega | assumption)) only [retOk, retN, ret1, retF, ret1F, V.okArg, and_true, true_and, S1, ↓reduceIte, Nat.reduceEqDiff, Nat.reduceAdd, Nat.reduceMul, Nat.reduceDiv, AOp.sb, AOp.mut, ↓Bool.false_eq_true, beq_self_eq_true, ite_self, Nat.reduceLeDiff, Int.reduceEq, Int.reduceSub, Int.reduceAdd, Int.reduceNeg, Int.reduceLT, Int.reduceLE, Nat.reduceLT, bz_T1]
-- surd/zpoly.Mul
def a5 : AC := .seq (.reg [⟨some 4, none, .mv (.k .nl)⟩])
  (.seq (.reg [⟨some 8, none, .mv (.t 0)⟩, 
      ⟨some 9, none, .call 10 [(2, (.t 8))]⟩, 
      ⟨some 10, none, .mv (.t 1)⟩, 
      ⟨some 11, none, .call 10 [(2, (.t 10))]⟩, 
      ⟨some 0, none, .mv (.t 9)⟩, 
      ⟨some 1, none, .mv (.t 11)⟩])
  (.seq (.seq (.reg [⟨some 12, none, .mv (.t 0)⟩, 
        ⟨some 13, none, .len (.t 12)⟩, 
        ⟨some 14, none, .bin .eql (.t 13) (.k (.i .i64 0))⟩, 
        ⟨some 15, none, .mv (.t 14)⟩, 
        ⟨some 16, some (15, false), .mv (.t 1)⟩, 
        ⟨some 17, some (15, false), .len (.t 16)⟩, 
        ⟨some 18, some (15, false), .bin .eql (.t 17) (.k (.i .i64 0))⟩, 
        ⟨some 19, none, .pick (.t 15) (.k (.b true)) (.t 18)⟩])
    (.cond (.t 19)
    (.seq (.reg [⟨some 4, none, .mv (.k .nl)⟩])
      (.ret))
    (.skip)))
  (.seq (.reg [⟨some 20, none, .mv (.t 0)⟩, 
      ⟨some 21, none, .len (.t 20)⟩, 
      ⟨some 22, none, .mv (.t 1)⟩, 
      ⟨some 23, none, .len (.t 22)⟩, 
      ⟨some 24, none, .bin .add (.t 21) (.t 23)⟩, 
      ⟨some 25, none, .bin .sub (.t 24) (.k (.i .i64 1))⟩, 
      ⟨some 26, none, .mk 33 2 32 [(.b false), (.l 1 [])] (.t 25) (.t 25)⟩, 
      ⟨some 5, none, .mv (.t 26)⟩])
  (.seq (.seq (.reg [⟨some 27, none, .mv (.t 0)⟩, 
        ⟨some 28, none, .len (.t 27)⟩, 
        ⟨some 29, none, .mv (.k (.i .i64 0))⟩])
    (.blk 0
    (.loop
      (.seq (.reg [⟨some 30, none, .bin .lss (.t 29) (.t 28)⟩])
        (.seq (.cond (.t 30)
          (.skip)
          (.exit 0))
        (.seq (.blk 1
          (.seq (.reg [⟨some 31, none, .mv (.t 29)⟩, 
                ⟨some 6, none, .mv (.t 31)⟩])
            (.seq (.reg [⟨some 32, none, .mv (.t 1)⟩, 
                ⟨some 33, none, .len (.t 32)⟩, 
                ⟨some 34, none, .mv (.k (.i .i64 0))⟩])
            (.blk 2
            (.loop
              (.seq (.reg [⟨some 35, none, .bin .lss (.t 34) (.t 33)⟩])
                (.seq (.cond (.t 35)
                  (.skip)
                  (.exit 2))
                (.seq (.blk 3
                  (.seq (.reg [⟨some 36, none, .mv (.t 34)⟩, 
                        ⟨some 7, none, .mv (.t 36)⟩])
                    (.dreg [⟨some 37, none, .mv (.t 5)⟩, 
                      ⟨some 38, none, .mv (.t 6)⟩, 
                      ⟨some 39, none, .mv (.t 7)⟩, 
                      ⟨some 40, none, .bin .add (.t 38) (.t 39)⟩, 
                      ⟨some 41, none, .mv (.t 5)⟩, 
                      ⟨some 42, none, .mv (.t 6)⟩, 
                      ⟨some 43, none, .mv (.t 7)⟩, 
                      ⟨some 44, none, .bin .add (.t 42) (.t 43)⟩, 
                      ⟨some 45, none, .idx 2 (.t 41) (.t 44)⟩, 
                      ⟨some 46, none, .ld true 2 (.t 45)⟩, 
                      ⟨some 47, none, .mv (.t 0)⟩, 
                      ⟨some 48, none, .mv (.t 6)⟩, 
                      ⟨some 49, none, .idx 2 (.t 47) (.t 48)⟩, 
                      ⟨some 50, none, .ld true 2 (.t 49)⟩, 
                      ⟨some 51, none, .mv (.t 1)⟩, 
                      ⟨some 52, none, .mv (.t 7)⟩, 
                      ⟨some 53, none, .idx 2 (.t 51) (.t 52)⟩, 
                      ⟨some 54, none, .ld true 2 (.t 53)⟩, 
                      ⟨some 55, none, .call 19 [(1, (.t 50)), (1, (.t 54))]⟩, 
                      ⟨some 56, none, .call 20 [(1, (.t 46)), (1, (.t 55))]⟩, 
                      ⟨some 57, none, .idx 2 (.t 37) (.t 40)⟩, 
                      ⟨none, none, .st 2 (.t 57) (.t 56)⟩])))
                (.reg [⟨some 58, none, .bin .add (.t 34) (.k (.i .i64 1))⟩, 
                  ⟨some 34, none, .mv (.t 58)⟩])))))))))
        (.reg [⟨some 59, none, .bin .add (.t 29) (.k (.i .i64 1))⟩, 
          ⟨some 29, none, .mv (.t 59)⟩])))))))
  (.seq (.reg [⟨some 60, none, .mv (.t 5)⟩, 
      ⟨some 61, none, .call 10 [(2, (.t 60))]⟩, 
      ⟨some 4, none, .mv (.t 61)⟩])
  (.ret))))))
theorem zpmul_spec (p q : List (Bool × List Nat)) (m : Nat) (hm : m ≤ 10000000) (lp : p.length ≤ 1000) (lq : q.length ≤ 1000) (cp : Zk p m) (cq : Zk q m) : AFun Try.prog J0 5 [.l 2 (ZC p), .l 2 (ZC q)] (.l 2 (ZC (nfl (mull (tzi (zcs p)) (tzi (zcs q)))))) := by
  have n1 := (zpnorm_spec p m (by omega) (by omega) cp).frozen
  have n2 := (zpnorm_spec q m (by omega) (by omega) cq).frozen
  have ca := Cz_tzi (Zk_Cz cp)
  have cb := Cz_tzi (Zk_Cz cq)
  have la := Nat.le_trans (tzi_len (zcs p)) (by rw [zcs_len]; exact lp)
  have lb := Nat.le_trans (tzi_len (zcs q)) (by rw [zcs_len]; exact lq)
  generalize tzi (zcs p) = a at *
  generalize tzi (zcs q) = b at *
  have ha := ZN_len a
  have hb := ZN_len b
  have hda : a.length * 2 / 2 = a.length := by omega
  have hdb : b.length * 2 / 2 = b.length := by omega
  by_cases ha0 : a.length = 0
  · rw [show mull a b = [] from if_pos (.inl ha0)]
    have ha0I : (a.length : Int) = 0 := by omega
    refine AFun.mk fol J0s Try.func5 rfl (ac := a5) (by kernel_rfl) rfl rfl rfl ?_
    apply vm_start
    unfold a5
    simp only [init_eq, initE]
    have zc15 := n1
    have zc16 := n2
    repeat first | (refine hK _ ?_; clear hK K) | simp only [Sv, ↓reduceIte, Nat.reduceEqDiff] | ((first | refine vm_reg (fun K hK => ?_) | refine vm_dreg (fun K hK => ?_) | refine vm_dregx (fun K hK => ?_) | refine clp_q ?_ | refine clq_mk (by assumption) ?_ | refine mcq_q ?_ | (apply mcr_mk; assumption)); simp (disch := (first | omega | assumption)) only [S1, ↓reduceIte, Nat.reduceEqDiff, Nat.reduceAdd, Nat.reduceMul, Nat.reduceDiv, AOp.sb, AOp.mut, ↓Bool.false_eq_true, beq_self_eq_true, ite_self, Nat.reduceLeDiff, Int.reduceEq, Int.reduceSub, Int.reduceAdd, Int.reduceNeg, Int.reduceLT, Int.reduceLE, Nat.reduceLT, bz_T1, ha, hb, hda, hdb, ha0I, show ZC (nfl []) = [] from rfl])
    simp (disch := (first | omega | assumption)) only [retOk, retN, ret1, retF, ret1F, V.okArg, and_true, true_and, S1, ↓reduceIte, Nat.reduceEqDiff, Nat.reduceAdd, Nat.reduceMul, Nat.reduceDiv, AOp.sb, AOp.mut, ↓Bool.false_eq_true, beq_self_eq_true, ite_self, Nat.reduceLeDiff, Int.reduceEq, Int.reduceSub, Int.reduceAdd, Int.reduceNeg, Int.reduceLT, Int.reduceLE, Nat.reduceLT, bz_T1, ha, hb, hda, hdb, ha0I, show ZC (nfl []) = [] from rfl]
  · by_cases hb0 : b.length = 0
    · rw [show mull a b = [] from if_pos (.inr hb0)]
      have ha0I : ¬ (a.length : Int) = 0 := by omega
      have hb0I : (b.length : Int) = 0 := by omega
      refine AFun.mk fol J0s Try.func5 rfl (ac := a5) (by kernel_rfl) rfl rfl rfl ?_
      apply vm_start
      unfold a5
      simp only [init_eq, initE]
      have zc17 := n1
      have zc18 := n2
      repeat first | (refine hK _ ?_; clear hK K) | simp only [Sv, ↓reduceIte, Nat.reduceEqDiff] | ((first | refine vm_reg (fun K hK => ?_) | refine vm_dreg (fun K hK => ?_) | refine vm_dregx (fun K hK => ?_) | refine clp_q ?_ | refine clq_mk (by assumption) ?_ | refine mcq_q ?_ | (apply mcr_mk; assumption)); simp (disch := (first | omega | assumption)) only [S1, ↓reduceIte, Nat.reduceEqDiff, Nat.reduceAdd, Nat.reduceMul, Nat.reduceDiv, AOp.sb, AOp.mut, ↓Bool.false_eq_true, beq_self_eq_true, ite_self, Nat.reduceLeDiff, Int.reduceEq, Int.reduceSub, Int.reduceAdd, Int.reduceNeg, Int.reduceLT, Int.reduceLE, Nat.reduceLT, bz_T1, ha, hb, hda, hdb, ha0I, hb0I, show ZC (nfl []) = [] from rfl])
      simp (disch := (first | omega | assumption)) only [retOk, retN, ret1, retF, ret1F, V.okArg, and_true, true_and, S1, ↓reduceIte, Nat.reduceEqDiff, Nat.reduceAdd, Nat.reduceMul, Nat.reduceDiv, AOp.sb, AOp.mut, ↓Bool.false_eq_true, beq_self_eq_true, ite_self, Nat.reduceLeDiff, Int.reduceEq, Int.reduceSub, Int.reduceAdd, Int.reduceNeg, Int.reduceLT, Int.reduceLE, Nat.reduceLT, bz_T1, ha, hb, hda, hdb, ha0I, hb0I, show ZC (nfl []) = [] from rfl]
    · have ha0I : ¬ (a.length : Int) = 0 := by omega
      have hb0I : ¬ (b.length : Int) = 0 := by omega
      obtain ⟨n, hn⟩ : ∃ n, n = a.length + b.length - 1 := ⟨_, rfl⟩
      have hnI : (a.length : Int) + (b.length : Int) - 1 = (n : Int) := by omega
      have hn0 : (0 : Int) ≤ (n : Int) := by omega
      have hml := mulF_len a b n
      have hmc := fun i (hi : i ≤ 1000) => Cz_mulF (n := n) ca cb hi
      have hno := zpnormN (mulF a b n a.length) (2 * m + 1) (by omega) (by rw [hml]; omega) (hmc _ la)
      rw [show tzi (mulF a b n a.length) = mull a b from by unfold mull; rw [if_neg (by omega), hn]] at hno
      generalize mull a b = res at *
      refine AFun.mk fol J0s Try.func5 rfl (ac := a5) (by kernel_rfl) rfl rfl rfl ?_
      apply vm_start
      unfold a5
      simp only [init_eq, initE]
      have zc19 := n1
      have zc20 := n2
      repeat first | (refine hK _ ?_; clear hK K) | simp only [Sv, ↓reduceIte, Nat.reduceEqDiff] | ((first | refine vm_reg (fun K hK => ?_) | refine vm_dreg (fun K hK => ?_) | refine vm_dregx (fun K hK => ?_) | refine clp_q ?_ | refine clq_mk (by assumption) ?_ | refine mcq_q ?_ | (apply mcr_mk; assumption)); simp (disch := (first | omega | assumption)) only [S1, ↓reduceIte, Nat.reduceEqDiff, Nat.reduceAdd, Nat.reduceMul, Nat.reduceDiv, AOp.sb, AOp.mut, ↓Bool.false_eq_true, beq_self_eq_true, ite_self, Nat.reduceLeDiff, Int.reduceEq, Int.reduceSub, Int.reduceAdd, Int.reduceNeg, Int.reduceLT, Int.reduceLE, Nat.reduceLT, bz_T1, ha, hb, hda, hdb, ha0I, hb0I, hnI, hn0, mk_ZC])
      refine vm_loopA [] Nat (fun i => ⟨[(0, .l 2 (ZC (nfl a))), (1, .l 2 (ZC (nfl b))), (5, .ow 2 0 n), (28, .i .i64 (a.length : Int)), (29, .i .i64 (i : Int))],
          [(0, some ⟨33, 2, ZC (nfl (mulF a b n i)), true, false⟩)], 1⟩)
        (fun i => i ≤ a.length) (fun i => a.length - i) 0 (Nat.zero_le _) (by simp (disch := (first | omega | assumption)) only [Sl, Sa, Sw, ↓reduceIte, Nat.reduceEqDiff, Nat.reduceLT, List.all_nil, List.all_cons, Nat.reduceBneDiff, Nat.reduceAdd, bne_iff_ne, ne_eq, reduceCtorEq, not_false_eq_true, not_true_eq_false, Bool.and_true, Bool.true_and, and_true, true_and, and_self]) (by
        simp (disch := (first | omega | assumption)) only [Sl, Sa, Sw, ↓reduceIte, Nat.reduceEqDiff, Nat.reduceLT, List.all_nil, List.all_cons, Nat.reduceBneDiff, Nat.reduceAdd, bne_iff_ne, ne_eq, reduceCtorEq, not_false_eq_true, not_true_eq_false, Bool.and_true, Bool.true_and, and_true, true_and, and_self, i_eq]
        repeat' first | rfl | omega | (simp only [List.length_append, List.length_cons, List.length_nil]; done) | apply And.intro) ?_
      intro i hi Q' hQ he hr
      by_cases h : (i : Int) < (a.length : Int)
      · have hra := ZN_row a i (by omega)
        have cai := pup (ca i) (show m ≤ 2 * m + 1 by omega)
        have hme := mrow_len (mulF a b n i) i (a.getD i 0) b
        have hmb : ∀ j, j ≤ b.length → ∀ k, ((mrow (mulF a b n i) i (a.getD i 0) b j).getD k 0).natAbs < B ^ (2 * m + 1) := fun j hj k => by
          have h1 := mrow_Cb (O := mulF a b n i) (i := i) (m := B ^ m) (Nat.le_of_lt (ca i)) (fun u => Nat.le_of_lt (cb u)) j k
          have h2 := mulF_Cb (n := n) (m := B ^ m) (fun u => Nat.le_of_lt (ca u)) (fun u => Nat.le_of_lt (cb u)) i k
          have h3 : ((mrow (mulF a b n i) i (a.getD i 0) b j).getD k 0).natAbs ≤ (i + 1) * (B ^ m * B ^ m) := by
            rw [Nat.succ_mul]
            refine Nat.le_trans h1 (Nat.add_le_add h2 ?_)
            split
            · exact Nat.le_refl _
            · exact Nat.zero_le _
          refine Nat.lt_of_le_of_lt h3 ?_
          rw [← Nat.pow_add, show m + m = 2 * m from by omega, Nat.pow_succ, Nat.mul_comm (i + 1)]
          exact Nat.mul_lt_mul_of_pos_left (Nat.lt_of_le_of_lt (show i + 1 ≤ 1000 by omega) (by decide)) (Nat.pow_pos B0)
        have hmi : mulF a b n (i + 1) = mrow (mulF a b n i) i (a.getD i 0) b b.length := rfl
        have hm0 : mrow (mulF a b n i) i (a.getD i 0) b 0 = mulF a b n i := rfl
        have hpx : ∀ j, (a.getD i 0 * b.getD j 0).natAbs < B ^ (2 * m + 1) := fun j => by
          rw [Int.natAbs_mul]
          exact pup (pmul (ca i) (cb j)) (by omega)
        generalize a.getD i 0 = x at *
        rw [hml] at hme
        obtain ⟨O, hO⟩ : ∃ O, O = mulF a b n i := ⟨_, rfl⟩
        rw [← hO] at hme hmb hmi hm0
        rw [← hO]
        repeat first
          | (refine hK _ ?_; clear hK K)
          | ((first | refine vm_reg (fun K hK => ?_) | refine vm_dreg (fun K hK => ?_) | refine vm_dregx (fun K hK => ?_)); simp (disch := (first | omega | assumption)) only [S1, ↓reduceIte, Nat.reduceEqDiff, Nat.reduceAdd, Nat.reduceMul, Nat.reduceDiv, AOp.sb, AOp.mut, ↓Bool.false_eq_true, beq_self_eq_true, ite_self, Nat.reduceLeDiff, Int.reduceEq, Int.reduceSub, Int.reduceAdd, Int.reduceNeg, Int.reduceLT, Int.reduceLE, Nat.reduceLT, bz_T1, h, hb, hdb]; refine hK _ ?_; clear hK K)
          | simp only [Sv, ↓reduceIte, Nat.reduceEqDiff]
        refine vm_loopA [] Nat (fun j => ⟨[(0, .l 2 (ZC (nfl a))), (1, .l 2 (ZC (nfl b))), (5, .ow 2 0 n), (6, .i .i64 (i : Int)), (28, .i .i64 (a.length : Int)), (29, .i .i64 (i : Int)), (33, .i .i64 (b.length : Int)), (34, .i .i64 (j : Int))],
            [(0, some ⟨33, 2, ZC (nfl (mrow O i x b j)), true, false⟩)], 1⟩)
          (fun j => j ≤ b.length) (fun j => b.length - j) 0 (Nat.zero_le _) (by simp (disch := (first | omega | assumption)) only [Sl, Sa, Sw, ↓reduceIte, Nat.reduceEqDiff, Nat.reduceLT, List.all_nil, List.all_cons, Nat.reduceBneDiff, Nat.reduceAdd, bne_iff_ne, ne_eq, reduceCtorEq, not_false_eq_true, not_true_eq_false, Bool.and_true, Bool.true_and, and_true, true_and, and_self]) (by
          simp (disch := (first | omega | assumption)) only [Sl, Sa, Sw, ↓reduceIte, Nat.reduceEqDiff, Nat.reduceLT, List.all_nil, List.all_cons, Nat.reduceBneDiff, Nat.reduceAdd, bne_iff_ne, ne_eq, reduceCtorEq, not_false_eq_true, not_true_eq_false, Bool.and_true, Bool.true_and, and_true, true_and, and_self, i_eq]
          rw [hm0]
          repeat' first | rfl | omega | (simp only [List.length_append, List.length_cons, List.length_nil]; done) | apply And.intro) ?_
        intro j hj Q2 hQ2 he2 hr2
        by_cases h2 : (j : Int) < (b.length : Int)
        · have hrb := ZN_row b j (by omega)
          have cbj := pup (cb j) (show m ≤ 2 * m + 1 by omega)
          have hro := ZN_row (mrow O i x b j) (i + j) (by rw [hme]; omega)
          have hlo := ZN_len (mrow O i x b j)
          rw [hme] at hlo
          have hst := ZN_set (mrow O i x b j) (i + j) ((mrow O i x b j).getD (i + j) 0 + x * b.getD j 0)
          rw [show (mrow O i x b j).set (i + j) ((mrow O i x b j).getD (i + j) 0 + x * b.getD j 0) = mrow O i x b (j + 1) from rfl] at hst
          have ho := hmb j hj (i + j)
          have c1 := zmulN cai cbj (by omega)
          have c2 := zaddN ho (hpx j) (by omega)
          have tij : ((i : Int) + (j : Int)).toNat = i + j := by omega
          have eij : (i : Int) + (j : Int) < (n : Int) := by omega
          clear hmb hpx hmc
          generalize x * b.getD j 0 = xy at *
          generalize (mrow O i x b j).getD (i + j) 0 = o at *
          generalize o + xy = s at *
          generalize b.getD j 0 = y at *
          have zc21 := c1
          have zc22 := c2
          repeat first | (refine hK _ ?_; clear hK K) | simp only [Sv, ↓reduceIte, Nat.reduceEqDiff] | ((first | refine vm_reg (fun K hK => ?_) | refine vm_dreg (fun K hK => ?_) | refine vm_dregx (fun K hK => ?_) | refine clp_q ?_ | refine clq_mk (by assumption) ?_ | refine mcq_q ?_ | (apply mcr_mk; assumption)); simp (disch := (first | omega | assumption)) only [S1, ↓reduceIte, Nat.reduceEqDiff, Nat.reduceAdd, Nat.reduceMul, Nat.reduceDiv, AOp.sb, AOp.mut, ↓Bool.false_eq_true, beq_self_eq_true, ite_self, Nat.reduceLeDiff, Int.reduceEq, Int.reduceSub, Int.reduceAdd, Int.reduceNeg, Int.reduceLT, Int.reduceLE, Nat.reduceLT, bz_T1, h2, ha, hb, hra, hrb, hro, hlo, tij, hst])
          refine hQ2 _ (j + 1) (by omega) (by omega) ?_
          simp (disch := (first | omega | assumption)) only [Sl, Sa, Sw, ↓reduceIte, Nat.reduceEqDiff, Nat.reduceLT, List.all_nil, List.all_cons, Nat.reduceBneDiff, Nat.reduceAdd, bne_iff_ne, ne_eq, reduceCtorEq, not_false_eq_true, not_true_eq_false, Bool.and_true, Bool.true_and, and_true, true_and, and_self, i_eq]
          repeat' first | rfl | omega | (simp only [List.length_append, List.length_cons, List.length_nil]; done) | apply And.intro
        · obtain rfl : j = b.length := by omega
          repeat first
            | (refine hK _ ?_; clear hK K)
            | ((first | refine vm_reg (fun K hK => ?_) | refine vm_dreg (fun K hK => ?_) | refine vm_dregx (fun K hK => ?_)); simp (disch := (first | omega | assumption)) only [S1, ↓reduceIte, Nat.reduceEqDiff, Nat.reduceAdd, Nat.reduceMul, Nat.reduceDiv, AOp.sb, AOp.mut, ↓Bool.false_eq_true, beq_self_eq_true, ite_self, Nat.reduceLeDiff, Int.reduceEq, Int.reduceSub, Int.reduceAdd, Int.reduceNeg, Int.reduceLT, Int.reduceLE, Nat.reduceLT, bz_T1, h2]; refine hK _ ?_; clear hK K)
            | simp only [Sv, ↓reduceIte, Nat.reduceEqDiff]
          refine he2 _ _ ?_
          repeat first
            | (refine hK _ ?_; clear hK K)
            | ((first | refine vm_reg (fun K hK => ?_) | refine vm_dreg (fun K hK => ?_) | refine vm_dregx (fun K hK => ?_)); simp (disch := (first | omega | assumption)) only [S1, ↓reduceIte, Nat.reduceEqDiff, Nat.reduceAdd, Nat.reduceMul, Nat.reduceDiv, AOp.sb, AOp.mut, ↓Bool.false_eq_true, beq_self_eq_true, ite_self, Nat.reduceLeDiff, Int.reduceEq, Int.reduceSub, Int.reduceAdd, Int.reduceNeg, Int.reduceLT, Int.reduceLE, Nat.reduceLT, bz_T1]; refine hK _ ?_; clear hK K)
            | simp only [Sv, ↓reduceIte, Nat.reduceEqDiff]
          refine hQ _ (i + 1) (by omega) (by omega) ?_
          simp only [hmi]
          simp (disch := (first | omega | assumption)) only [Sl, Sa, Sw, ↓reduceIte, Nat.reduceEqDiff, Nat.reduceLT, List.all_nil, List.all_cons, Nat.reduceBneDiff, Nat.reduceAdd, bne_iff_ne, ne_eq, reduceCtorEq, not_false_eq_true, not_true_eq_false, Bool.and_true, Bool.true_and, and_true, true_and, and_self, i_eq]
          repeat' first | rfl | omega | (simp only [List.length_append, List.length_cons, List.length_nil]; done) | apply And.intro
      · obtain rfl : i = a.length := by omega
        repeat first
          | (refine hK _ ?_; clear hK K)
          | ((first | refine vm_reg (fun K hK => ?_) | refine vm_dreg (fun K hK => ?_) | refine vm_dregx (fun K hK => ?_)); simp (disch := (first | omega | assumption)) only [S1, ↓reduceIte, Nat.reduceEqDiff, Nat.reduceAdd, Nat.reduceMul, Nat.reduceDiv, AOp.sb, AOp.mut, ↓Bool.false_eq_true, beq_self_eq_true, ite_self, Nat.reduceLeDiff, Int.reduceEq, Int.reduceSub, Int.reduceAdd, Int.reduceNeg, Int.reduceLT, Int.reduceLE, Nat.reduceLT, bz_T1, h]; refine hK _ ?_; clear hK K)
          | simp only [Sv, ↓reduceIte, Nat.reduceEqDiff]
        refine he _ _ ?_
        have zc23 := hno
        repeat first | (refine hK _ ?_; clear hK K) | simp only [Sv, ↓reduceIte, Nat.reduceEqDiff] | ((first | refine vm_reg (fun K hK => ?_) | refine vm_dreg (fun K hK => ?_) | refine vm_dregx (fun K hK => ?_) | refine clp_q ?_ | refine clq_mk (by assumption) ?_ | refine mcq_q ?_ | (apply mcr_mk; assumption)); simp (disch := (first | omega | assumption)) only [S1, ↓reduceIte, Nat.reduceEqDiff, Nat.reduceAdd, Nat.reduceMul, Nat.reduceDiv, AOp.sb, AOp.mut, ↓Bool.false_eq_true, beq_self_eq_true, ite_self, Nat.reduceLeDiff, Int.reduceEq, Int.reduceSub, Int.reduceAdd, Int.reduceNeg, Int.reduceLT, Int.reduceLE, Nat.reduceLT, bz_T1])
        simp (disch := (first | omega | assumption)) only [retOk, retN, ret1, retF, ret1F, V.okArg, and_true, true_and, S1, ↓reduceIte, Nat.reduceEqDiff, Nat.reduceAdd, Nat.reduceMul, Nat.reduceDiv, AOp.sb, AOp.mut, ↓Bool.false_eq_true, beq_self_eq_true, ite_self, Nat.reduceLeDiff, Int.reduceEq, Int.reduceSub, Int.reduceAdd, Int.reduceNeg, Int.reduceLT, Int.reduceLE, Nat.reduceLT, bz_T1]
end Go.Proofs.Ytihcbbkiifglmaa
