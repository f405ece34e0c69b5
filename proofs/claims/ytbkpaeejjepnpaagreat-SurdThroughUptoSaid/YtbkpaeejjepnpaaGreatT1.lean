/-
  zpoly: sizes, forms, sums, products.
-/
import Derived.Test.YtbkpaeejjepnpaaGreatT0
import Derived.Test.YtbkpaeejjepnpaaGreatZ2
import Derived.Test.YtbkpaeejjepnpaaGreatZ7
import Derived.Test.YtbkpaeejjepnpaaGreatZC
namespace Go.Proofs.YtbkpaeejjepnpaaGreat
open Go Go.RowKit Ab
set_option linter.unusedSimpArgs false
set_option linter.unusedVariables false
set_option maxHeartbeats 10000000
theorem bz_T1 : type_of% (And.intro @W_len (And.intro @D_len (And.intro @Nat.div_one (And.intro @Nat.mul_one (And.intro @tn_nat (And.intro @W_nf (And.intro @D_nf (And.intro @W_nil (And.intro @D_nil (And.intro @wi (And.intro @nf_g (And.intro @Bool.false_and (And.intro @W_cell (And.intro @ZC_cell (@ZC_nil))))))))))))))) := And.intro @W_len (And.intro @D_len (And.intro @Nat.div_one (And.intro @Nat.mul_one (And.intro @tn_nat (And.intro @W_nf (And.intro @D_nf (And.intro @W_nil (And.intro @D_nil (And.intro @wi (And.intro @nf_g (And.intro @Bool.false_and (And.intro @W_cell (And.intro @ZC_cell (@ZC_nil))))))))))))))
def Zk (l : List (Bool × List Nat)) (m : Nat) : Prop := ∀ p, p ∈ l → Wd p.2 ∧ p.2.length ≤ m
def Cz (l : List Int) (m : Nat) : Prop := ∀ i, (l.getD i 0).natAbs < B ^ m
def zcs (l : List (Bool × List Nat)) : List Int := l.map zvp
theorem zcs_len (l : List (Bool × List Nat)) : (zcs l).length = l.length := by simp [zcs]
theorem zcs_get (l : List (Bool × List Nat)) (i : Nat) : (zcs l).getD i 0 = zvp (l.getD i (false, [])) := by
  by_cases h : i < l.length
  · simp [zcs, List.getD_eq_getElem?_getD, h]
  · rw [gD0 (by rw [zcs_len]; omega), List.getD_eq_getElem?_getD, List.getElem?_eq_none (by omega)]; rfl
theorem getD_memz {l : List (Bool × List Nat)} {i : Nat} (h : i < l.length) : l.getD i (false, []) ∈ l := by
  rw [List.getD_eq_getElem?_getD, List.getElem?_eq_getElem h]; exact List.getElem_mem h
theorem Zk_get {l : List (Bool × List Nat)} {m : Nat} (h : Zk l m) (i : Nat) : Wd (l.getD i (false, [])).2 ∧ (l.getD i (false, [])).2.length ≤ m := by
  by_cases hi : i < l.length
  · exact h _ (getD_memz hi)
  · rw [List.getD_eq_getElem?_getD, List.getElem?_eq_none (by omega)]; exact ⟨Wd_nil, Nat.zero_le _⟩
theorem Zk_Cz {l : List (Bool × List Nat)} {m : Nat} (h : Zk l m) : Cz (zcs l) m := fun i => by
  obtain ⟨h1, h2⟩ := Zk_get h i
  rw [zcs_get]
  exact zv_lt h1 h2
theorem sgz_z (z : Int) : (sgz z = 0) = (z = 0) := by unfold sgz; split; (exact propext ⟨fun h => absurd h (by decide), fun h => by omega⟩); split; (exact propext ⟨fun h => absurd h (by decide), fun h => by omega⟩); exact propext ⟨fun _ => by omega, fun _ => rfl⟩
def nfl (cs : List Int) : List (Bool × List Nat) := cs.map nfp
theorem nfl_len (cs : List Int) : (nfl cs).length = cs.length := by simp [nfl]
theorem nfl_get (cs : List Int) (i : Nat) (h : i < cs.length) : (nfl cs).getD i (false, []) = nfp (cs.getD i 0) := by
  simp [nfl, List.getD_eq_getElem?_getD, h]
theorem zcs_nfl (cs : List Int) : zcs (nfl cs) = cs := by
  unfold zcs nfl
  rw [List.map_map]
  have : zvp ∘ nfp = id := funext zvp_nfp
  rw [this, List.map_id]
theorem Zk_nfl {cs : List Int} {m : Nat} (h : Cz cs m) : Zk (nfl cs) m := fun p hp => by
  obtain ⟨c, hc, rfl⟩ := List.mem_map.1 hp
  obtain ⟨i, hi, rfl⟩ := List.getElem_of_mem hc
  have := h i
  rw [List.getD_eq_getElem?_getD, List.getElem?_eq_getElem hi] at this
  exact ⟨Wd_dg _, dlen this⟩
theorem Cz_tzi {l : List Int} {m : Nat} (h : Cz l m) : Cz (tzi l) m := fun i => by rw [tzi_cf]; exact h i
theorem pmul {u v j k : Nat} (h : u < B ^ j) (h' : v < B ^ k) : u * v < B ^ (j + k) := by
  rw [Nat.pow_add]
  exact Nat.mul_lt_mul'' h h'
theorem Cz_mulF {a b : List Int} {n m i : Nat} (ha : Cz a m) (hb : Cz b m) (hi : i ≤ 1000) : Cz (mulF a b n i) (2 * m + 1) := fun k => by
  have h := mulF_Cb (n := n) (m := B ^ m) (fun i => Nat.le_of_lt (ha i)) (fun i => Nat.le_of_lt (hb i)) i k
  refine Nat.lt_of_le_of_lt h ?_
  rw [← Nat.pow_add, show m + m = 2 * m from by omega, Nat.pow_succ, Nat.mul_comm i]
  have hp : 0 < B ^ (2 * m) := Nat.pow_pos B0
  exact Nat.mul_lt_mul_of_pos_left (Nat.lt_of_le_of_lt hi (by decide)) hp
theorem Cz_mull {a b : List Int} {m : Nat} (ha : Cz a m) (hb : Cz b m) (la : a.length ≤ 1000) : Cz (mull a b) (2 * m + 1) := by
  unfold mull
  split
  · exact fun i => by simp; exact Nat.pow_pos B0
  · exact Cz_tzi (Cz_mulF ha hb la)
theorem zmulN {x y : Int} {m : Nat} (hx : x.natAbs < B ^ m) (hy : y.natAbs < B ^ m) (hm : m ≤ 100000000) : AFun Tryz.prog J0 34 [zN x, zN y] (zN (x * y)) := by
  have := zmul_spec (decide (x < 0)) (decide (y < 0)) (dg B x.natAbs) (dg B y.natAbs) (Wd_dg _) (Wd_dg _) (Nat.le_trans (dlen hx) hm) (Nat.le_trans (dlen hy) hm)
  rwa [zv_N, zv_N] at this
theorem ZC_set : ∀ (l : List (Bool × List Nat)) (i : Nat) (s : Bool) (a : List Nat), ((ZC l).set (i * 2) (.b s)).set (i * 2 + 1) (.l 1 (W a)) = ZC (l.set i (s, a))
  | [], i, s, a => by simp [ZC]
  | p :: r, 0, s, a => rfl
  | p :: r, i + 1, s, a => by
    have := ZC_set r i s a
    rw [show (i + 1) * 2 = (i * 2 + 1) + 1 from by omega]
    simp only [ZC, List.set_cons_succ, this]
theorem nfl_set (l : List Int) (i : Nat) (c : Int) : (nfl l).set i (nfp c) = nfl (l.set i c) := by unfold nfl; rw [List.map_set]
theorem ZN_set (l : List Int) (i : Nat) (c : Int) : ((ZC (nfl l)).set (i * 2) (.b (decide (c < 0)))).set (i * 2 + 1) (.l 1 (W (dg B c.natAbs))) = ZC (nfl (l.set i c)) := by rw [ZC_set]; show ZC ((nfl l).set i (nfp c)) = _; rw [nfl_set]
theorem mk_ZC (n : Nat) : (List.replicate n [V.b false, V.l 1 []]).flatten = ZC (nfl (List.replicate n 0)) := by
  induction n with
  | zero => rfl
  | succ n ih => rw [List.replicate_succ, List.flatten_cons, ih, List.replicate_succ]; rfl
theorem ZN_row (l : List Int) (i : Nat) (h : i < l.length) : ((ZC (nfl l)).drop (i * 2)).take 2 = [.b (decide (l.getD i 0 < 0)), .l 1 (W (dg B (l.getD i 0).natAbs))] := by
  obtain ⟨r1, _⟩ := ZC_row (nfl l) i (by rw [nfl_len]; exact h)
  rw [nfl_get l i h] at r1
  exact r1
theorem ZN_len (l : List Int) : (ZC (nfl l)).length = l.length * 2 := by rw [ZC_len, nfl_len]
def a72 : AC := .seq (.reg [qr 2 (.mv (.k (.i .i64 0)))])
 (.seq (.reg [qm 4 0,
 qr 5 (.len (.t 4)),
 qm 3 5])
 (.seq (.blk 0
 (.loop
 (.seq (.seq (.reg [qm 6 3,
 qr 7 (.bin .gtr (.t 6) (.k (.i .i64 0))),
 qm 8 7,
 ⟨some 9, some (8, true), .mv (.t 0)⟩,
 ⟨some 10, some (8, true), .mv (.t 3)⟩,
 ⟨some 11, some (8, true), .bin .sub (.t 10) (.k (.i .i64 1))⟩,
 ⟨some 12, some (8, true), .idx 2 (.t 9) (.t 11)⟩,
 ⟨some 13, some (8, true), .ld true 2 (.t 12)⟩,
 ⟨some 14, some (8, true), .call 75 [(1, (.t 13))]⟩,
 ⟨some 15, some (8, true), .bin .eql (.t 14) (.k (.i .i64 0))⟩,
 qr 16 (.pick (.t 8) (.t 15) (.k (.b false)))])
 (.cond (.t 16)
 (.skip)
 (.exit 0)))
 (.blk 1
 (.reg [qm 17 3,
 qr 18 (.bin .sub (.t 17) (.k (.i .i64 1))),
 qm 3 18])))))
 (.seq (.reg [qm 19 3,
 qm 2 19])
 (.ret))))
theorem zsize_spec (l : List (Bool × List Nat)) (m : Nat) (hm : m ≤ 100000000) (ll : l.length ≤ 1000000) (hp : Zk l m) : AFun Tryz.prog J0 72 [.l 2 (ZC l)] (.i .i64 (((tzi (zcs l)).length : Nat) : Int)) := by
  have hlen : (ZC l).length / 2 = l.length := by rw [ZC_len]; omega
  have hz := ZC_len l
  have hcl := zcs_len l
  obtain ⟨r, hr0⟩ : ∃ r, r = (tzi (zcs l)).length := ⟨_, rfl⟩
  rw [← hr0]
  refine mkQ fol J0s Tryz.func72 a72 ?_
  unfold a72
  simp only [init_eq, initE, qm, qr, qn]
  refine spQ (ai @hlen @bz_T1) ?_
  refine vm_loopA [] Nat (fun n => ⟨[(0, .l 2 (ZC l)), (3, .i .i64 (n : Int))], [], 0⟩) (fun n => n ≤ l.length ∧ tzi (zcs l) = tzi ((zcs l).take n)) (fun n => n) l.length ⟨by omega, by rw [← hcl, List.take_length]⟩ (by exact leQ) (by
    exact ltQ) ?_
  intro n ⟨hn, ht⟩ Q' hQ he hr
  by_cases h0 : 0 < (n : Int)
  · obtain ⟨k, rfl⟩ : ∃ k, n = k + 1 := ⟨n - 1, by omega⟩
    have hk : k < l.length := by omega
    obtain ⟨r1, r2⟩ := ZC_row l k hk
    obtain ⟨wa, la⟩ := hp _ (getD_memz hk)
    have hs := zsign_spec (l.getD k (false, [])).1 (l.getD k (false, [])).2 wa (by omega)
    have hg := zcs_get l k
    have hsz := sgz_z (zvp (l.getD k (false, [])))
    rw [← hg] at hsz
    rw [show zv (l.getD k (false, [])).1 (l.getD k (false, [])).2 = zvp (l.getD k (false, [])) from rfl, ← hg] at hs
    generalize l.getD k (false, []) = p at *
    by_cases h1 : (zcs l).getD k 0 = 0
    · have hx : (sgz ((zcs l).getD k 0) = 0) := hsz.mpr h1
      refine wkQ (ai @hx (ai @r1 (ai @hz (ai @Nat.add_sub_cancel (ai @tn_sub1 (ai @h0 @bz_T1)))))) ?_
      refine hQ _ k ⟨by omega, ?_⟩ (by omega) ?_
      · rw [ht]; exact tzi_zero _ k (by omega) h1
      · simp (disch := (first | omega | assumption)) only [Sl, Sa, Sw, ↓reduceIte, Nat.reduceEqDiff, Nat.reduceLT, List.all_nil, List.all_cons, Nat.reduceBneDiff, Nat.reduceAdd, bne_iff_ne, ne_eq, reduceCtorEq, not_false_eq_true, not_true_eq_false, Bool.and_true, Bool.true_and, and_true, true_and, and_self, i_eq]
        try omega
    · have hx : ¬ (sgz ((zcs l).getD k 0) = 0) := fun h => h1 (hsz.mp h)
      have e : r = k + 1 := by
        rw [hr0, ht, tzi_top _ k (by omega) h1, List.length_take, Nat.min_eq_left (by omega)]
      refine wkQ (ai @hx (ai @r1 (ai @hz (ai @Nat.add_sub_cancel (ai @tn_sub1 (ai @h0 @bz_T1)))))) ?_
      refine he _ _ ?_
      refine spQ @bz_T1 ?_
      exact rtQ (ai @e @bz_T1)
  · obtain rfl : n = 0 := by omega
    have e : r = 0 := by rw [hr0, ht]; rfl
    refine spQ (ai @h0 @bz_T1) ?_
    refine he _ _ ?_
    refine spQ @bz_T1 ?_
    exact rtQ (ai @e @bz_T1)
theorem zcs_take_nfp (l : List (Bool × List Nat)) (i : Nat) (h : i < l.length) : ((zcs l).take (i + 1)).map nfp = ((zcs l).take i).map nfp ++ [nfp (zvp (l.getD i (false, [])))] := by
  have h' : i < (zcs l).length := by rw [zcs_len]; exact h
  rw [List.take_succ_eq_append_getElem h', List.map_append]
  congr 1
  have := zcs_get l i
  rw [List.getD_eq_getElem?_getD, List.getElem?_eq_getElem h'] at this
  rw [← this]; rfl
def a45 : AC := .seq (.reg [qr 2 (.mv (.k .nl))])
 (.seq (.reg [qr 3 (.mv (.k .nl))])
 (.seq (.seq (.reg [qm 5 0,
 qr 6 (.call 72 [(2, (.t 5))]),
 qr 7 (.mv (.k (.i .i64 0)))])
 (.blk 0
 (.loop
 (.seq (.reg [qr 8 (.bin .lss (.t 7) (.t 6))])
 (.seq (.cond (.t 8)
 (.skip)
 (.exit 0))
 (.seq (.blk 1
 (.seq (.reg [qm 9 7,
 qm 4 9])
 (.reg [qm 10 3,
 qm 11 0,
 qm 12 4,
 qr 13 (.idx 2 (.t 11) (.t 12)),
 qr 14 (.ld true 2 (.t 13)),
 qr 15 (.call 65 [(1, (.t 14))]),
 qr 16 (.bsl 27 2 1 [(.b false), (.l 1 [])] [(0, (.t 15))]),
 qr 17 (.app 27 2 32 (.t 10) (.t 16)),
 qm 3 17])))
 (.reg [qr 18 (.bin .add (.t 7) (.k (.i .i64 1))),
 qm 7 18])))))))
 (.seq (.reg [qm 19 3,
 qm 2 19])
 (.ret))))
theorem zpnorm_spec (l : List (Bool × List Nat)) (m : Nat) (hm : m ≤ 100000000) (ll : l.length ≤ 1000000) (hp : Zk l m) : AFun Tryz.prog J0 45 [.l 2 (ZC l)] (.o 27 2 (ZC (nfl (tzi (zcs l))))) := by
  have hsz := zsize_spec l m (by omega) ll hp
  have hz := ZC_len l
  have htl := tzi_len (zcs l)
  rw [zcs_len] at htl
  have htk := tzi_take (zcs l)
  obtain ⟨n, hn⟩ : ∃ n, n = (tzi (zcs l)).length := ⟨_, rfl⟩
  rw [← hn] at hsz htl htk
  rw [← htk]
  unfold nfl
  refine mkQ fol J0s Tryz.func45 a45 ?_
  unfold a45
  simp only [init_eq, initE, qm, qr, qn]
  refine wkQ @bz_T1 ?_
  refine vm_loopA [(3, 27, 2)] Nat (fun i => ⟨[(0, .l 2 (ZC l)), (3, .ow 2 0 i), (6, .i .i64 (n : Int)), (7, .i .i64 (i : Int))], [(0, some ⟨27, 2, ZC (((zcs l).take i).map nfp), true, false⟩)], 1⟩)
    (fun i => i ≤ n) (fun i => n - i) 0 (Nat.zero_le _) (by exact leQ) (by
    exact ltQ) ?_
  intro i hi Q' hQ he hr
  by_cases h : (i : Int) < (n : Int)
  · have hk : i < l.length := by omega
    obtain ⟨r1, r2⟩ := ZC_row l i hk
    obtain ⟨wa, la⟩ := hp _ (getD_memz hk)
    have hs := znorm_spec (l.getD i (false, [])).1 (l.getD i (false, [])).2 wa (by omega)
    have hap := ZC_app1 (((zcs l).take i).map nfp) (zvp (l.getD i (false, [])))
    rw [← zcs_take_nfp l i hk] at hap
    have hlz := ZC_len (((zcs l).take (i + 1)).map nfp)
    rw [List.length_map, List.length_take, zcs_len] at hlz
    have hlz0 := ZC_len (((zcs l).take i).map nfp)
    rw [List.length_map, List.length_take, zcs_len] at hlz0
    rw [show zv (l.getD i (false, [])).1 (l.getD i (false, [])).2 = zvp (l.getD i (false, [])) from rfl] at hs
    generalize l.getD i (false, []) = p at *
    refine wkQ (ai @hap (ai @r1 (ai @hz (ai @h @bz_T1)))) ?_
    refine hQ _ (i + 1) (by omega) (by omega) ?_
    exact ltQ
  · obtain rfl : i = n := by omega
    refine spQ (ai @h @bz_T1) ?_
    refine he _ _ ?_
    refine spQ @bz_T1 ?_
    exact rtQ @bz_T1
theorem zpnormN (cs : List Int) (m : Nat) (hm : m ≤ 100000000) (ll : cs.length ≤ 1000000) (hp : Cz cs m) : AFun Tryz.prog J0 45 [.l 2 (ZC (nfl cs))] (.l 2 (ZC (nfl (tzi cs)))) := by
  have := (zpnorm_spec (nfl cs) m hm (by rw [nfl_len]; exact ll) (Zk_nfl hp)).frozen
  rwa [zcs_nfl] at this
def a38 : AC := .seq (.reg [qr 4 (.mv (.k .nl))])
 (.seq (.reg [qm 8 0,
 qr 9 (.call 45 [(2, (.t 8))]),
 qm 10 1,
 qr 11 (.call 45 [(2, (.t 10))]),
 qm 0 9,
 qm 1 11])
 (.seq (.seq (.reg [qm 12 0,
 qr 13 (.len (.t 12)),
 qr 14 (.bin .eql (.t 13) (.k (.i .i64 0))),
 qm 15 14,
 ⟨some 16, some (15, false), .mv (.t 1)⟩,
 ⟨some 17, some (15, false), .len (.t 16)⟩,
 ⟨some 18, some (15, false), .bin .eql (.t 17) (.k (.i .i64 0))⟩,
 qr 19 (.pick (.t 15) (.k (.b true)) (.t 18))])
 (.cond (.t 19)
 (.seq (.reg [qr 4 (.mv (.k .nl))])
 (.ret))
 (.skip)))
 (.seq (.reg [qm 20 0,
 qr 21 (.len (.t 20)),
 qm 22 1,
 qr 23 (.len (.t 22)),
 qr 24 (.bin .add (.t 21) (.t 23)),
 qr 25 (.bin .sub (.t 24) (.k (.i .i64 1))),
 qr 26 (.mk 27 2 32 [(.b false), (.l 1 [])] (.t 25) (.t 25)),
 qm 5 26])
 (.seq (.seq (.reg [qm 27 0,
 qr 28 (.len (.t 27)),
 qr 29 (.mv (.k (.i .i64 0)))])
 (.blk 0
 (.loop
 (.seq (.reg [qr 30 (.bin .lss (.t 29) (.t 28))])
 (.seq (.cond (.t 30)
 (.skip)
 (.exit 0))
 (.seq (.blk 1
 (.seq (.reg [qm 31 29,
 qm 6 31])
 (.seq (.reg [qm 32 1,
 qr 33 (.len (.t 32)),
 qr 34 (.mv (.k (.i .i64 0)))])
 (.blk 2
 (.loop
 (.seq (.reg [qr 35 (.bin .lss (.t 34) (.t 33))])
 (.seq (.cond (.t 35)
 (.skip)
 (.exit 2))
 (.seq (.blk 3
 (.seq (.reg [qm 36 34,
 qm 7 36])
 (.dreg [qm 37 5,
 qm 38 6,
 qm 39 7,
 qr 40 (.bin .add (.t 38) (.t 39)),
 qm 41 5,
 qm 42 6,
 qm 43 7,
 qr 44 (.bin .add (.t 42) (.t 43)),
 qr 45 (.idx 2 (.t 41) (.t 44)),
 qr 46 (.ld true 2 (.t 45)),
 qm 47 0,
 qm 48 6,
 qr 49 (.idx 2 (.t 47) (.t 48)),
 qr 50 (.ld true 2 (.t 49)),
 qm 51 1,
 qm 52 7,
 qr 53 (.idx 2 (.t 51) (.t 52)),
 qr 54 (.ld true 2 (.t 53)),
 qr 55 (.call 34 [(1, (.t 50)), (1, (.t 54))]),
 qr 56 (.call 67 [(1, (.t 46)), (1, (.t 55))]),
 qr 57 (.idx 2 (.t 37) (.t 40)),
 qn (.st 2 (.t 57) (.t 56))])))
 (.reg [qr 58 (.bin .add (.t 34) (.k (.i .i64 1))),
 qm 34 58])))))))))
 (.reg [qr 59 (.bin .add (.t 29) (.k (.i .i64 1))),
 qm 29 59])))))))
 (.seq (.reg [qm 60 5,
 qr 61 (.call 45 [(2, (.t 60))]),
 qm 4 61])
 (.ret))))))
theorem zpmul_spec (p q : List (Bool × List Nat)) (m : Nat) (hm : m ≤ 49000000) (lp : p.length ≤ 1000) (lq : q.length ≤ 1000) (cp : Zk p m) (cq : Zk q m) : AFun Tryz.prog J0 38 [.l 2 (ZC p), .l 2 (ZC q)] (.l 2 (ZC (nfl (mull (tzi (zcs p)) (tzi (zcs q)))))) := by
  have n1 := (zpnorm_spec p m (by omega) (by omega) cp).frozen
  have n2 := (zpnorm_spec q m (by omega) (by omega) cq).frozen
  have ca := Cz_tzi (Zk_Cz cp)
  have cb := Cz_tzi (Zk_Cz cq)
  have la := Nat.le_trans (tzi_len (zcs p)) (by rw [zcs_len]; exact lp)
  have lb := Nat.le_trans (tzi_len (zcs q)) (by rw [zcs_len]; exact lq)
  generalize tzi (zcs p) = a at *
  generalize tzi (zcs q) = b at *
  have ha := ZN_len a
  have hb := ZN_len b
  have hda : a.length * 2 / 2 = a.length := by omega
  have hdb : b.length * 2 / 2 = b.length := by omega
  by_cases ha0 : a.length = 0
  · rw [show mull a b = [] from if_pos (.inl ha0)]
    have ha0I : (a.length : Int) = 0 := by omega
    refine mkQ fol J0s Tryz.func38 a38 ?_
    unfold a38
    simp only [init_eq, initE, qm, qr, qn]
    repeat first | (refine hK _ ?_; clear hK K) | simp only [Sv, ↓reduceIte, Nat.reduceEqDiff] | ((first | refine vm_reg (fun K hK => ?_) | refine vm_dreg (fun K hK => ?_) | refine vm_dregx (fun K hK => ?_) | refine clp_q ?_ | refine clq_mk (by assumption) ?_ | refine mcq_q ?_ | (apply mcr_mk; assumption) | (apply ocr_mk; assumption)); simp (disch := (first | omega | assumption)) only [S1, ↓reduceIte, Nat.reduceEqDiff, Nat.reduceAdd, Nat.reduceMul, Nat.reduceDiv, AOp.sb, AOp.mut, frzf, ↓Bool.false_eq_true, beq_self_eq_true, ite_self, Nat.reduceLeDiff, Int.reduceEq, Int.reduceSub, Int.reduceAdd, Int.reduceNeg, Int.reduceLT, Int.reduceLE, Nat.reduceLT, bz_T1, ha, hb, hda, hdb, ha0I, show ZC (nfl []) = [] from rfl])
    simp (disch := (first | omega | assumption)) only [retOk, retN, ret1, retF, ret1F, V.okArg, and_true, true_and, S1, ↓reduceIte, Nat.reduceEqDiff, Nat.reduceAdd, Nat.reduceMul, Nat.reduceDiv, AOp.sb, AOp.mut, frzf, ↓Bool.false_eq_true, beq_self_eq_true, ite_self, Nat.reduceLeDiff, Int.reduceEq, Int.reduceSub, Int.reduceAdd, Int.reduceNeg, Int.reduceLT, Int.reduceLE, Nat.reduceLT, bz_T1, ha, hb, hda, hdb, ha0I, show ZC (nfl []) = [] from rfl]
  · by_cases hb0 : b.length = 0
    · rw [show mull a b = [] from if_pos (.inr hb0)]
      have ha0I : ¬ (a.length : Int) = 0 := by omega
      have hb0I : (b.length : Int) = 0 := by omega
      refine mkQ fol J0s Tryz.func38 a38 ?_
      unfold a38
      simp only [init_eq, initE, qm, qr, qn]
      repeat first | (refine hK _ ?_; clear hK K) | simp only [Sv, ↓reduceIte, Nat.reduceEqDiff] | ((first | refine vm_reg (fun K hK => ?_) | refine vm_dreg (fun K hK => ?_) | refine vm_dregx (fun K hK => ?_) | refine clp_q ?_ | refine clq_mk (by assumption) ?_ | refine mcq_q ?_ | (apply mcr_mk; assumption) | (apply ocr_mk; assumption)); simp (disch := (first | omega | assumption)) only [S1, ↓reduceIte, Nat.reduceEqDiff, Nat.reduceAdd, Nat.reduceMul, Nat.reduceDiv, AOp.sb, AOp.mut, frzf, ↓Bool.false_eq_true, beq_self_eq_true, ite_self, Nat.reduceLeDiff, Int.reduceEq, Int.reduceSub, Int.reduceAdd, Int.reduceNeg, Int.reduceLT, Int.reduceLE, Nat.reduceLT, bz_T1, ha, hb, hda, hdb, ha0I, hb0I, show ZC (nfl []) = [] from rfl])
      simp (disch := (first | omega | assumption)) only [retOk, retN, ret1, retF, ret1F, V.okArg, and_true, true_and, S1, ↓reduceIte, Nat.reduceEqDiff, Nat.reduceAdd, Nat.reduceMul, Nat.reduceDiv, AOp.sb, AOp.mut, frzf, ↓Bool.false_eq_true, beq_self_eq_true, ite_self, Nat.reduceLeDiff, Int.reduceEq, Int.reduceSub, Int.reduceAdd, Int.reduceNeg, Int.reduceLT, Int.reduceLE, Nat.reduceLT, bz_T1, ha, hb, hda, hdb, ha0I, hb0I, show ZC (nfl []) = [] from rfl]
    · have ha0I : ¬ (a.length : Int) = 0 := by omega
      have hb0I : ¬ (b.length : Int) = 0 := by omega
      obtain ⟨n, hn⟩ : ∃ n, n = a.length + b.length - 1 := ⟨_, rfl⟩
      have hnI : (a.length : Int) + (b.length : Int) - 1 = (n : Int) := by omega
      have hn0 : (0 : Int) ≤ (n : Int) := by omega
      have hml := mulF_len a b n
      have hmc := fun i (hi : i ≤ 1000) => Cz_mulF (n := n) ca cb hi
      have hno := zpnormN (mulF a b n a.length) (2 * m + 1) (by omega) (by rw [hml]; omega) (hmc _ la)
      rw [show tzi (mulF a b n a.length) = mull a b from by unfold mull; rw [if_neg (by omega), hn]] at hno
      generalize mull a b = res at *
      refine mkQ fol J0s Tryz.func38 a38 ?_
      unfold a38
      simp only [init_eq, initE, qm, qr, qn]
      refine wkQ (ai @mk_ZC (ai @hn0 (ai @hnI (ai @hb0I (ai @ha0I (ai @hdb (ai @hda (ai @hb (ai @ha @bz_T1))))))))) ?_
      refine vm_loopA [] Nat (fun i => ⟨[(0, .l 2 (ZC (nfl a))), (1, .l 2 (ZC (nfl b))), (5, .ow 2 0 n), (28, .i .i64 (a.length : Int)), (29, .i .i64 (i : Int))],
          [(0, some ⟨27, 2, ZC (nfl (mulF a b n i)), true, false⟩)], 1⟩)
        (fun i => i ≤ a.length) (fun i => a.length - i) 0 (Nat.zero_le _) (by exact leQ) (by
        exact ltQ) ?_
      intro i hi Q' hQ he hr
      by_cases h : (i : Int) < (a.length : Int)
      · have hra := ZN_row a i (by omega)
        have cai := pup (ca i) (show m ≤ 2 * m + 1 by omega)
        have hme := mrow_len (mulF a b n i) i (a.getD i 0) b
        have hmb : ∀ j, j ≤ b.length → ∀ k, ((mrow (mulF a b n i) i (a.getD i 0) b j).getD k 0).natAbs < B ^ (2 * m + 1) := fun j hj k => by
          have h1 := mrow_Cb (O := mulF a b n i) (i := i) (m := B ^ m) (Nat.le_of_lt (ca i)) (fun u => Nat.le_of_lt (cb u)) j k
          have h2 := mulF_Cb (n := n) (m := B ^ m) (fun u => Nat.le_of_lt (ca u)) (fun u => Nat.le_of_lt (cb u)) i k
          have h3 : ((mrow (mulF a b n i) i (a.getD i 0) b j).getD k 0).natAbs ≤ (i + 1) * (B ^ m * B ^ m) := by
            rw [Nat.succ_mul]
            refine Nat.le_trans h1 (Nat.add_le_add h2 ?_)
            split
            · exact Nat.le_refl _
            · exact Nat.zero_le _
          refine Nat.lt_of_le_of_lt h3 ?_
          rw [← Nat.pow_add, show m + m = 2 * m from by omega, Nat.pow_succ, Nat.mul_comm (i + 1)]
          exact Nat.mul_lt_mul_of_pos_left (Nat.lt_of_le_of_lt (show i + 1 ≤ 1000 by omega) (by decide)) (Nat.pow_pos B0)
        have hmi : mulF a b n (i + 1) = mrow (mulF a b n i) i (a.getD i 0) b b.length := rfl
        have hm0 : mrow (mulF a b n i) i (a.getD i 0) b 0 = mulF a b n i := rfl
        have hpx : ∀ j, (a.getD i 0 * b.getD j 0).natAbs < B ^ (2 * m + 1) := fun j => by
          rw [Int.natAbs_mul]
          exact pup (pmul (ca i) (cb j)) (by omega)
        generalize a.getD i 0 = x at *
        rw [hml] at hme
        obtain ⟨O, hO⟩ : ∃ O, O = mulF a b n i := ⟨_, rfl⟩
        rw [← hO] at hme hmb hmi hm0
        rw [← hO]
        refine spQ (ai @hdb (ai @hb (ai @h @bz_T1))) ?_
        refine vm_loopA [] Nat (fun j => ⟨[(0, .l 2 (ZC (nfl a))), (1, .l 2 (ZC (nfl b))), (5, .ow 2 0 n), (6, .i .i64 (i : Int)), (28, .i .i64 (a.length : Int)), (29, .i .i64 (i : Int)), (33, .i .i64 (b.length : Int)), (34, .i .i64 (j : Int))],
            [(0, some ⟨27, 2, ZC (nfl (mrow O i x b j)), true, false⟩)], 1⟩)
          (fun j => j ≤ b.length) (fun j => b.length - j) 0 (Nat.zero_le _) (by exact leQ) (by
          simp (disch := (first | omega | assumption)) only [Sl, Sa, Sw, ↓reduceIte, Nat.reduceEqDiff, Nat.reduceLT, List.all_nil, List.all_cons, Nat.reduceBneDiff, Nat.reduceAdd, bne_iff_ne, ne_eq, reduceCtorEq, not_false_eq_true, not_true_eq_false, Bool.and_true, Bool.true_and, and_true, true_and, and_self, i_eq]
          rw [hm0]
          repeat' first | rfl | omega | (simp only [List.length_append, List.length_cons, List.length_nil]; done) | apply And.intro) ?_
        intro j hj Q2 hQ2 he2 hr2
        by_cases h2 : (j : Int) < (b.length : Int)
        · have hrb := ZN_row b j (by omega)
          have cbj := pup (cb j) (show m ≤ 2 * m + 1 by omega)
          have hro := ZN_row (mrow O i x b j) (i + j) (by rw [hme]; omega)
          have hlo := ZN_len (mrow O i x b j)
          rw [hme] at hlo
          have hst := ZN_set (mrow O i x b j) (i + j) ((mrow O i x b j).getD (i + j) 0 + x * b.getD j 0)
          rw [show (mrow O i x b j).set (i + j) ((mrow O i x b j).getD (i + j) 0 + x * b.getD j 0) = mrow O i x b (j + 1) from rfl] at hst
          have ho := hmb j hj (i + j)
          have c1 := zmulN cai cbj (by omega)
          have c2 := zaddN ho (hpx j) (by omega)
          have tij : ((i : Int) + (j : Int)).toNat = i + j := by omega
          have eij : (i : Int) + (j : Int) < (n : Int) := by omega
          clear hmb hpx hmc
          generalize x * b.getD j 0 = xy at *
          generalize (mrow O i x b j).getD (i + j) 0 = o at *
          generalize o + xy = s at *
          generalize b.getD j 0 = y at *
          refine wkQ (ai @hst (ai @tij (ai @hlo (ai @hro (ai @hrb (ai @hra (ai @hb (ai @ha (ai @h2 @bz_T1))))))))) ?_
          refine hQ2 _ (j + 1) (by omega) (by omega) ?_
          exact ltQ
        · obtain rfl : j = b.length := by omega
          refine spQ (ai @h2 @bz_T1) ?_
          refine he2 _ _ ?_
          refine spQ @bz_T1 ?_
          refine hQ _ (i + 1) (by omega) (by omega) ?_
          simp only [hmi]
          exact ltQ
      · obtain rfl : i = a.length := by omega
        refine spQ (ai @h @bz_T1) ?_
        refine he _ _ ?_
        exact wdQ @bz_T1
end Go.Proofs.YtbkpaeejjepnpaaGreat
