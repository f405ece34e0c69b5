/-
  Texts: integers read by the program; printed and read by the document.
-/
import Derived.Test.YtgbcjikcgckhbaaDoorZT1
import Derived.Test.YtgbcjikcgckhbaaDoorLZKn
namespace Go.Proofs.YtgbcjikcgckhbaaDoor
open Go Go.RowKit Ab
set_option linter.unusedSimpArgs false
set_option linter.unusedVariables false
set_option maxHeartbeats 10000000
theorem bz_ZT2 : type_of% (And.intro @W_len (And.intro @Nat.div_one (And.intro @Nat.mul_one (And.intro @tn_nat (And.intro @W_nf (And.intro @W_nil (And.intro @wi (And.intro @nf_g (And.intro @Bool.false_and (And.intro @W_cell (@W_get))))))))))) := And.intro @W_len (And.intro @Nat.div_one (And.intro @Nat.mul_one (And.intro @tn_nat (And.intro @W_nf (And.intro @W_nil (And.intro @wi (And.intro @nf_g (And.intro @Bool.false_and (And.intro @W_cell (@W_get))))))))))
theorem valZ_I (s : List UInt8) : valZ s = zI (ngT s) (numT (bdT s)) := rfl
theorem bdT_len (s : List UInt8) : (bdT s).length ≤ s.length := by
  unfold bdT; split
  · rw [List.length_drop]; omega
  · exact Nat.le_refl _
theorem numT_lt {t : List UInt8} (h : ∀ c, c ∈ t → isDg c = true) : numT t < B ^ t.length := by
  have h1 := nv_lt (dgsT_lt h)
  have hl : (dgsT t).length = t.length := by unfold dgsT; rw [List.length_map, List.length_reverse]
  rw [hl] at h1
  exact Nat.lt_of_lt_of_le h1 (Nat.pow_le_pow_left (by decide) _)
theorem zprintN {z : Int} {m : Nat} (h : z.natAbs < B ^ m) (hm : m ≤ 10000000) : AFun Tryd.prog J0 5 [zN z] (.s (zS z)) := by
  have := zprint_spec (decide (z < 0)) (dg B z.natAbs) m hm (Wd_dg _) (dlen h)
  rwa [zv_N] at this
theorem numT_lt16 {t : List UInt8} (h : ∀ c, c ∈ t → isDg c = true) : numT t < B ^ (t.length / 16 + 1) := by
  have h1 := nv_lt (dgsT_lt h)
  have hl : (dgsT t).length = t.length := by unfold dgsT; rw [List.length_map, List.length_reverse]
  rw [hl] at h1
  refine Nat.lt_of_lt_of_le h1 (Nat.le_trans (Nat.pow_le_pow_left (by decide : 10 ≤ 2 ^ 4) _) ?_)
  rw [← Nat.pow_mul, B_two]
  exact Nat.pow_le_pow_right (by decide) (by omega)
def pzV (s : List UInt8) : Int := if okZ s then valZ s else 0
def pzE (s : List UInt8) : Int := if okZ s then 0 else 5
theorem pz_neg {s : List UInt8} (h : ¬ okZ s = true) : pzV s = 0 ∧ pzE s = 5 := ⟨if_neg h, if_neg h⟩
theorem pz_pos {s : List UInt8} (h : okZ s = true) : pzV s = valZ s ∧ pzE s = 0 := ⟨if_pos h, if_pos h⟩
theorem pzV_lt {s : List UInt8} {m : Nat} (hm : s.length ≤ m) : (pzV s).natAbs < B ^ m := by
  unfold pzV; split
  · rename_i h
    unfold okZ at h
    rw [Bool.and_eq_true] at h
    rw [valZ_I, zI_abs]
    exact Nat.lt_of_lt_of_le (numT_lt (okN_iff.1 h.1).2.2) (Nat.pow_le_pow_right B0 (Nat.le_trans (bdT_len s) hm))
  · exact Nat.pow_pos B0
def a7 : AC := .seq (.reg [qr 2 (.al 25 [(.b false), (.l 1 [])]),
 qr 3 (.mv (.k (.i .i64 0)))])
 (.seq (.reg [qm 10 0,
 qr 11 (.call 18 [(1, (.t 10)), (1, (.k (.s [45])))]),
 qm 9 11,
 qr 12 (.ext (.t 9) 0),
 qr 13 (.ext (.t 9) 1),
 qm 4 12,
 qm 5 13])
 (.seq (.reg [qm 15 4,
 qr 16 (.call 19 [(1, (.t 15))]),
 qm 14 16,
 qr 17 (.ext (.t 14) 0),
 qr 18 (.ext (.t 14) 1),
 qm 6 17,
 qm 7 18])
 (.seq (.seq (.reg [qm 19 7,
 qr 20 (.bin .neq (.t 19) (.k (.i .i64 0)))])
 (.cond (.t 20)
 (.seq (.reg [qr 21 (.bld [(.b false), (.l 1 [])] []),
 qn (.st 2 (.t 2) (.t 21)),
 qr 3 (.mv (.k (.i .i64 5)))])
 (.ret))
 (.skip)))
 (.seq (.reg [qm 22 5,
 qm 23 6,
 qr 24 (.call 20 [(1, (.t 22)), (1, (.t 23))]),
 qr 8 (.al 25 [(.b false), (.l 1 [])]),
 qn (.st 2 (.t 8) (.t 24))])
 (.seq (.seq (.reg [qr 25 (.ld true 2 (.t 8)),
 qr 26 (.call 5 [(1, (.t 25))]),
 qm 27 0,
 qr 28 (.bin .neq (.t 26) (.t 27))])
 (.cond (.t 28)
 (.seq (.reg [qr 29 (.bld [(.b false), (.l 1 [])] []),
 qn (.st 2 (.t 2) (.t 29)),
 qr 3 (.mv (.k (.i .i64 5)))])
 (.ret))
 (.skip)))
 (.seq (.reg [qr 30 (.ld true 2 (.t 8)),
 qn (.st 2 (.t 2) (.t 30)),
 qr 3 (.mv (.k (.i .i64 0)))])
 (.ret)))))))
theorem zparse_spec (s : List UInt8) (hs : s.length ≤ 100000000) : AFun Tryd.prog J0 7 [.s s] (.t [zN (pzV s), .i .i64 (pzE s)]) := by
  have h1 := scutp_spec s (by omega)
  have hb := bdT_len s
  have h2 := rparse_spec (bdT s) (by omega)
  by_cases hk : okN (bdT s) = true
  · obtain ⟨e1, e2⟩ := nu_pos hk
    have hlt := numT_lt16 (okN_iff.1 hk).2.2
    rw [e1, e2] at h2
    have h3 := zof_spec (ngT s) (numT (bdT s))
    have habs : (zI (ngT s) (numT (bdT s))).natAbs < B ^ ((bdT s).length / 16 + 1) := by rw [zI_abs]; exact hlt
    have h4 := zprintN habs (by omega)
    by_cases hz : okZ s = true
    · obtain ⟨f1, f2⟩ := pz_pos hz
      have hp := zS_okZ hz
      have hss : (s == s) = true := by simp
      rw [f1, f2, valZ_I]
      rw [valZ_I] at hp
      generalize zI (ngT s) (numT (bdT s)) = z at *
      refine mkcQ fol J0s Tryd.func7 a7 [.c 2 true 2, .t 3] ?_
      unfold a7
      simp only [init_eq, initE, qm, qr, qn]
      exact wcQ (ai @hss (ai @hp (ai @lconsA (ai @lnilA @bz_ZT2))))
    · obtain ⟨f1, f2⟩ := pz_neg hz
      rw [f1, f2]
      have hng : ngT s = true ∧ numT (bdT s) = 0 := by
        unfold okZ at hz
        rw [hk, Bool.true_and] at hz
        simpa using hz
      have hne : ¬ zS (zI (ngT s) (numT (bdT s))) = s := fun e => by
        rw [hng.2] at e
        rw [← e] at hng
        rw [show zI (ngT s) 0 = 0 from by unfold zI; split <;> rfl] at hng
        exact absurd hng.1 (by decide)
      have hnb : (zS (zI (ngT s) (numT (bdT s))) == s) = false := by simpa using hne
      generalize zI (ngT s) (numT (bdT s)) = z at *
      refine mkcQ fol J0s Tryd.func7 a7 [.c 2 true 2, .t 3] ?_
      unfold a7
      simp only [init_eq, initE, qm, qr, qn]
      exact wcQ (ai @zN_0 (ai @hnb (ai @lconsA (ai @lnilA @bz_ZT2))))
  · obtain ⟨e1, e2⟩ := nu_neg hk
    rw [e1, e2] at h2
    obtain ⟨f1, f2⟩ := pz_neg (s := s) (fun h => hk (by unfold okZ at h; rw [Bool.and_eq_true] at h; exact h.1))
    rw [f1, f2]
    refine mkcQ fol J0s Tryd.func7 a7 [.c 2 true 2, .t 3] ?_
    unfold a7
    simp only [init_eq, initE, qm, qr, qn]
    exact wcQ (ai @zN_0 (ai @lconsA (ai @lnilA @bz_ZT2)))
theorem chr_take {d : List Nat} {i : Nat} (hil : i < d.length) : [chr (d.getD i 0)] ++ (d.take i).reverse.map chr = (d.take (i + 1)).reverse.map chr := by
  have e : d.getD i 0 = d[i] := by rw [List.getD_eq_getElem?_getD, List.getElem?_eq_getElem hil]; rfl
  rw [e, List.take_succ_eq_append_getElem hil, List.reverse_append, List.map_append]; rfl
def a8 : AC := .seq (.reg [qr 1 (.bx 25 (.t 0)),
 qr 2 (.mv (.k (.s [])))])
 (.seq (.reg [qr 7 (.ld true 2 (.t 1)),
 qr 8 (.call 10 [(1, (.t 7))]),
 qn (.st 2 (.t 1) (.t 8))])
 (.seq (.reg [qr 10 (.fad 1 (.t 1)),
 qr 11 (.ld false 1 (.t 10)),
 qr 12 (.call 21 [(1, (.t 11)), (1, (.k (.i .u64 10)))]),
 qm 9 12,
 qr 13 (.ext (.t 9) 0),
 qr 14 (.ext (.t 9) 1),
 qm 3 13,
 qm 4 14])
 (.seq (.reg [qr 5 (.mv (.k (.s [])))])
 (.seq (.seq (.reg [qr 6 (.mv (.k (.i .i64 0)))])
 (.blk 0
 (.loop
 (.seq (.seq (.reg [qm 15 6,
 qm 16 3,
 qr 17 (.len (.t 16)),
 qr 18 (.bin .lss (.t 15) (.t 17))])
 (.cond (.t 18)
 (.skip)
 (.exit 0)))
 (.seq (.blk 1
 (.reg [qm 21 3,
 qm 22 6,
 qr 23 (.idx 1 (.t 21) (.t 22)),
 qr 24 (.ld false 1 (.t 23)),
 qr 25 (.bin .add (.k (.i .u64 48)) (.t 24)),
 qr 26 (.cvt .u8 (.t 25)),
 qr 27 (.bsl 5 1 1 [(.i .u8 0)] [(0, (.t 26))]),
 qr 28 (.pur .b2s [(.t 27)]),
 qm 29 5,
 qr 30 (.bin .add (.t 28) (.t 29)),
 qm 5 30]))
 (.reg [qm 19 6,
 qr 20 (.bin .add (.t 19) (.k (.i .i64 1))),
 qm 6 20]))))))
 (.seq (.seq (.reg [qm 31 5,
 qr 32 (.bin .eql (.t 31) (.k (.s [])))])
 (.cond (.t 32)
 (.seq (.reg [qr 2 (.mv (.k (.s [48])))])
 (.ret))
 (.skip)))
 (.seq (.seq (.reg [qr 33 (.fad 0 (.t 1)),
 qr 34 (.ld false 1 (.t 33))])
 (.cond (.t 34)
 (.seq (.reg [qm 35 5,
 qr 36 (.bin .add (.k (.s [45])) (.t 35)),
 qm 2 36])
 (.ret))
 (.skip)))
 (.seq (.reg [qm 37 5,
 qm 2 37])
 (.ret))))))))
theorem rzprint_spec (s : Bool) (a : List Nat) (m : Nat) (hm : m ≤ 10000000) (ha : Wd a) (la : a.length ≤ m) : AFun Tryd.prog J0 8 [zL s a] (.s (zS (zv s a))) := by
  have h1 := rznorm_spec s a ha (by omega)
  have b1 := zv_lt (s := s) ha la
  generalize zv s a = z at *
  have h2 := rdigs_spec (dg B z.natAbs) 10 (Wd_dg _) (by decide) (Nat.le_trans (dlen b1) hm)
  rw [nv_dgB, show dgE 10 = 0 from rfl, show dgD z.natAbs 10 = dg 10 z.natAbs from rfl] at h2
  have l1 := dg_len10 (by rw [← B_two]; exact b1 : z.natAbs < 2 ^ (64 * m))
  have hlt := dg_lt_ten z.natAbs
  have hn : dg 10 z.natAbs = [] ↔ z.natAbs = 0 := dg_nil (by decide)
  have omap : ∀ x : List UInt8, (some x).map V.s = some (.s x) := fun _ => rfl
  have hz1 : zN z = .g [.b (decide (z < 0)), .l 1 (W (dg B z.natAbs))] := rfl
  rw [hz1] at h1
  have hzS : zS z = if z < 0 then 45 :: (if z.natAbs = 0 then [48] else (dg 10 z.natAbs).reverse.map chr) else (if z.natAbs = 0 then [48] else (dg 10 z.natAbs).reverse.map chr) := rfl
  generalize dg 10 z.natAbs = d at *
  refine mkQ fol J0s Tryd.func8 a8 ?_
  unfold a8
  simp only [init_eq, initE, qm, qr, qn]
  refine wkQ (ai @lconsA (ai @lnilA @bz_ZT2)) ?_
  refine vm_loopA [] Nat (fun i => ⟨[(1, .pt 0 0), (3, .l 1 (W d)), (5, .s ((d.take i).reverse.map chr)), (6, .i .i64 (i : Int))], [(0, some ⟨25, 2, [.b (decide (z < 0)), .l 1 (W (dg B z.natAbs))], true, true⟩)], 1⟩)
    (fun i => i ≤ d.length) (fun i => d.length - i) 0 (Nat.zero_le _) (by exact leQ) (by
    simp (disch := (first | omega | assumption)) only [Sl, Sa, Sw, ↓reduceIte, Nat.reduceEqDiff, Nat.reduceLT, List.all_nil, List.all_cons, Nat.reduceBneDiff, Nat.reduceAdd, bne_iff_ne, ne_eq, reduceCtorEq, not_false_eq_true, not_true_eq_false, Bool.and_true, Bool.true_and, and_true, true_and, and_self, i_eq]
    exact ⟨by rw [List.take_zero]; rfl, rfl⟩) ?_
  intro i hi Q' hQ he hr
  by_cases h : (i : Int) < (d.length : Int)
  · have hil : i < d.length := by omega
    have hdi : d.getD i 0 < 10 := by rw [List.getD_eq_getElem?_getD, List.getElem?_eq_getElem hil]; exact hlt _ (List.getElem_mem _)
    have hgi := W_get d i hil
    have c1 := chr_n hdi
    have w1 : IntKind.u64.wrap (48 + ((d.getD i 0 : Nat) : Int)) = ((48 + d.getD i 0 : Nat) : Int) := by rw [wu (by omega)]; omega
    have w2 : IntKind.u8.wrap ((48 + d.getD i 0 : Nat) : Int) = ((chr (d.getD i 0)).toNat : Int) := by
      rw [c1]
      show ((48 + d.getD i 0 : Nat) : Int) % 256 = _
      omega
    have hby : bytesOf [V.i .u8 ((chr (d.getD i 0)).toNat : Int)] = some [chr (d.getD i 0)] := bytesOf_Bt [chr (d.getD i 0)]
    have hcat := chr_take hil
    have hcl : ([chr (d.getD i 0)] : List UInt8).length + ((d.take i).reverse.map chr).length ≤ 9223372036854775807 := by
      rw [List.length_map, List.length_reverse, List.length_take, List.length_singleton]; omega
    generalize chr (d.getD i 0) = c at *
    generalize (d.take i).reverse.map chr = tx at *
    refine spQ (ai @hcat (ai @hcl (ai @omap (ai @hby (ai @w2 (ai @w1 (ai @hgi (ai @h (ai @lconsA (ai @lnilA @bz_ZT2)))))))))) ?_
    refine hQ _ (i + 1) (by omega) (by omega) ?_
    exact ltQ
  · obtain rfl : i = d.length := by omega
    rw [List.take_length]
    by_cases hz : z.natAbs = 0
    · have e0 : d = [] := hn.2 hz
      have hp : ¬ z < 0 := by omega
      rw [if_neg hp, if_pos hz] at hzS
      refine spQ (ai @h (ai @lconsA (ai @lnilA @bz_ZT2))) ?_
      refine he _ _ ?_
      subst e0
      have e9 : (([] : List Nat).reverse.map chr == []) = true := rfl
      refine spQ (ai @e9 (ai @lconsA (ai @lnilA @bz_ZT2))) ?_
      exact rtQ (ai @hzS (ai @lconsA (ai @lnilA @bz_ZT2)))
    · have hne : d ≠ [] := fun e => hz (hn.1 e)
      have hne2 : (d.reverse.map chr == []) = false := by simpa using hne
      have hln : ([45] : List UInt8).length + (d.reverse.map chr).length ≤ 9223372036854775807 := by
        rw [List.length_map, List.length_reverse, List.length_singleton]; omega
      have e2 : ([45] : List UInt8) ++ d.reverse.map chr = 45 :: d.reverse.map chr := rfl
      rw [if_neg hz] at hzS
      generalize d.reverse.map chr = tx at *
      by_cases hp : z < 0
      · rw [if_pos hp] at hzS
        refine spQ (ai @h (ai @lconsA (ai @lnilA @bz_ZT2))) ?_
        refine he _ _ ?_
        refine spQ (ai @e2 (ai @hln (ai @hp (ai @hne2 (ai @lconsA (ai @lnilA @bz_ZT2)))))) ?_
        exact rtQ (ai @hzS (ai @lconsA (ai @lnilA @bz_ZT2)))
      · rw [if_neg hp] at hzS
        refine spQ (ai @h (ai @lconsA (ai @lnilA @bz_ZT2))) ?_
        refine he _ _ ?_
        refine spQ (ai @hp (ai @hne2 (ai @lconsA (ai @lnilA @bz_ZT2)))) ?_
        exact rtQ (ai @hzS (ai @lconsA (ai @lnilA @bz_ZT2)))
end Go.Proofs.YtgbcjikcgckhbaaDoor
