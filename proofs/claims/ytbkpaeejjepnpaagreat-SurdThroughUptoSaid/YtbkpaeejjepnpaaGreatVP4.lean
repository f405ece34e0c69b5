/-
  evals.Through.
-/
import Derived.Test.YtbkpaeejjepnpaaGreatVP3
namespace Go.Proofs.YtbkpaeejjepnpaaGreat
open Go Go.RowKit Ab
set_option linter.unusedSimpArgs false
set_option linter.unusedVariables false
set_option maxHeartbeats 10000000
theorem bz_VP4 : type_of% (And.intro @W_len (And.intro @D_len (And.intro @Nat.div_one (And.intro @Nat.mul_one (And.intro @tn_nat (And.intro @W_nf (And.intro @D_nf (And.intro @W_nil (And.intro @D_nil (And.intro @wi (And.intro @nf_g (And.intro @Bool.false_and (And.intro @W_cell (@RC_nf)))))))))))))) := And.intro @W_len (And.intro @D_len (And.intro @Nat.div_one (And.intro @Nat.mul_one (And.intro @tn_nat (And.intro @W_nf (And.intro @D_nf (And.intro @W_nil (And.intro @D_nil (And.intro @wi (And.intro @nf_g (And.intro @Bool.false_and (And.intro @W_cell (@RC_nf)))))))))))))
theorem rL_nqp (p : Rat) : rL (nqp p).1 (nqp p).2.1 (nqp p).2.2 = rN p.num p.den := rfl
theorem Cq_qk {l : List Rat} {m : Nat} (h : Cq l m) : Qk (nfq l) m := Qk_nfq h
theorem thr_round {k : R3} {Q0 : List Rat} {G M0 n m wl T : Nat} (hm : m ≤ 1048577) (hk : Qk k m) (hkn : k.length = n) (hn : n ≤ 12) (hQl : Q0.length = n) (hQ : PB Q0 G M0) (hdis : ∀ i j, i < n → j < i → (qcs k).getD i 0 ≠ (qcs k).getD j 0)
    (hG : G ≤ B ^ wl) (hM : M0 ≤ B ^ wl) (hT : wl + wt k ≤ T) (hTT : T = 1048576) (i : Nat) (hi : i < n) :
    ∃ (hb hs lk c : Rat) (ST L : List V),
      AFun Tryz.prog J0 29 [.l 3 (RC (nfq (thS (qcs k) Q0 i).2.1)), rL (k.getD i nul3).1 (k.getD i nul3).2.1 (k.getD i nul3).2.2] (.t [rN hb.num hb.den, .i .i64 0]) ∧
      AFun Tryz.prog J0 61 [rN hb.num hb.den] (.t [.i .i64 (sgz hb.num), .i .i64 0]) ∧ ¬ sgz hb.num = 0 ∧
      AFun Tryz.prog J0 29 [.l 3 (RC (nfq (thS (qcs k) Q0 i).1)), rL (k.getD i nul3).1 (k.getD i nul3).2.1 (k.getD i nul3).2.2] (.t [rN hs.num hs.den, .i .i64 0]) ∧
      AFun Tryz.prog J0 49 [rN (val Q0 ((qcs k).getD i 0)).num (val Q0 ((qcs k).getD i 0)).den, rN hs.num hs.den] (.t [rN lk.num lk.den, .i .i64 0]) ∧
      AFun Tryz.prog J0 48 [rN lk.num lk.den, rN hb.num hb.den] (.t [rN c.num c.den, .i .i64 0]) ∧
      AFun Tryz.prog J0 15 [.l 3 (RC (nfq (thS (qcs k) Q0 i).2.1)), rN c.num c.den] (.t [.l 3 ST, .i .i64 0]) ∧
      AFun Tryz.prog J0 22 [.l 3 (RC (nfq (thS (qcs k) Q0 i).1)), .l 3 ST] (.t [.l 3 (RC (nfq (thS (qcs k) Q0 (i + 1)).1)), .i .i64 0]) ∧
      AFun Tryz.prog J0 55 [rL (k.getD i nul3).1 (k.getD i nul3).2.1 (k.getD i nul3).2.2] (.l 3 L) ∧
      AFun Tryz.prog J0 13 [.l 3 (RC (nfq (thS (qcs k) Q0 i).2.1)), .l 3 L] (.t [.l 3 (RC (nfq (thS (qcs k) Q0 (i + 1)).2.1)), .i .i64 0]) := by
  have h := thS_Nw hk hkn hn hQl hQ hdis i (by omega)
  obtain ⟨w1, w2, l1, l2, h0⟩ := hk _ (getD_mem (l := k) (i := i) (by omega))
  have hx := raw_Sx (k.getD i nul3).1 w1 w2 h0
  have hxe : (qcs k).getD i 0 = mkRat (zv (k.getD i nul3).1 (k.getD i nul3).2.1) (nv B (k.getD i nul3).2.2) := qcs_get k i (by omega)
  rw [← hxe] at hx
  obtain ⟨s1, s2, s3, s4⟩ := Nw_step hx rfl hn hi h (fun j hj => hdis i j hi hj)
  have hw := wt_one (k := k) (i := i) (by omega)
  have hY := YY_le k i (by omega)
  have hY1 := YY_le k (i + 1) (by omega)
  have hP := Nat.le_trans (PP_le hk i (by omega)).1 hY
  have hP1 := Nat.le_trans (PP_le hk (i + 1) (by omega)).1 hY1
  obtain ⟨z1, z2, z3, z4, z5, z6, z7, z8, z9, z10, z11, z12⟩ := nw_sizes hx hn hi rfl hQ (by omega) hG hM hP hY hP1 hY1 (B_le hw) hT h s4 s3
  have e3 : val Q0 ((qcs k).getD i 0) - val (thS (qcs k) Q0 i).1 ((qcs k).getD i 0) = val (thS (qcs k) Q0 i).2.1 ((qcs k).getD i 0) * val (thS (qcs k) Q0 i).2.2 ((qcs k).getD i 0) := by
    rw [← s2]; grind
  have e4 : val (thS (qcs k) Q0 i).2.1 ((qcs k).getD i 0) * val (thS (qcs k) Q0 i).2.2 ((qcs k).getD i 0) / val (thS (qcs k) Q0 i).2.1 ((qcs k).getD i 0) = val (thS (qcs k) Q0 i).2.2 ((qcs k).getD i 0) := by grind
  have e5 : (thS (qcs k) Q0 (i + 1)).1 = nwS (thS (qcs k) Q0 i).1 (thS (qcs k) Q0 i).2.1 (val (thS (qcs k) Q0 i).2.2 ((qcs k).getD i 0)) := rfl
  have e6 : (thS (qcs k) Q0 (i + 1)).2.1 = nwB (thS (qcs k) Q0 i).2.1 ((qcs k).getD i 0) := rfl
  rw [e5, e6]
  have lS := h.lS
  have lB := h.lB
  have tB := h.tB
  have hPB := h.hB
  clear e5 e6 s2 s3 s4 h hY hY1 hP hP1
  have hXm : B ^ ((k.getD i nul3).2.1.length + (k.getD i nul3).2.2.length) < B ^ (26 * T + 10) := B_lt (Nat.le_refl _) (by omega)
  obtain ⟨mm, hmm⟩ : ∃ mm, mm = 26 * T + 10 := ⟨_, rfl⟩
  obtain ⟨m1, hm1⟩ : ∃ m1, m1 = 13 * T + 10 := ⟨_, rfl⟩
  rw [← hmm] at z1 z2 z3 z4 z7 z8 z9 z10 z11 z12 hXm
  rw [← hm1] at z5 z6
  have hmb : mm ≤ 48000000 := by omega
  have hmb1 : m1 ≤ 23000000 := by omega
  have hmm1 : m1 ≤ mm := by omega
  have hmmk : m ≤ mm := by omega
  generalize (thS (qcs k) Q0 i).2.2 = Q at *
  generalize (thS (qcs k) Q0 i).2.1 = B' at *
  generalize (thS (qcs k) Q0 i).1 = S at *
  have a1 := eat_spec (nfq B') (k.getD i nul3).1 (k.getD i nul3).2.1 (k.getD i nul3).2.2 mm hmb (by rw [nfq_len]; omega) (Qk_up (Cq_qk z6) hmm1) w1 w2 (by omega) (by omega) h0 (by rw [qcs_nfq, ← hxe]; exact z1)
  rw [qcs_nfq, ← hxe] at a1
  have a3 := eat_spec (nfq S) (k.getD i nul3).1 (k.getD i nul3).2.1 (k.getD i nul3).2.2 mm hmb (by rw [nfq_len]; omega) (Cq_qk z7) w1 w2 (by omega) (by omega) h0 (by rw [qcs_nfq, ← hxe]; exact z2)
  rw [qcs_nfq, ← hxe] at a3
  have b0 := (z1 0).1
  have b1 := (z2 0).1
  rw [List.drop_zero] at b0 b1
  have a2 := psignR (Rr_c b0.1 b0.2) (by omega)
  have a4 := (qsubR (Rr_c z3.1 z3.2) (Rr_c b1.1 b1.2) (by omega)).1
  rw [e3] at a4
  have a5 := (qquoR (Rr_c z4.1 z4.2) (Rr_c b0.1 b0.2) (by omega) s1).1
  rw [e4] at a5
  have a6 := pscale_spec (nfq B') (nqp (val Q ((qcs k).getD i 0))).1 (nqp (val Q ((qcs k).getD i 0))).2.1 (nqp (val Q ((qcs k).getD i 0))).2.2 m1 hmb1 (by rw [nfq_len]; omega) (Cq_qk z6) (Wd_dg _) (Wd_dg _) (dlen z5.1) (dlen z5.2) (by show nv B (dg B _) ≠ 0; rw [nv_dgB]; exact Rat.den_nz _)
  rw [rL_nqp, show mkRat (zv (nqp (val Q ((qcs k).getD i 0))).1 (nqp (val Q ((qcs k).getD i 0))).2.1) (nv B (nqp (val Q ((qcs k).getD i 0))).2.2) = val Q ((qcs k).getD i 0) from qvp_nqp _, qcs_nfq] at a6
  have hcc : ∀ M9, mm ≤ M9 → Cq (eaq (fun x y => x + y) (qcs (nfq S)) (qcs (nfq (tzq (B'.map fun y => y * val Q ((qcs k).getD i 0)))))) M9 := fun M9 h9 u => by
    rw [qcs_nfq, qcs_nfq, ← tzq_cf]
    exact Cq_up z9 h9 u
  have a7 := padd_spec (nfq S) (nfq (tzq (B'.map fun y => y * val Q ((qcs k).getD i 0)))) mm hmb (by rw [nfq_len]; omega) (by rw [nfq_len]; have := tzq_len (B'.map fun y => y * val Q ((qcs k).getD i 0)); rw [List.length_map] at this; omega) (Cq_qk z7) (Cq_qk (Cq_tzq z8)) (hcc 49000000 (by omega))
  rw [qcs_nfq, qcs_nfq] at a7
  have a8 := line_spec (k.getD i nul3).1 (k.getD i nul3).2.1 (k.getD i nul3).2.2 mm (by omega) w1 w2 (by omega) (by omega) h0
  rw [← hxe] at a8
  have a9 := pmul_line hx tB (by omega) hPB hmb z11 z12 hXm (Cq_up z10 (by omega))
  exact ⟨_, _, _, _, _, _, a1, a2, (fun hh => s1 ((sgz_num _).1 hh)), a3, a4, a5, a6, a7, a8, a9⟩
def a30 : AC := .seq (.reg [qr 4 (.mv (.k .nl)),
 qr 5 (.mv (.k (.i .i64 0)))])
 (.seq (.seq (.reg [qm 22 0,
 qr 23 (.call 53 [(3, (.t 22))]),
 qr 24 (.un .not (.t 23)),
 qm 25 24,
 ⟨some 26, some (25, false), .mv (.t 1)⟩,
 ⟨some 27, some (25, false), .call 53 [(3, (.t 26))]⟩,
 ⟨some 28, some (25, false), .un .not (.t 27)⟩,
 qr 29 (.pick (.t 25) (.k (.b true)) (.t 28))])
 (.cond (.t 29)
 (.seq (.reg [qr 4 (.mv (.k .nl)),
 qr 5 (.mv (.k (.i .i64 1)))])
 (.ret))
 (.skip)))
 (.seq (.seq (.reg [qm 30 0,
 qr 31 (.len (.t 30)),
 qm 32 1,
 qr 33 (.len (.t 32)),
 qr 34 (.bin .neq (.t 31) (.t 33))])
 (.cond (.t 34)
 (.seq (.reg [qr 4 (.mv (.k .nl)),
 qr 5 (.mv (.k (.i .i64 3)))])
 (.ret))
 (.skip)))
 (.seq (.reg [qr 35 (.call 54 [(1, (.k (.i .i64 1)))]),
 qr 36 (.bsl 31 3 1 [(.b false), (.l 1 []), (.l 1 [])] [(0, (.t 35))]),
 qr 6 (.mv (.k .nl)),
 qm 7 36])
 (.seq (.seq (.reg [qm 37 0,
 qr 38 (.len (.t 37)),
 qr 39 (.mv (.k (.i .i64 0)))])
 (.blk 0
 (.loop
 (.seq (.reg [qr 40 (.bin .lss (.t 39) (.t 38))])
 (.seq (.cond (.t 40)
 (.skip)
 (.exit 0))
 (.seq (.blk 1
 (.seq (.reg [qm 41 39,
 qr 42 (.idx 3 (.t 37) (.t 39)),
 qr 43 (.ld true 3 (.t 42)),
 qr 9 (.al 31 [(.b false), (.l 1 []), (.l 1 [])]),
 qm 8 41,
 qn (.st 3 (.t 9) (.t 43))])
 (.seq (.reg [qm 45 7,
 qr 46 (.ld true 3 (.t 9)),
 qr 47 (.call 29 [(3, (.t 45)), (1, (.t 46))]),
 qm 44 47,
 qr 48 (.ext (.t 44) 0),
 qr 49 (.ext (.t 44) 1),
 qr 10 (.al 31 [(.b false), (.l 1 []), (.l 1 [])]),
 qn (.st 3 (.t 10) (.t 48)),
 qm 11 49])
 (.seq (.seq (.reg [qr 51 (.ld true 3 (.t 10)),
 qr 52 (.call 61 [(1, (.t 51))]),
 qm 50 52,
 qr 53 (.ext (.t 50) 0),
 qr 54 (.ext (.t 50) 1),
 qm 12 53,
 qm 13 54])
 (.seq (.reg [qm 55 12,
 qr 56 (.bin .eql (.t 55) (.k (.i .i64 0)))])
 (.cond (.t 56)
 (.seq (.reg [qr 4 (.mv (.k .nl)),
 qr 5 (.mv (.k (.i .i64 3)))])
 (.ret))
 (.skip))))
 (.seq (.reg [qm 58 6,
 qr 59 (.ld true 3 (.t 9)),
 qr 60 (.call 29 [(3, (.t 58)), (1, (.t 59))]),
 qm 57 60,
 qr 61 (.ext (.t 57) 0),
 qr 62 (.ext (.t 57) 1),
 qr 14 (.al 31 [(.b false), (.l 1 []), (.l 1 [])]),
 qn (.st 3 (.t 14) (.t 61)),
 qm 15 62])
 (.seq (.dreg [qm 64 1,
 qm 65 8,
 qr 66 (.idx 3 (.t 64) (.t 65)),
 qr 67 (.ld true 3 (.t 66)),
 qr 68 (.ld true 3 (.t 14)),
 qr 69 (.call 49 [(1, (.t 67)), (1, (.t 68))]),
 qm 63 69,
 qr 70 (.ext (.t 63) 0),
 qr 71 (.ext (.t 63) 1),
 qr 16 (.al 31 [(.b false), (.l 1 []), (.l 1 [])]),
 qn (.st 3 (.t 16) (.t 70)),
 qm 17 71])
 (.seq (.reg [qr 73 (.ld true 3 (.t 16)),
 qr 74 (.ld true 3 (.t 10)),
 qr 75 (.call 48 [(1, (.t 73)), (1, (.t 74))]),
 qm 72 75,
 qr 76 (.ext (.t 72) 0),
 qr 77 (.ext (.t 72) 1),
 qr 18 (.al 31 [(.b false), (.l 1 []), (.l 1 [])]),
 qn (.st 3 (.t 18) (.t 76)),
 qm 19 77])
 (.seq (.reg [qm 79 7,
 qr 80 (.ld true 3 (.t 18)),
 qr 81 (.call 15 [(3, (.t 79)), (1, (.t 80))]),
 qm 78 81,
 qr 82 (.ext (.t 78) 0),
 qr 83 (.ext (.t 78) 1),
 qm 20 82,
 qm 21 83])
 (.seq (.reg [qm 85 6,
 qm 86 20,
 qr 87 (.call 22 [(3, (.t 85)), (3, (.t 86))]),
 qm 84 87,
 qr 88 (.ext (.t 84) 0),
 qr 89 (.ext (.t 84) 1),
 qm 6 88])
 (.reg [qm 91 7,
 qr 92 (.ld true 3 (.t 9)),
 qr 93 (.call 55 [(1, (.t 92))]),
 qr 94 (.call 13 [(3, (.t 91)), (3, (.t 93))]),
 qm 90 94,
 qr 95 (.ext (.t 90) 0),
 qr 96 (.ext (.t 90) 1),
 qm 7 95]))))))))))
 (.reg [qr 97 (.bin .add (.t 39) (.k (.i .i64 1))),
 qm 39 97])))))))
 (.seq (.reg [qm 98 6,
 qm 4 98,
 qr 5 (.mv (.k (.i .i64 0)))])
 (.ret))))))
theorem through_spec (k : R3) (Q0 : List Rat) (G M0 n m wl T : Nat) (hm : m ≤ 1048577) (hk : Qk k m) (hkn : k.length = n) (hn : n ≤ 12) (hQl : Q0.length = n) (hQ : PB Q0 G M0) (hdis : ∀ i j, i < n → j < i → (qcs k).getD i 0 ≠ (qcs k).getD j 0)
    (hG : G ≤ B ^ wl) (hM : M0 ≤ B ^ wl) (hT : wl + wt k ≤ T) (hTT : T = 1048576) (ys : List Rat) (hys : ys = (qcs k).map (val Q0)) (hyz : Cq ys 48000000) :
    AFun Tryz.prog J0 30 [.l 3 (RC k), .l 3 (RC (nfq ys))] (.t [.l 3 (RC (nfq (thS (qcs k) Q0 n).1)), .i .i64 0]) := by
  have hz := RC_len k
  have hd : k.length * 3 / 3 = k.length := by omega
  have hyl : ys.length = k.length := by rw [hys]; simp [qcs_len]
  have hzy := QC_len ys
  have hdy : ys.length * 3 / 3 = ys.length := by omega
  have hyg : ∀ i, i < n → ys.getD i 0 = val Q0 ((qcs k).getD i 0) := fun i hi => by
    have : i < (qcs k).length := by rw [qcs_len]; omega
    rw [hys]
    simp [List.getD_eq_getElem?_getD, this]
  have g1 := egood_spec k m (by omega) (by omega) hk
  have g2 := egood_spec (nfq ys) 48000000 (by omega) (by rw [nfq_len]; omega) (Cq_qk hyz)
  have w1 := ewhole_spec 1 (by decide) (by decide)
  rw [rat_1] at w1
  have hrd := thr_round hm hk hkn hn hQl hQ hdis hG hM hT hTT
  have t0 : (thS (qcs k) Q0 0).1 = [] := rfl
  have t1 : (thS (qcs k) Q0 0).2.1 = [1] := rfl
  have r0 : RC (nfq [(1 : Rat)]) = [.b (decide ((1 : Rat).num < 0)), .l 1 (W (dg B (1 : Rat).num.natAbs)), .l 1 (W (dg B (1 : Rat).den))] := rfl
  rw [rN_b] at w1
  clear hQ hdis hys hyz hk
  generalize hth : thS (qcs k) Q0 = th at *
  generalize hvl : (fun i => val Q0 ((qcs k).getD i 0)) = yv at *
  have hyv : ∀ i, val Q0 ((qcs k).getD i 0) = yv i := fun i => by rw [← hvl]
  simp only [hyv] at hrd hyg
  clear hth hvl hyv
  have hnk : (ys.length : Int) = (n : Int) := by omega
  have hkk : (k.length : Int) = (n : Int) := by omega
  have hrow : ∀ i, i < n → ((RC (nfq ys)).drop (i * 3)).take 3 = [.b (decide ((yv i).num < 0)), .l 1 (W (dg B (yv i).num.natAbs)), .l 1 (W (dg B (yv i).den))] := fun i hi => by
    rw [QC_row ys i (by omega), hyg i hi]
  generalize RC (nfq ys) = YC at *
  generalize hone : (1 : Rat) = one1 at *
  refine mkQ fol J0s Tryz.func30 a30 ?_
  unfold a30
  simp only [init_eq, initE, qm, qr, qn]
  refine wkQ (ai @hyl (ai @hkk (ai @hnk (ai @hdy (ai @hzy (ai @hd (ai @hz @bz_VP4))))))) ?_
  refine vm_loopA [] (Option Nat) (fun o => match o with
      | none => ⟨[(1, .l 3 YC), (6, .nl), (7, .ow 3 0 1), (37, .l 3 (RC k)), (38, .i .i64 (n : Int)), (39, .i .i64 0)], [(0, some ⟨31, 3, [.b (decide (one1.num < 0)), .l 1 (W (dg B one1.num.natAbs)), .l 1 (W (dg B one1.den))], true, false⟩)], 1⟩
      | some i => ⟨[(1, .l 3 YC), (6, .l 3 (RC (nfq (th (i + 1)).1))), (7, .l 3 (RC (nfq (th (i + 1)).2.1))), (37, .l 3 (RC k)), (38, .i .i64 (n : Int)), (39, .i .i64 ((i + 1 : Nat) : Int))], [], 0⟩)
    (fun o => match o with | none => True | some i => i + 1 ≤ n) (fun o => match o with | none => n + 1 | some i => n - i) none trivial (by exact leQ) (by
    simp only
    simp (disch := (first | omega | assumption)) only [Sl, Sa, Sw, ↓reduceIte, Nat.reduceEqDiff, Nat.reduceLT, List.all_nil, List.all_cons, Nat.reduceBneDiff, Nat.reduceAdd, bne_iff_ne, ne_eq, reduceCtorEq, not_false_eq_true, not_true_eq_false, Bool.and_true, Bool.true_and, and_true, true_and, and_self, i_eq]
    all_goals rfl) ?_
  intro o ho Q' hQ he hr
  cases o with
  | none =>
    simp only
    by_cases h : (0 : Int) < (n : Int)
    · obtain ⟨hb, hs, lk, c, ST, L, a1, a2, a3, a4, a5, a6, a7, a8, a9, a10⟩ := hrd 0 (by omega)
      have rx := RC_row k 0 (by omega)
      change ((RC k).drop (0 * 3)).take 3 = [.b (k.getD 0 nul3).1, .l 1 (W (k.getD 0 nul3).2.1), .l 1 (W (k.getD 0 nul3).2.2)] at rx
      have ry := hrow 0 (by omega)
      rw [show (0 : Nat) * 3 = Int.toNat 0 * 3 from rfl] at rx ry
      rw [t1, r0] at a1 a7 a10
      rw [t0, show RC (nfq []) = [] from rfl] at a4 a8
      rw [show ((0 : Nat) + 1) = 1 from rfl] at a8 a10
      have i0 : Int.toNat 0 = 0 := rfl
      have k3 : ¬ k.length * 3 < 3 := by omega
      clear hrd hrow hyg
      simp only [rN_b] at a1 a2 a4 a5 a6 a7
      generalize yv 0 = y0 at *
      generalize k.getD 0 nul3 = x at *
      have zc1 := a10
      refine wkQ (ai @hkk (ai @hyl (ai @hzy (ai @ry (ai @a3 (ai @rx (ai @hz (ai @h @bz_VP4)))))))) ?_
      refine hQ _ (some 0) (by simp only; omega) (by simp only; omega) ?_
      simp only
      simp (disch := (first | omega | assumption)) only [Sl, Sa, Sw, ↓reduceIte, Nat.reduceEqDiff, Nat.reduceLT, List.all_nil, List.all_cons, Nat.reduceBneDiff, Nat.reduceAdd, bne_iff_ne, ne_eq, reduceCtorEq, not_false_eq_true, not_true_eq_false, Bool.and_true, Bool.true_and, and_true, true_and, and_self, i_eq]
      all_goals rfl
    · obtain rfl : n = 0 := by omega
      have t00 : RC (nfq (th 0).1) = [] := by rw [t0]; rfl
      refine spQ (ai @h @bz_VP4) ?_
      refine he _ _ ?_
      refine spQ @bz_VP4 ?_
      exact rtQ (ai @t00 @bz_VP4)
  | some i =>
    simp only at ho ⊢
    by_cases h : ((i + 1 : Nat) : Int) < (n : Int)
    · obtain ⟨hb, hs, lk, c, ST, L, a1, a2, a3, a4, a5, a6, a7, a8, a9, a10⟩ := hrd (i + 1) (by omega)
      have rx := RC_row k (i + 1) (by omega)
      change ((RC k).drop ((i + 1) * 3)).take 3 = [.b (k.getD (i + 1) nul3).1, .l 1 (W (k.getD (i + 1) nul3).2.1), .l 1 (W (k.getD (i + 1) nul3).2.2)] at rx
      have ry := hrow (i + 1) (by omega)
      clear hrd hrow hyg
      simp only [rN_b] at a1 a2 a4 a5 a6 a7
      generalize yv (i + 1) = y0 at *
      generalize k.getD (i + 1) nul3 = x at *
      have zc2 := a10
      refine wkQ (ai @hkk (ai @hyl (ai @hzy (ai @ry (ai @a3 (ai @rx (ai @hz (ai @h @bz_VP4)))))))) ?_
      refine hQ _ (some (i + 1)) (by simp only; omega) (by simp only; omega) ?_
      simp only
      simp (disch := (first | omega | assumption)) only [Sl, Sa, Sw, ↓reduceIte, Nat.reduceEqDiff, Nat.reduceLT, List.all_nil, List.all_cons, Nat.reduceBneDiff, Nat.reduceAdd, bne_iff_ne, ne_eq, reduceCtorEq, not_false_eq_true, not_true_eq_false, Bool.and_true, Bool.true_and, and_true, true_and, and_self, i_eq]
      all_goals rfl
    · obtain rfl : n = i + 1 := by omega
      refine spQ (ai @h @bz_VP4) ?_
      refine he _ _ ?_
      refine spQ @bz_VP4 ?_
      exact rtQ @bz_VP4
end Go.Proofs.YtbkpaeejjepnpaaGreat
