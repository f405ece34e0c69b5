/-
  limb.MulAdd: a row times a word, a word more.
-/
import Derived.Test.YtgejbndgakgfnaaGreatDoorGG
import Derived.Test.YtgejbndgakgfnaaGreatDoorNM8
namespace Go.Proofs.YtgejbndgakgfnaaGreatDoor
open Go Go.RowKit Ab
set_option linter.unusedSimpArgs false
set_option linter.unusedVariables false
set_option maxHeartbeats 10000000
theorem bz_MA : type_of% (And.intro @W_len (And.intro @D_len (And.intro @Nat.div_one (And.intro @Nat.mul_one (And.intro @tn_nat (And.intro @W_nf (And.intro @D_nf (And.intro @W_nil (And.intro @D_nil (And.intro @wi (And.intro @nf_g (And.intro @Bool.false_and (@W_cell))))))))))))) := And.intro @W_len (And.intro @D_len (And.intro @Nat.div_one (And.intro @Nat.mul_one (And.intro @tn_nat (And.intro @W_nf (And.intro @D_nf (And.intro @W_nil (And.intro @D_nil (And.intro @wi (And.intro @nf_g (And.intro @Bool.false_and (@W_cell))))))))))))
theorem ma_step {a : List Nat} {w c i : Nat} : nv B (a.take (i + 1)) * w + c = (nv B (a.take i) * w + c) + B ^ i * (a.getD i 0 * w) := by
  rw [nv_take_succ', Nat.add_mul, Nat.mul_assoc]; omega
theorem ma_lt {a : List Nat} {w c : Nat} (ha : Wd a) (hw : w < B) (hc : c < B) (i : Nat) : (nv B (a.take i) * w + c) / B ^ i < B := by
  refine (Nat.div_lt_iff_lt_mul (Nat.pow_pos B0)).2 ?_
  have h1 := nv_take_lt (b := B) (by decide) ha i
  have h2 : nv B (a.take i) * w ≤ (B ^ i - 1) * (B - 1) := Nat.mul_le_mul (by omega) (by omega)
  have h3 : (B ^ i - 1) * (B - 1) + (B - 1) = B ^ i * (B - 1) := by
    rw [← Nat.succ_mul]; congr 1; have := Nat.pow_pos (n := i) B0; omega
  have h4 : B * B ^ i = B ^ i * (B - 1) + B ^ i := by
    rw [Nat.mul_comm, ← Nat.mul_succ]; rfl
  have := Nat.pow_pos (n := i) B0
  omega
theorem ma_next {T i y : Nat} : (T + B ^ i * y) / B ^ (i + 1) = (y + T / B ^ i) / B ∧ (T + B ^ i * y) / B ^ i % B = (y + T / B ^ i) % B ∧ fl B i (T + B ^ i * y) = fl B i T := by
  refine ⟨?_, ?_, fl_congr B0 (Nat.add_mul_mod_self_left _ _ _)⟩
  · rw [Nat.pow_succ, ← Nat.div_div_eq_div_mul, Nat.add_mul_div_left _ _ (Nat.pow_pos B0), Nat.add_comm]
  · rw [Nat.add_mul_div_left _ _ (Nat.pow_pos B0), Nat.add_comm]
def a73 : AC := .seq (.reg [qr 6 (.mv (.k .nl)),
 qr 7 (.mv (.k (.i .u64 0)))])
 (.seq (.reg [qm 11 0,
 qr 12 (.len (.t 11)),
 qr 13 (.mk 33 1 8 [(.i .u64 0)] (.t 12) (.t 12)),
 qm 8 13])
 (.seq (.seq (.reg [qm 14 0,
 qr 15 (.len (.t 14)),
 qr 16 (.mv (.k (.i .i64 0)))])
 (.blk 0
 (.loop
 (.seq (.reg [qr 17 (.bin .lss (.t 16) (.t 15))])
 (.seq (.cond (.t 17)
 (.skip)
 (.exit 0))
 (.seq (.blk 1
 (.seq (.reg [qm 18 16,
 qr 19 (.idx 1 (.t 14) (.t 16)),
 qr 20 (.ld false 1 (.t 19)),
 qm 9 18,
 qm 10 20])
 (.reg [qm 22 8,
 qm 23 9,
 qm 24 10,
 qm 25 1,
 qm 26 2,
 qr 27 (.call 66 [(1, (.t 24)), (1, (.t 25)), (1, (.t 26)), (1, (.k (.i .u64 0)))]),
 qm 21 27,
 qr 28 (.ext (.t 21) 0),
 qr 29 (.ext (.t 21) 1),
 qm 2 28,
 qr 30 (.idx 1 (.t 22) (.t 23)),
 qn (.st 1 (.t 30) (.t 29))])))
 (.reg [qr 31 (.bin .add (.t 16) (.k (.i .i64 1))),
 qm 16 31])))))))
 (.seq (.reg [qm 32 8,
 qm 33 2,
 qm 6 32,
 qm 7 33])
 (.ret))))
theorem mulAdd_spec (a : List Nat) (w c : Nat) (ha : Wd a) (hw : w < 18446744073709551616) (hc : c < 18446744073709551616) (la : a.length ≤ 1099511627776) :
    AFun Tryz.prog J0 73 [.l 1 (W a), .i .u64 (w : Int), .i .u64 (c : Int)] (.to 33 1 (W (fl B a.length (nv B a * w + c))) [.i .u64 (((nv B a * w + c) / B ^ a.length : Nat) : Int)]) := by
  refine AFun.mkt fol J0s Tryz.func73 rfl (ac := a73) (by kernel_rfl) rfl (by decide) rfl (by decide) (hasL_t.trans (W_nf _)) rfl ?_
  apply vm_start
  unfold a73
  simp only [init_eq, initE, qm, qr, qn]
  refine spQ @bz_MA ?_
  refine vm_loopA [] Nat (fun i => ⟨[(1, .i .u64 (w : Int)), (2, .i .u64 (((nv B (a.take i) * w + c) / B ^ i : Nat) : Int)), (8, .ow 1 0 a.length), (14, .l 1 (W a)), (15, .i .i64 (a.length : Int)), (16, .i .i64 (i : Int))],
      [(0, some ⟨33, 1, W (fl B i (nv B (a.take i) * w + c) ++ List.replicate (a.length - i) 0), true, false⟩)], 1⟩)
    (fun i => i ≤ a.length) (fun i => a.length - i) 0 (Nat.zero_le _) (by exact leQ) (by
    simp (disch := (first | omega | assumption)) only [Sl, Sa, Sw, ↓reduceIte, Nat.reduceEqDiff, Nat.reduceLT, List.all_nil, List.all_cons, Nat.reduceBneDiff, Nat.reduceAdd, bne_iff_ne, ne_eq, reduceCtorEq, not_false_eq_true, not_true_eq_false, Bool.and_true, Bool.true_and, and_true, true_and, and_self, i_eq]
    refine ⟨by simp [nv], ?_⟩
    rw [Nat.sub_zero, fl, List.nil_append]; exact mk_W _) ?_
  intro i hi Q' hQ he hr
  by_cases h : (i : Int) < a.length
  · have hx := Wd_get ha i
    have hm := mulW_spec (a.getD i 0) w ((nv B (a.take i) * w + c) / B ^ i) 0 hx hw (ma_lt ha hw hc i) (by decide)
    rw [Nat.add_zero] at hm
    have hst := ma_step (a := a) (w := w) (c := c) (i := i)
    have hll : (fl B i (nv B (a.take i) * w + c) ++ List.replicate (a.length - i) 0).length = a.length := by rw [List.length_append, List.length_replicate, fl_len]; omega
    have hset : (fl B i (nv B (a.take i) * w + c) ++ List.replicate (a.length - i) 0).set i ((a.getD i 0 * w + (nv B (a.take i) * w + c) / B ^ i) % 18446744073709551616) = fl B (i + 1) (nv B (a.take (i + 1)) * w + c) ++ List.replicate (a.length - (i + 1)) 0 := by
      obtain ⟨n1, n2, n3⟩ := ma_next (T := nv B (a.take i) * w + c) (i := i) (y := a.getD i 0 * w)
      rw [hst, fl_succ, n2, n3, show a.length - i = (a.length - (i + 1)) + 1 from by omega, List.replicate_succ, List.set_append_right _ _ (by rw [fl_len]; exact Nat.le_refl _), fl_len, Nat.sub_self, List.set_cons_zero, List.append_assoc]
      rfl
    have hnx : (a.getD i 0 * w + (nv B (a.take i) * w + c) / B ^ i) / 18446744073709551616 = (nv B (a.take (i + 1)) * w + c) / B ^ (i + 1) := by
      rw [hst, (ma_next (T := nv B (a.take i) * w + c) (i := i) (y := a.getD i 0 * w)).1]; rfl
    generalize (nv B (a.take i) * w + c) / B ^ i = ci at *
    refine wkQ (ai @hset (ai @W_set (ai @hll (ai @W_len (ai @W_get (ai @h @bz_MA)))))) ?_
    refine hQ _ (i + 1) (by omega) (by omega) ?_
    simp (disch := (first | omega | assumption)) only [Sl, Sa, Sw, ↓reduceIte, Nat.reduceEqDiff, Nat.reduceLT, List.all_nil, List.all_cons, Nat.reduceBneDiff, Nat.reduceAdd, bne_iff_ne, ne_eq, reduceCtorEq, not_false_eq_true, not_true_eq_false, Bool.and_true, Bool.true_and, and_true, true_and, and_self, i_eq]
    refine ⟨?_, ?_⟩ <;> first | omega | rw [hnx]
  · obtain rfl : i = a.length := by omega
    refine spQ (ai @h @bz_MA) ?_
    refine he _ _ ?_
    refine spQ @bz_MA ?_
    rw [Nat.sub_self, List.replicate_zero, List.append_nil, List.take_length]
    exact ⟨⟨_, _, rfl, rfl⟩, rfl, trivial⟩
end Go.Proofs.YtgejbndgakgfnaaGreatDoor
