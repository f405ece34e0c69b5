/-
  Rows by a word, all of them; half way between; the least power of two that is finer.
-/
import Derived.Test.YtfcpigjmagbnkaaGreatDoorQ20
namespace Go.Proofs.YtfcpigjmagbnkaaGreatDoor
open Go Go.RowKit Ab
set_option linter.unusedSimpArgs false
set_option linter.unusedVariables false
set_option maxHeartbeats 10000000
theorem bz_Q21 : type_of% (And.intro @W_len (And.intro @D_len (And.intro @Nat.div_one (And.intro @Nat.mul_one (And.intro @tn_nat (And.intro @W_nf (And.intro @D_nf (And.intro @W_nil (And.intro @D_nil (And.intro @wi (And.intro @nf_g (And.intro @Bool.false_and (@W_cell))))))))))))) := And.intro @W_len (And.intro @D_len (And.intro @Nat.div_one (And.intro @Nat.mul_one (And.intro @tn_nat (And.intro @W_nf (And.intro @D_nf (And.intro @W_nil (And.intro @D_nil (And.intro @wi (And.intro @nf_g (And.intro @Bool.false_and (@W_cell))))))))))))
def FinP (u d k : Nat) : Prop := d < u * 2 ^ k ∧ ∀ j, j < k → u * 2 ^ j ≤ d
theorem fin_ex {u d : Nat} (hu : u ≠ 0) : ∃ k, FinP u d k ∧ k ≤ bl d := by
  have key : ∀ n, (∃ k, FinP u d k ∧ k ≤ n) ∨ ∀ j, j ≤ n → u * 2 ^ j ≤ d := fun n => by
    induction n with
    | zero =>
      by_cases h : d < u * 2 ^ 0
      · exact .inl ⟨0, ⟨h, fun j hj => by omega⟩, Nat.le_refl _⟩
      · exact .inr fun j hj => by obtain rfl : j = 0 := by omega
                                  omega
    | succ n ih =>
      rcases ih with ⟨k, h1, h2⟩ | h
      · exact .inl ⟨k, h1, by omega⟩
      · by_cases h2 : d < u * 2 ^ (n + 1)
        · exact .inl ⟨n + 1, ⟨h2, fun j hj => h j (by omega)⟩, Nat.le_refl _⟩
        · exact .inr fun j hj => by
            rcases Nat.lt_or_ge j (n + 1) with h3 | h3
            · exact h j (by omega)
            · obtain rfl : j = n + 1 := by omega
              omega
  rcases key (bl d) with h | h
  · exact h
  · have h1 := h (bl d) (Nat.le_refl _)
    have h2 := bl_lt d
    have h3 : 1 * 2 ^ bl d ≤ u * 2 ^ bl d := Nat.mul_le_mul_right _ (by omega)
    omega
theorem fin_bl {u d k : Nat} (hu : u ≠ 0) (hd : d ≠ 0) (h : FinP u d k) : (k = bl d - bl u ∧ d < u * 2 ^ (bl d - bl u)) ∨ (k = bl d - bl u + 1 ∧ ¬ d < u * 2 ^ (bl d - bl u)) := by
  obtain ⟨h1, h2⟩ := h
  obtain ⟨u1, u2⟩ := bl_le hu
  have u3 := bl_lt u
  obtain ⟨d1, d2⟩ := bl_le hd
  have d3 := bl_lt d
  have lo : bl d - bl u ≤ k := by
    rcases Nat.lt_or_ge k (bl d - bl u) with hk | hk
    · exfalso
      have h3 : u * 2 ^ k < 2 ^ bl u * 2 ^ k := Nat.mul_lt_mul_of_pos_right u3 (Nat.two_pow_pos k)
      rw [← Nat.pow_add] at h3
      have h4 : 2 ^ (bl u + k) ≤ 2 ^ (bl d - 1) := Nat.pow_le_pow_right (by decide) (by omega)
      omega
    · exact hk
  have hi : k ≤ bl d - bl u + 1 := by
    rcases Nat.lt_or_ge (bl d - bl u + 1) k with hk | hk
    · exfalso
      have h3 := h2 (bl d - bl u + 1) hk
      have h4 : 2 ^ (bl u - 1) * 2 ^ (bl d - bl u + 1) ≤ u * 2 ^ (bl d - bl u + 1) := Nat.mul_le_mul_right _ u1
      rw [← Nat.pow_add] at h4
      have h5 : 2 ^ bl d ≤ 2 ^ (bl u - 1 + (bl d - bl u + 1)) := Nat.pow_le_pow_right (by decide) (by omega)
      omega
    · exact hk
  by_cases hc : d < u * 2 ^ (bl d - bl u)
  · left
    refine ⟨?_, hc⟩
    rcases Nat.lt_or_ge (bl d - bl u) k with hk | hk
    · have := h2 _ hk; omega
    · omega
  · right
    refine ⟨?_, hc⟩
    rcases Nat.eq_or_lt_of_le lo with hk | hk
    · rw [← hk] at h1; exact absurd h1 hc
    · omega
def a82 : AC := .seq (.reg [qr 4 (.mv (.k .nl))])
 (.seq (.blk 0
 (.loop
 (.seq (.seq (.reg [qm 5 1,
 qr 6 (.bin .gtr (.t 5) (.k (.i .i64 1048576)))])
 (.cond (.t 6)
 (.skip)
 (.exit 0)))
 (.blk 1
 (.seq (.reg [qm 8 0,
 qr 9 (.call 123 [(1, (.t 8)), (1, (.k (.i .i64 1048576)))]),
 qm 7 9,
 qr 10 (.ext (.t 7) 0),
 qr 11 (.ext (.t 7) 1),
 qm 0 10])
 (.reg [qm 12 1,
 qr 13 (.bin .sub (.t 12) (.k (.i .i64 1048576))),
 qm 1 13]))))))
 (.seq (.reg [qm 15 0,
 qm 16 1,
 qr 17 (.call 123 [(1, (.t 15)), (1, (.t 16))]),
 qm 14 17,
 qr 18 (.ext (.t 14) 0),
 qr 19 (.ext (.t 14) 1),
 qm 0 18])
 (.seq (.reg [qm 20 0,
 qm 4 20])
 (.ret))))
theorem qshifted_spec (a : List Nat) (n M : Nat) (ha : Wd a) (hM : a.length + n ≤ M) (hM1 : M ≤ 10000000000) : AFun Tryz.prog J0 82 [.l 1 (W a), .i .i64 (n : Int)] (.l 1 (W (dg B (nv B a * 2 ^ n)))) := by
  obtain ⟨U, hU⟩ : ∃ U, U = nv B a * 2 ^ n := ⟨_, rfl⟩
  rw [← hU]
  refine mkQ fol J0s Tryz.func82 a82 ?_
  unfold a82
  simp only [init_eq, initE, qm, qr, qn]
  refine spQ @bz_Q21 ?_
  refine vm_loopA [] (List Nat × Nat) (fun x => ⟨[(0, .l 1 (W x.1)), (1, .i .i64 (x.2 : Int))], [], 0⟩)
    (fun x => Wd x.1 ∧ nv B x.1 * 2 ^ x.2 = U ∧ x.1.length + x.2 ≤ M) (fun x => x.2) (a, n) ⟨ha, hU.symm, hM⟩ (by exact leQ) (by
    exact ltQ) ?_
  rintro ⟨x, k⟩ ⟨hx, hv, hl⟩ Q' hQ he hr
  simp only [] at hx hv hl ⊢
  by_cases h : (1048576 : Int) < (k : Int)
  · obtain ⟨E, hE⟩ : ∃ E : Nat, E = 1048576 := ⟨_, rfl⟩
    have h2 := shl_spec x (E : Int) hx (by omega)
    rw [shlR_ok (by omega)] at h2
    have hb : nv B x * 2 ^ E < B ^ (x.length + 16384) := shl_len (nvlt hx (Nat.le_refl _)) (by omega)
    have hv2 : nv B x * 2 ^ E * 2 ^ (k - E) = U := by
      rw [Nat.mul_assoc, ← Nat.pow_add, show E + (k - E) = k from by omega]; exact hv
    generalize nv B x * 2 ^ E = y at *
    subst hE
    replace h2 : AFun Tryz.prog J0 123 [.l 1 (W x), .i .i64 1048576] (.t [.l 1 (W (dg B y)), .i .i64 0]) := h2
    have w1 : IntKind.i64.wrap ((k : Int) - 1048576) = ((k - 1048576 : Nat) : Int) := by rw [wi (by omega)]; omega
    refine wkQ (ai @w1 (ai @h @bz_Q21)) ?_
    refine hQ _ (dg B y, k - 1048576) ⟨Wd_dg _, by rw [nv_dgB]; exact hv2, by have := dlen hb; simp only; omega⟩ (by simp only; omega) ?_
    exact ltQ
  · have h2 := shl_spec x (k : Int) hx (by omega)
    rw [shlR_ok (by omega), hv] at h2
    refine spQ (ai @h @bz_Q21) ?_
    refine he _ _ ?_
    exact wdQ @bz_Q21
def a39 : AC := .seq (.reg [qr 1 (.bx 27 (.t 0)),
 qr 2 (.mv (.k (.i .i64 0))),
 qr 3 (.mv (.k (.i .i64 0)))])
 (.seq (.seq (.reg [qr 6 (.ld true 3 (.t 1)),
 qr 7 (.call 48 [(1, (.t 6))]),
 qm 4 7])
 (.seq (.reg [qm 8 4,
 qr 9 (.bin .neq (.t 8) (.k (.i .i64 0)))])
 (.cond (.t 9)
 (.seq (.reg [qm 10 4,
 qr 2 (.mv (.k (.i .i64 0))),
 qm 3 10])
 (.ret))
 (.skip))))
 (.seq (.seq (.reg [qr 11 (.fad 0 (.t 1)),
 qr 12 (.ld true 2 (.t 11)),
 qr 13 (.call 78 [(1, (.t 12))]),
 qr 14 (.bin .leq (.t 13) (.k (.i .i64 0)))])
 (.cond (.t 14)
 (.seq (.reg [qr 2 (.mv (.k (.i .i64 0))),
 qr 3 (.mv (.k (.i .i64 2)))])
 (.ret))
 (.skip)))
 (.seq (.dreg [qr 15 (.fad 2 (.t 1)),
 qr 16 (.ld false 1 (.t 15)),
 qr 17 (.call 79 [(1, (.t 16))]),
 qr 18 (.fad 0 (.t 1)),
 qr 19 (.ld true 2 (.t 18)),
 qr 20 (.call 80 [(1, (.t 19))]),
 qr 21 (.bin .sub (.t 17) (.t 20)),
 qr 22 (.mm true (.t 21) (.k (.i .i64 0))),
 qm 5 22])
 (.seq (.seq (.dreg [qr 23 (.fad 2 (.t 1)),
 qr 24 (.ld false 1 (.t 23)),
 qr 25 (.fad 0 (.t 1)),
 qr 26 (.ld true 2 (.t 25)),
 qr 27 (.call 83 [(1, (.t 26))]),
 qm 28 5,
 qr 29 (.call 82 [(1, (.t 27)), (1, (.t 28))]),
 qr 30 (.call 81 [(1, (.t 24)), (1, (.t 29))]),
 qr 31 (.bin .geq (.t 30) (.k (.i .i64 0)))])
 (.cond (.t 31)
 (.reg [qm 32 5,
 qr 33 (.bin .add (.t 32) (.k (.i .i64 1))),
 qm 5 33])
 (.skip)))
 (.seq (.reg [qm 34 5,
 qm 2 34,
 qr 3 (.mv (.k (.i .i64 0)))])
 (.ret))))))
theorem qfiner_k (s : Bool) (a d : List Nat) (k m : Nat) (hm : m ≤ 10000000) (ha : Wd a) (hd : Wd d) (la : a.length ≤ m) (ld : d.length ≤ m) (h0 : nv B d ≠ 0) (hs : 0 < zv s a) (hk : FinP (nv B a) (nv B d) k) : AFun Tryz.prog J0 39 [rL s a d] (.t [.i .i64 (k : Int), .i .i64 0]) := by
  have h1 := qcheck_spec s a d hd (by omega)
  rw [if_neg h0] at h1
  have h2 := zsign_spec s a ha (by omega)
  have hs1 : sgz (zv s a) = 1 := by unfold sgz; rw [if_neg (by omega), if_pos hs]
  rw [hs1] at h2
  have hu : nv B a ≠ 0 := fun h => by rw [zv_z.2 h] at hs; omega
  have h3 := natBits_spec d hd (by omega)
  have h4 := zbits_spec s a ha (by omega)
  have h5 := (zabs_spec s a ha (by omega)).frozen
  have c1 := bl_len ha
  have c2 := bl_len hd
  have h6 := qshifted_spec (dg B (nv B a)) (bl (nv B d) - bl (nv B a)) 1000000000 (Wd_dg _) (by have := dlen (nvlt ha la); omega) (by decide)
  rw [nv_dgB] at h6
  have hb : nv B a * 2 ^ (bl (nv B d) - bl (nv B a)) < B ^ (m + (bl (nv B d) - bl (nv B a))) := shl_len' (nvlt ha la) (by omega)
  have h7 := cmp_spec d (dg B (nv B a * 2 ^ (bl (nv B d) - bl (nv B a)))) hd (Wd_dg _) (by omega) (Nat.le_trans (dlen hb) (by omega))
  rw [nv_dgB] at h7
  have w1 : IntKind.i64.wrap ((bl (nv B d) : Int) - (bl (nv B a) : Int)) = (bl (nv B d) : Int) - (bl (nv B a) : Int) := wi (by omega)
  have w2 : max ((bl (nv B d) : Int) - (bl (nv B a) : Int)) 0 = ((bl (nv B d) - bl (nv B a) : Nat) : Int) := by omega
  have fb := fin_bl hu h0 hk
  have sgp := sg_ge (nv B d) (nv B a * 2 ^ (bl (nv B d) - bl (nv B a)))
  have hkb : bl (nv B d) - bl (nv B a) ≤ 1000000000 := by omega
  generalize hW : bl (nv B d) - bl (nv B a) = K0 at *
  generalize nv B a * 2 ^ K0 = UU at *
  rcases fb with ⟨rfl, hc⟩ | ⟨rfl, hc⟩
  · have g1 : ¬ (0 : Int) ≤ sg (nv B d) UU := by rw [sgp]; omega
    generalize sg (nv B d) UU = g at *
    refine mkQ fol J0s Tryz.func39 a39 ?_
    unfold a39
    simp only [init_eq, initE, qm, qr, qn]
    exact wdQ (ai @g1 (ai @w2 (ai @w1 @bz_Q21)))
  · have g1 : (0 : Int) ≤ sg (nv B d) UU := by rw [sgp]; omega
    generalize sg (nv B d) UU = g at *
    rw [show (((K0 + 1 : Nat)) : Int) = (K0 : Int) + 1 from rfl]
    refine mkQ fol J0s Tryz.func39 a39 ?_
    unfold a39
    simp only [init_eq, initE, qm, qr, qn]
    exact wdQ (ai @g1 (ai @w2 (ai @w1 @bz_Q21)))
end Go.Proofs.YtfcpigjmagbnkaaGreatDoor
