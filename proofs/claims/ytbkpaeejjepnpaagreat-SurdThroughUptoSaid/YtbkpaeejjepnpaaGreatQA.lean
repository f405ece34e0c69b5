/-
  The texts Q1, Q2, Q3, Q4.
-/
import Derived.Test.YtbkpaeejjepnpaaGreatFA
import Derived.Test.YtbkpaeejjepnpaaGreatZ1
import Derived.Test.YtbkpaeejjepnpaaGreatNM8
import Derived.Test.YtbkpaeejjepnpaaGreatZ7
import Derived.Test.YtbkpaeejjepnpaaGreatZb
import Derived.Test.YtbkpaeejjepnpaaGreatZ2
namespace Go.Proofs.YtbkpaeejjepnpaaGreat
open Go Go.RowKit Ab
set_option linter.unusedSimpArgs false
set_option linter.unusedVariables false
set_option maxHeartbeats 10000000
theorem bz_Q1 : type_of% (And.intro @W_len (And.intro @D_len (And.intro @Nat.div_one (And.intro @Nat.mul_one (And.intro @tn_nat (And.intro @W_nf (And.intro @D_nf (And.intro @W_nil (And.intro @D_nil (And.intro @wi (And.intro @nf_g (And.intro @Bool.false_and (@W_cell))))))))))))) := And.intro @W_len (And.intro @D_len (And.intro @Nat.div_one (And.intro @Nat.mul_one (And.intro @tn_nat (And.intro @W_nf (And.intro @D_nf (And.intro @W_nil (And.intro @D_nil (And.intro @wi (And.intro @nf_g (And.intro @Bool.false_and (@W_cell))))))))))))
abbrev rL (s : Bool) (a d : List Nat) : V := .g [.b s, .l 1 (W a), .l 1 (W d)]
abbrev rN (z : Int) (e : Nat) : V := .g [.b (decide (z < 0)), .l 1 (W (dg B z.natAbs)), .l 1 (W (dg B e))]
def rG (z : Int) (d : Nat) : Nat := Nat.gcd z.natAbs d
def rz (z : Int) (d : Nat) : Int := z.tdiv (rG z d : Int)
def rden (z : Int) (d : Nat) : Nat := d / rG z d
theorem rG_pos {z : Int} {d : Nat} (h : d ≠ 0) : 0 < rG z d := Nat.gcd_pos_of_pos_right _ (by omega)
theorem rz_I (z : Int) (d : Nat) : zI (decide (z < 0)) (z.natAbs / rG z d) = rz z d := by
  have h := tdiv_eq (decide (z < 0)) false z.natAbs (rG z d)
  rw [show (!(decide (z < 0) == false)) = decide (z < 0) from by cases decide (z < 0) <;> rfl, zI_self] at h
  rw [h]; rfl
theorem rz_abs (z : Int) (d : Nat) : (rz z d).natAbs = z.natAbs / rG z d := by rw [← rz_I, zI_abs]
theorem exQ_d {u g : Nat} (h : g ∣ u) (h0 : 0 < g) : exQ u g = dg B (u / g) ∧ exE u g = 0 := by
  have hm : u % g = 0 := Nat.mod_eq_zero_of_dvd h
  have hg : g ≠ 0 := by omega
  constructor
  · unfold exQ; simp [hm, hg]
  · unfold exE; simp [hm, hg]
def a68 : AC := .seq (.reg [qr 2 (.bx 27 (.t 0)),
 qr 4 (.al 31 [(.b false), (.l 1 []), (.l 1 [])])])
 (.seq (.reg [qr 10 (.ld true 2 (.t 2)),
 qr 11 (.call 65 [(1, (.t 10))]),
 qn (.st 2 (.t 2) (.t 11))])
 (.seq (.reg [qr 12 (.fad 1 (.t 2)),
 qr 13 (.ld false 1 (.t 12)),
 qm 14 1,
 qr 15 (.call 83 [(1, (.t 13)), (1, (.t 14))]),
 qm 5 15])
 (.seq (.reg [qr 17 (.fad 1 (.t 2)),
 qr 18 (.ld false 1 (.t 17)),
 qm 19 5,
 qr 20 (.call 63 [(1, (.t 18)), (1, (.t 19))]),
 qm 16 20,
 qr 21 (.ext (.t 16) 0),
 qr 22 (.ext (.t 16) 1),
 qm 6 21,
 qm 7 22])
 (.seq (.reg [qm 24 1,
 qm 25 5,
 qr 26 (.call 63 [(1, (.t 24)), (1, (.t 25))]),
 qm 23 26,
 qr 27 (.ext (.t 23) 0),
 qr 28 (.ext (.t 23) 1),
 qm 8 27,
 qm 9 28])
 (.seq (.reg [qr 29 (.fad 0 (.t 2)),
 qr 30 (.ld false 1 (.t 29)),
 qm 31 6,
 qr 32 (.call 33 [(1, (.t 30)), (1, (.t 31))]),
 qm 33 8,
 qr 34 (.bld [(.b false), (.l 1 []), (.l 1 [])] [(0, 2, (.t 32)), (2, 1, (.t 33))]),
 qn (.st 3 (.t 4) (.t 34))])
 (.ret))))))
theorem qred_spec (s : Bool) (a d : List Nat) (m : Nat) (hm : m ≤ 100000000) (ha : Wd a) (hd : Wd d) (la : a.length ≤ m) (ld : d.length ≤ m) (h0 : nv B d ≠ 0) : AFun Tryz.prog J0 68 [zL s a, .l 1 (W d)] (rN (rz (zv s a) (nv B d)) (rden (zv s a) (nv B d))) := by
  have h1 := znorm_spec s a ha (by omega)
  have l1 := zv_lt (s := s) ha la
  have l2 := nvlt hd ld
  generalize zv s a = z at *
  have h2 := gcd_spec (dg B z.natAbs) d m (by omega) (Wd_dg _) hd (dlen l1) ld
  rw [nv_dgB, show Nat.gcd z.natAbs (nv B d) = rG z (nv B d) from rfl] at h2
  have hgp := rG_pos (z := z) h0
  have d1 : rG z (nv B d) ∣ z.natAbs := Nat.gcd_dvd_left _ _
  have d2 : rG z (nv B d) ∣ nv B d := Nat.gcd_dvd_right _ _
  have lg : rG z (nv B d) < B ^ m := Nat.lt_of_le_of_lt (Nat.le_of_dvd (by omega) d2) l2
  have h3 := exact_spec (dg B z.natAbs) (dg B (rG z (nv B d))) (Wd_dg _) (Wd_dg _) (Nat.le_trans (dlen l1) (by omega)) (Nat.le_trans (dlen lg) (by omega))
  rw [nv_dgB, nv_dgB, (exQ_d d1 hgp).1, (exQ_d d1 hgp).2] at h3
  have h4 := exact_spec d (dg B (rG z (nv B d))) hd (Wd_dg _) (by omega) (Nat.le_trans (dlen lg) (by omega))
  rw [nv_dgB, (exQ_d d2 hgp).1, (exQ_d d2 hgp).2] at h4
  have h5 := znat_spec (decide (z < 0)) (dg B (z.natAbs / rG z (nv B d))) (Wd_dg _) (Nat.le_trans (dlen (Nat.lt_of_le_of_lt (Nat.div_le_self _ _) l1)) (by omega))
  rw [zv, nv_dgB, rz_I] at h5
  rw [show nv B d / rG z (nv B d) = rden z (nv B d) from rfl] at h4
  generalize rz z (nv B d) = x at *
  generalize rden z (nv B d) = y at *
  generalize z.natAbs / rG z (nv B d) = t at *
  generalize rG z (nv B d) = g at *
  refine mkcQ fol J0s Tryz.func68 a68 [.c 4 true 3] ?_
  unfold a68
  simp only [init_eq, initE, qm, qr, qn]
  exact wcQ @bz_Q1
def a41 : AC := .seq (.reg [qr 1 (.bx 31 (.t 0)),
 qr 2 (.mv (.k (.i .i64 0)))])
 (.seq (.seq (.reg [qr 3 (.fad 2 (.t 1)),
 qr 4 (.ld false 1 (.t 3)),
 qr 5 (.call 70 [(1, (.t 4))]),
 qr 6 (.bin .eql (.t 5) (.k (.i .i64 0)))])
 (.cond (.t 6)
 (.seq (.reg [qr 2 (.mv (.k (.i .i64 1)))])
 (.ret))
 (.skip)))
 (.seq (.reg [qr 2 (.mv (.k (.i .i64 0)))])
 (.ret)))
theorem qcheck_spec (s : Bool) (a d : List Nat) (hd : Wd d) (ld : d.length ≤ 1000000000) : AFun Tryz.prog J0 41 [rL s a d] (.i .i64 (if nv B d = 0 then 1 else 0)) := by
  have h := natBits_spec d hd (by omega)
  have hb := bl_z (n := nv B d)
  by_cases h0 : nv B d = 0
  · rw [if_pos h0]
    have hb0 : ((bl (nv B d) : Nat) : Int) = 0 := by rw [hb]; exact h0
    rw [hb0] at h
    refine mkQ fol J0s Tryz.func41 a41 ?_
    unfold a41
    simp only [init_eq, initE, qm, qr, qn]
    exact wdQ @bz_Q1
  · rw [if_neg h0]
    have hb0 : ¬ ((bl (nv B d) : Nat) : Int) = 0 := by rw [hb]; exact h0
    generalize ((bl (nv B d) : Nat) : Int) = c at *
    refine mkQ fol J0s Tryz.func41 a41 ?_
    unfold a41
    simp only [init_eq, initE, qm, qr, qn]
    exact wdQ (ai @hb0 @bz_Q1)
end Go.Proofs.YtbkpaeejjepnpaaGreat
namespace Go.Proofs.YtbkpaeejjepnpaaGreat
open Go Go.RowKit Ab
set_option linter.unusedSimpArgs false
set_option linter.unusedVariables false
set_option maxHeartbeats 10000000
theorem bz_Q2 : type_of% (And.intro @W_len (And.intro @D_len (And.intro @Nat.div_one (And.intro @Nat.mul_one (And.intro @tn_nat (And.intro @W_nf (And.intro @D_nf (And.intro @W_nil (And.intro @D_nil (And.intro @wi (And.intro @nf_g (And.intro @Bool.false_and (@W_cell))))))))))))) := And.intro @W_len (And.intro @D_len (And.intro @Nat.div_one (And.intro @Nat.mul_one (And.intro @tn_nat (And.intro @W_nf (And.intro @D_nf (And.intro @W_nil (And.intro @D_nil (And.intro @wi (And.intro @nf_g (And.intro @Bool.false_and (@W_cell))))))))))))
def rv (z : Int) (d : Nat) : V := if d = 0 then .g [.b false, .l 1 [], .l 1 []] else rN (rz z d) (rden z d)
def re (d : Nat) : Int := if d = 0 then 1 else 0
theorem re_0 : re 0 = 1 := rfl
theorem re_p {d : Nat} (h : d ≠ 0) : re d = 0 := if_neg h
theorem rv_0 (z : Int) : rv z 0 = .g [.b false, .l 1 [], .l 1 []] := rfl
theorem rv_p (z : Int) {d : Nat} (h : d ≠ 0) : rv z d = rN (rz z d) (rden z d) := if_neg h
def RV (v : V) (m : Nat) : Prop := ∃ (s : Bool) (a d : List Nat), v = rL s a d ∧ Wd a ∧ Wd d ∧ a.length ≤ m ∧ d.length ≤ m
theorem RV_rv {z : Int} {d m : Nat} (hz : z.natAbs < B ^ m) (hd : d < B ^ m) : RV (rv z d) m := by
  by_cases h : d = 0
  · subst h
    exact ⟨false, [], [], rfl, Wd_nil, Wd_nil, Nat.zero_le _, Nat.zero_le _⟩
  · rw [rv_p z h]
    exact ⟨_, _, _, rfl, Wd_dg _, Wd_dg _, dlen (by rw [rz_abs]; exact Nat.lt_of_le_of_lt (Nat.div_le_self _ _) hz), dlen (Nat.lt_of_le_of_lt (Nat.div_le_self _ _) hd)⟩
def a39 : AC := .seq (.reg [qr 1 (.bx 31 (.t 0)),
 qr 2 (.al 31 [(.b false), (.l 1 []), (.l 1 [])]),
 qr 3 (.mv (.k (.i .i64 0)))])
 (.seq (.seq (.reg [qr 5 (.ld true 3 (.t 1)),
 qr 6 (.call 41 [(1, (.t 5))]),
 qm 4 6])
 (.seq (.reg [qm 7 4,
 qr 8 (.bin .neq (.t 7) (.k (.i .i64 0)))])
 (.cond (.t 8)
 (.seq (.reg [qr 9 (.bld [(.b false), (.l 1 []), (.l 1 [])] []),
 qm 10 4,
 qn (.st 3 (.t 2) (.t 9)),
 qm 3 10])
 (.ret))
 (.skip))))
 (.seq (.reg [qr 11 (.fad 0 (.t 1)),
 qr 12 (.ld true 2 (.t 11)),
 qr 13 (.fad 2 (.t 1)),
 qr 14 (.ld false 1 (.t 13)),
 qr 15 (.call 68 [(1, (.t 12)), (1, (.t 14))]),
 qn (.st 3 (.t 2) (.t 15)),
 qr 3 (.mv (.k (.i .i64 0)))])
 (.ret)))
theorem qnorm_spec (s : Bool) (a d : List Nat) (m : Nat) (hm : m ≤ 100000000) (ha : Wd a) (hd : Wd d) (la : a.length ≤ m) (ld : d.length ≤ m) : AFun Tryz.prog J0 39 [rL s a d] (.t [rv (zv s a) (nv B d), .i .i64 (re (nv B d))]) := by
  have h1 := qcheck_spec s a d hd (by omega)
  by_cases h : nv B d = 0
  · rw [h, rv_0, re_0]
    rw [if_pos h] at h1
    refine mkcQ fol J0s Tryz.func39 a39 [.c 2 true 3, .t 3] ?_
    unfold a39
    simp only [init_eq, initE, qm, qr, qn]
    exact wcQ @bz_Q2
  · have h2 := qred_spec s a d m hm ha hd la ld h
    rw [rv_p _ h, re_p h]
    rw [if_neg h] at h1
    generalize rz (zv s a) (nv B d) = x at *
    generalize rden (zv s a) (nv B d) = y at *
    refine mkcQ fol J0s Tryz.func39 a39 [.c 2 true 3, .t 3] ?_
    unfold a39
    simp only [init_eq, initE, qm, qr, qn]
    exact wcQ @bz_Q2
def mz (x y : Int) : Int := if y < 0 then -x else x
theorem sgz_zz (z : Int) : (sgz z = 0) = (z = 0) := by unfold sgz; split; (exact propext ⟨fun h => absurd h (by decide), fun h => by omega⟩); split; (exact propext ⟨fun h => absurd h (by decide), fun h => by omega⟩); exact propext ⟨fun _ => by omega, fun _ => rfl⟩
theorem sgz_lt (z : Int) : (sgz z < 0) = (z < 0) := by
  unfold sgz; split
  · rename_i h; exact propext ⟨fun _ => h, fun _ => by decide⟩
  · rename_i h; split <;> exact propext ⟨fun h' => absurd h' (by decide), fun h' => absurd h' h⟩
def a51 : AC := .seq (.reg [qr 2 (.bx 27 (.t 0)),
 qr 3 (.bx 27 (.t 1)),
 qr 4 (.al 31 [(.b false), (.l 1 []), (.l 1 [])]),
 qr 5 (.mv (.k (.i .i64 0)))])
 (.seq (.seq (.reg [qr 6 (.ld true 2 (.t 3)),
 qr 7 (.call 75 [(1, (.t 6))]),
 qr 8 (.bin .eql (.t 7) (.k (.i .i64 0)))])
 (.cond (.t 8)
 (.seq (.reg [qr 9 (.bld [(.b false), (.l 1 []), (.l 1 [])] []),
 qn (.st 3 (.t 4) (.t 9)),
 qr 5 (.mv (.k (.i .i64 1)))])
 (.ret))
 (.skip)))
 (.seq (.seq (.reg [qr 10 (.ld true 2 (.t 3)),
 qr 11 (.call 75 [(1, (.t 10))]),
 qr 12 (.bin .lss (.t 11) (.k (.i .i64 0)))])
 (.cond (.t 12)
 (.reg [qr 13 (.ld true 2 (.t 2)),
 qr 14 (.call 74 [(1, (.t 13))]),
 qn (.st 2 (.t 2) (.t 14))])
 (.skip)))
 (.seq (.dreg [qr 15 (.ld true 2 (.t 2)),
 qr 16 (.ld true 2 (.t 3)),
 qr 17 (.call 76 [(1, (.t 16))]),
 qr 18 (.call 68 [(1, (.t 15)), (1, (.t 17))]),
 qn (.st 3 (.t 4) (.t 18)),
 qr 5 (.mv (.k (.i .i64 0)))])
 (.ret))))
theorem qmake_spec (s t : Bool) (a b : List Nat) (m : Nat) (hm : m ≤ 100000000) (ha : Wd a) (hb : Wd b) (la : a.length ≤ m) (lb : b.length ≤ m) : AFun Tryz.prog J0 51 [zL s a, zL t b] (.t [rv (mz (zv s a) (zv t b)) (nv B b), .i .i64 (re (nv B b))]) := by
  have h1 := zsign_spec t b hb (by omega)
  have hz := sgz_zz (zv t b)
  have hl := sgz_lt (zv t b)
  have hab := zv_abs t b
  have l1 := zv_lt (s := s) ha la
  by_cases h : nv B b = 0
  · rw [h, rv_0, re_0]
    have h0 : sgz (zv t b) = 0 := by rw [hz]; omega
    rw [h0] at h1
    refine mkcQ fol J0s Tryz.func51 a51 [.c 4 true 3, .t 5] ?_
    unfold a51
    simp only [init_eq, initE, qm, qr, qn]
    exact wcQ @bz_Q2
  · rw [rv_p _ h, re_p h]
    have h0 : ¬ sgz (zv t b) = 0 := by rw [hz]; omega
    have h3 := (zabs_spec t b hb (by omega)).frozen
    by_cases hn : zv t b < 0
    · rw [show mz (zv s a) (zv t b) = -(zv s a) from if_pos hn]
      have hn' : sgz (zv t b) < 0 := by rw [hl]; exact hn
      have h2 := zneg_spec s a ha (by omega)
      have h4 := qred_spec (decide (-(zv s a) < 0)) (dg B (-(zv s a)).natAbs) (dg B (nv B b)) m hm (Wd_dg _) (Wd_dg _) (dlen (by rw [Int.natAbs_neg]; exact l1)) (dlen (nvlt hb lb)) (by rw [nv_dgB]; exact h)
      rw [zv_N, nv_dgB] at h4
      generalize sgz (zv t b) = sg at *
      generalize rz (-(zv s a)) (nv B b) = x at *
      generalize rden (-(zv s a)) (nv B b) = y at *
      refine mkcQ fol J0s Tryz.func51 a51 [.c 4 true 3, .t 5] ?_
      unfold a51
      simp only [init_eq, initE, qm, qr, qn]
      exact wcQ (ai @hn' (ai @h0 @bz_Q2))
    · rw [show mz (zv s a) (zv t b) = zv s a from if_neg hn]
      have hn' : ¬ sgz (zv t b) < 0 := by rw [hl]; exact hn
      have h4 := qred_spec s a (dg B (nv B b)) m hm ha (Wd_dg _) la (dlen (nvlt hb lb)) (by rw [nv_dgB]; exact h)
      rw [nv_dgB] at h4
      generalize sgz (zv t b) = sg at *
      generalize rz (zv s a) (nv B b) = x at *
      generalize rden (zv s a) (nv B b) = y at *
      refine mkcQ fol J0s Tryz.func51 a51 [.c 4 true 3, .t 5] ?_
      unfold a51
      simp only [init_eq, initE, qm, qr, qn]
      exact wcQ (ai @hn' (ai @h0 @bz_Q2))
end Go.Proofs.YtbkpaeejjepnpaaGreat
namespace Go.Proofs.YtbkpaeejjepnpaaGreat
open Go Go.RowKit Ab
set_option linter.unusedSimpArgs false
set_option linter.unusedVariables false
set_option maxHeartbeats 10000000
theorem bz_Q3 : type_of% (And.intro @W_len (And.intro @D_len (And.intro @Nat.div_one (And.intro @Nat.mul_one (And.intro @tn_nat (And.intro @W_nf (And.intro @D_nf (And.intro @W_nil (And.intro @D_nil (And.intro @wi (And.intro @nf_g (And.intro @Bool.false_and (@W_cell))))))))))))) := And.intro @W_len (And.intro @D_len (And.intro @Nat.div_one (And.intro @Nat.mul_one (And.intro @tn_nat (And.intro @W_nf (And.intro @D_nf (And.intro @W_nil (And.intro @D_nil (And.intro @wi (And.intro @nf_g (And.intro @Bool.false_and (@W_cell))))))))))))
def RC : List (Bool × List Nat × List Nat) → List V
  | [] => []
  | p :: r => .b p.1 :: .l 1 (W p.2.1) :: .l 1 (W p.2.2) :: RC r
theorem RC_len : ∀ l, (RC l).length = l.length * 3
  | [] => rfl
  | p :: r => by simp only [RC, List.length_cons, RC_len r]; omega
theorem RC_row : ∀ (l : List (Bool × List Nat × List Nat)) (i : Nat), i < l.length → ((RC l).drop (i * 3)).take 3 = [.b (l.getD i (false, [], [])).1, .l 1 (W (l.getD i (false, [], [])).2.1), .l 1 (W (l.getD i (false, [], [])).2.2)]
  | [], i, h => by simp at h
  | p :: r, 0, h => rfl
  | p :: r, i + 1, h => by
    have := RC_row r i (by simpa using h)
    rw [show (i + 1) * 3 = (i * 3 + 2) + 1 from by omega]
    exact this
theorem RC_nf : ∀ l, (RC l).all V.cell = true
  | [] => rfl
  | p :: r => by simp only [RC, List.all_cons, V.cell, RC_nf r, Bool.and_true]
def ce (l : List (Bool × List Nat × List Nat)) : Int := if l.any (fun p => nv B p.2.2 == 0) then 1 else 0
def a56 : AC := .seq (.reg [qr 2 (.mv (.k (.i .i64 0)))])
 (.seq (.seq (.reg [qm 6 0,
 qr 7 (.len (.t 6)),
 qr 8 (.mv (.k (.i .i64 0)))])
 (.blk 0
 (.loop
 (.seq (.reg [qr 9 (.bin .lss (.t 8) (.t 7))])
 (.seq (.cond (.t 9)
 (.skip)
 (.exit 0))
 (.seq (.blk 1
 (.seq (.reg [qr 10 (.idx 3 (.t 6) (.t 8)),
 qr 11 (.ld true 3 (.t 10)),
 qr 4 (.al 31 [(.b false), (.l 1 []), (.l 1 [])]),
 qn (.st 3 (.t 4) (.t 11))])
 (.seq (.reg [qr 12 (.ld true 3 (.t 4)),
 qr 13 (.call 41 [(1, (.t 12))]),
 qm 5 13])
 (.seq (.reg [qm 14 5,
 qr 15 (.bin .neq (.t 14) (.k (.i .i64 0)))])
 (.cond (.t 15)
 (.seq (.reg [qm 16 5,
 qm 2 16])
 (.ret))
 (.skip))))))
 (.reg [qr 17 (.bin .add (.t 8) (.k (.i .i64 1))),
 qm 8 17])))))))
 (.seq (.reg [qr 2 (.mv (.k (.i .i64 0)))])
 (.ret)))
theorem qchecks_spec (l : List (Bool × List Nat × List Nat)) (ll : l.length ≤ 1000000000) (hl : ∀ p, p ∈ l → Wd p.2.2 ∧ p.2.2.length ≤ 1000000000) : AFun Tryz.prog J0 56 [.l 3 (RC l)] (.i .i64 (ce l)) := by
  have hz := RC_len l
  have hd : l.length * 3 / 3 = l.length := by omega
  obtain ⟨r, hr0⟩ : ∃ r, r = ce l := ⟨_, rfl⟩
  rw [← hr0]
  refine mkQ fol J0s Tryz.func56 a56 ?_
  unfold a56
  simp only [init_eq, initE, qm, qr, qn]
  refine spQ (ai @hd (ai @hz @bz_Q3)) ?_
  refine vm_loopA [] Nat (fun i => ⟨[(6, .l 3 (RC l)), (7, .i .i64 (l.length : Int)), (8, .i .i64 (i : Int))], [], 0⟩)
    (fun i => i ≤ l.length ∧ ∀ u, u < i → ¬ nv B (l.getD u (false, [], [])).2.2 = 0) (fun i => l.length - i) 0 ⟨Nat.zero_le _, fun u hu => by omega⟩ (by exact leQ) (by
    exact ltQ) ?_
  intro i ⟨hi, hall⟩ Q' hQ he hr
  by_cases h : (i : Int) < (l.length : Int)
  · have row := RC_row l i (by omega)
    have hmem : l.getD i (false, [], []) ∈ l := by rw [List.getD_eq_getElem?_getD, List.getElem?_eq_getElem (by omega)]; exact List.getElem_mem _
    obtain ⟨w1, l1⟩ := hl _ hmem
    have hc := qcheck_spec (l.getD i (false, [], [])).1 (l.getD i (false, [], [])).2.1 (l.getD i (false, [], [])).2.2 w1 l1
    by_cases h0 : nv B (l.getD i (false, [], [])).2.2 = 0
    · rw [if_pos h0] at hc
      have hr1 : r = 1 := by
        rw [hr0]; unfold ce
        rw [if_pos (List.any_eq_true.2 ⟨_, hmem, by simpa using h0⟩)]
      generalize l.getD i (false, [], []) = x at *
      refine wkQ (ai @row (ai @hz (ai @h @bz_Q3))) ?_
      refine hr _ ?_
      refine spQ @bz_Q3 ?_
      exact rtQ (ai @hr1 @bz_Q3)
    · rw [if_neg h0] at hc
      have hall2 : ∀ u, u < i + 1 → ¬ nv B (l.getD u (false, [], [])).2.2 = 0 := fun u hu => by
        by_cases e : u = i
        · subst e; exact h0
        · exact hall u (by omega)
      generalize l.getD i (false, [], []) = x at *
      refine wkQ (ai @row (ai @hz (ai @h @bz_Q3))) ?_
      refine hQ _ (i + 1) ⟨by omega, hall2⟩ (by omega) ?_
      exact ltQ
  · have hr1 : r = 0 := by
      rw [hr0]; unfold ce
      rw [if_neg]
      intro ha
      obtain ⟨p, hp, h0⟩ := List.any_eq_true.1 ha
      obtain ⟨u, hu, rfl⟩ := List.getElem_of_mem hp
      have := hall u (by omega)
      rw [List.getD_eq_getElem?_getD, List.getElem?_eq_getElem hu] at this
      exact this (by simpa using h0)
    refine spQ (ai @h @bz_Q3) ?_
    refine he _ _ ?_
    refine spQ @bz_Q3 ?_
    exact rtQ (ai @hr1 @bz_Q3)
theorem ce_2 (s t : Bool) (a b d e : List Nat) : ce [(s, a, d), (t, b, e)] = re (nv B d * nv B e) := by
  unfold ce re
  simp only [List.any_cons, List.any_nil, Bool.or_false, Bool.or_eq_true, beq_iff_eq, Nat.mul_eq_zero]
theorem qchecks2 (s t : Bool) (a b d e : List Nat) (hd : Wd d) (he : Wd e) (ld : d.length ≤ 1000000000) (le : e.length ≤ 1000000000) :
    AFun Tryz.prog J0 56 [.l 3 [.b s, .l 1 (W a), .l 1 (W d), .b t, .l 1 (W b), .l 1 (W e)]] (.i .i64 (re (nv B d * nv B e))) := by
  have := qchecks_spec [(s, a, d), (t, b, e)] (by simp) (fun p hp => by
    rcases List.mem_cons.1 hp with rfl | hp
    · exact ⟨hd, ld⟩
    · rcases List.mem_cons.1 hp with rfl | hp
      · exact ⟨he, le⟩
      · cases hp)
  rwa [ce_2] at this
theorem zv_f (d : List Nat) : zv false d = (nv B d : Int) := rfl
def a58 : AC := .seq (.reg [qr 2 (.bx 27 (.t 0)),
 qr 4 (.al 27 [(.b false), (.l 1 [])])])
 (.seq (.dreg [qr 5 (.ld true 2 (.t 2)),
 qm 6 1,
 qr 7 (.call 33 [(1, (.k (.b false))), (1, (.t 6))]),
 qr 8 (.call 34 [(1, (.t 5)), (1, (.t 7))]),
 qn (.st 2 (.t 4) (.t 8))])
 (.ret))
theorem qtimes_spec (s : Bool) (a d : List Nat) (ha : Wd a) (hd : Wd d) (la : a.length ≤ 100000000) (ld : d.length ≤ 100000000) : AFun Tryz.prog J0 58 [zL s a, .l 1 (W d)] (zN (zv s a * (nv B d : Int))) := by
  have h1 := znat_spec false d hd (by omega)
  have h2 := zmul_spec s (decide (zv false d < 0)) a (dg B (zv false d).natAbs) ha (Wd_dg _) la (Nat.le_trans (dlen (zv_lt hd (Nat.le_refl _))) ld)
  rw [zv_N, zv_f] at h2
  rw [zv_f] at h1
  refine mkcQ fol J0s Tryz.func58 a58 [.c 4 true 2] ?_
  unfold a58
  simp only [init_eq, initE, qm, qr, qn]
  exact wcQ @bz_Q3
def a27 : AC := .seq (.reg [qr 2 (.bx 31 (.t 0)),
 qr 3 (.bx 31 (.t 1)),
 qr 4 (.mv (.k (.i .i64 0))),
 qr 5 (.mv (.k (.i .i64 0)))])
 (.seq (.seq (.reg [qr 7 (.ld true 3 (.t 2)),
 qr 8 (.ld true 3 (.t 3)),
 qr 9 (.bsl 31 3 2 [(.b false), (.l 1 []), (.l 1 []), (.b false), (.l 1 []), (.l 1 [])] [(0, (.t 7)), (1, (.t 8))]),
 qr 10 (.call 56 [(3, (.t 9))]),
 qm 6 10])
 (.seq (.reg [qm 11 6,
 qr 12 (.bin .neq (.t 11) (.k (.i .i64 0)))])
 (.cond (.t 12)
 (.seq (.reg [qm 13 6,
 qr 4 (.mv (.k (.i .i64 0))),
 qm 5 13])
 (.ret))
 (.skip))))
 (.seq (.dreg [qr 14 (.fad 0 (.t 2)),
 qr 15 (.ld true 2 (.t 14)),
 qr 16 (.fad 2 (.t 3)),
 qr 17 (.ld false 1 (.t 16)),
 qr 18 (.call 58 [(1, (.t 15)), (1, (.t 17))]),
 qr 19 (.fad 0 (.t 3)),
 qr 20 (.ld true 2 (.t 19)),
 qr 21 (.fad 2 (.t 2)),
 qr 22 (.ld false 1 (.t 21)),
 qr 23 (.call 58 [(1, (.t 20)), (1, (.t 22))]),
 qr 24 (.call 57 [(1, (.t 18)), (1, (.t 23))]),
 qm 4 24,
 qr 5 (.mv (.k (.i .i64 0)))])
 (.ret)))
theorem qcmp_spec (s t : Bool) (a b d e : List Nat) (m : Nat) (hm : m ≤ 10000000) (ha : Wd a) (hb : Wd b) (hd : Wd d) (he : Wd e) (la : a.length ≤ m) (lb : b.length ≤ m) (ld : d.length ≤ m) (le : e.length ≤ m) :
    AFun Tryz.prog J0 27 [rL s a d, rL t b e] (.t [.i .i64 (if nv B d * nv B e = 0 then 0 else cz (zv s a * (nv B e : Int)) (zv t b * (nv B d : Int))), .i .i64 (re (nv B d * nv B e))]) := by
  have h1 := qchecks2 s t a b d e hd he (by omega) (by omega)
  by_cases h : nv B d * nv B e = 0
  · rw [if_pos h, h, re_0]
    rw [h, re_0] at h1
    refine mkQ fol J0s Tryz.func27 a27 ?_
    unfold a27
    simp only [init_eq, initE, qm, qr, qn]
    exact wdQ @bz_Q3
  · rw [if_neg h, re_p h]
    rw [re_p h] at h1
    have h2 := qtimes_spec s a e ha he (by omega) (by omega)
    have h3 := qtimes_spec t b d hb hd (by omega) (by omega)
    have b1 : (zv s a * (nv B e : Int)).natAbs < B ^ (m + m) := by rw [Int.natAbs_mul, Nat.pow_add]; exact Nat.mul_lt_mul'' (zv_lt ha la) (nvlt he le)
    have b2 : (zv t b * (nv B d : Int)).natAbs < B ^ (m + m) := by rw [Int.natAbs_mul, Nat.pow_add]; exact Nat.mul_lt_mul'' (zv_lt hb lb) (nvlt hd ld)
    generalize zv s a * (nv B e : Int) = x at *
    generalize zv t b * (nv B d : Int) = y at *
    have h4 := zcmp_spec (decide (x < 0)) (decide (y < 0)) (dg B x.natAbs) (dg B y.natAbs) (Wd_dg _) (Wd_dg _) (Nat.le_trans (dlen b1) (by omega)) (Nat.le_trans (dlen b2) (by omega))
    rw [zv_N, zv_N] at h4
    refine mkQ fol J0s Tryz.func27 a27 ?_
    unfold a27
    simp only [init_eq, initE, qm, qr, qn]
    exact wdQ @bz_Q3
def a61 : AC := .seq (.reg [qr 1 (.bx 31 (.t 0)),
 qr 2 (.mv (.k (.i .i64 0))),
 qr 3 (.mv (.k (.i .i64 0)))])
 (.seq (.seq (.reg [qr 5 (.ld true 3 (.t 1)),
 qr 6 (.call 41 [(1, (.t 5))]),
 qm 4 6])
 (.seq (.reg [qm 7 4,
 qr 8 (.bin .neq (.t 7) (.k (.i .i64 0)))])
 (.cond (.t 8)
 (.seq (.reg [qm 9 4,
 qr 2 (.mv (.k (.i .i64 0))),
 qm 3 9])
 (.ret))
 (.skip))))
 (.seq (.reg [qr 10 (.fad 0 (.t 1)),
 qr 11 (.ld true 2 (.t 10)),
 qr 12 (.call 75 [(1, (.t 11))]),
 qm 2 12,
 qr 3 (.mv (.k (.i .i64 0)))])
 (.ret)))
theorem qsign_spec (s : Bool) (a d : List Nat) (m : Nat) (hm : m ≤ 100000000) (ha : Wd a) (hd : Wd d) (la : a.length ≤ m) (ld : d.length ≤ m) : AFun Tryz.prog J0 61 [rL s a d] (.t [.i .i64 (if nv B d = 0 then 0 else sgz (zv s a)), .i .i64 (re (nv B d))]) := by
  have h1 := qcheck_spec s a d hd (by omega)
  have h2 := zsign_spec s a ha (by omega)
  by_cases h : nv B d = 0
  · rw [if_pos h, h, re_0]
    rw [if_pos h] at h1
    refine mkQ fol J0s Tryz.func61 a61 ?_
    unfold a61
    simp only [init_eq, initE, qm, qr, qn]
    exact wdQ @bz_Q3
  · rw [if_neg h, re_p h]
    rw [if_neg h] at h1
    generalize sgz (zv s a) = g at *
    refine mkQ fol J0s Tryz.func61 a61 ?_
    unfold a61
    simp only [init_eq, initE, qm, qr, qn]
    exact wdQ @bz_Q3
end Go.Proofs.YtbkpaeejjepnpaaGreat
namespace Go.Proofs.YtbkpaeejjepnpaaGreat
open Go Go.RowKit Ab
set_option linter.unusedSimpArgs false
set_option linter.unusedVariables false
set_option maxHeartbeats 10000000
theorem rz_back {z : Int} {d : Nat} : rz z d * (rG z d : Int) = z := Int.tdiv_mul_cancel (Int.ofNat_dvd_left.2 (Nat.gcd_dvd_left _ _))
theorem rden_back {z : Int} {d : Nat} : rden z d * rG z d = d := Nat.div_mul_cancel (Nat.gcd_dvd_right _ _)
end Go.Proofs.YtbkpaeejjepnpaaGreat
