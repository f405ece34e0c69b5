/-
  The book: a number to be handed in.
-/
import Derived.Test.YteaiegppmbcibaaBK0
namespace Go.Proofs.Yteaiegppmbcibaa
open Go Go.RowKit Ab
set_option linter.unusedSimpArgs false
set_option linter.unusedVariables false
set_option maxHeartbeats 10000000
theorem bz_BK1 : type_of% (And.intro @W_len (And.intro @Nat.div_one (And.intro @Nat.mul_one (And.intro @tn_nat (And.intro @W_nf (And.intro @W_nil (And.intro @wi (And.intro @nf_g (And.intro @Bool.false_and (@W_cell)))))))))) := And.intro @W_len (And.intro @Nat.div_one (And.intro @Nat.mul_one (And.intro @tn_nat (And.intro @W_nf (And.intro @W_nil (And.intro @wi (And.intro @nf_g (And.intro @Bool.false_and (@W_cell)))))))))
theorem mk_z (m : Nat) : (List.replicate m [V.i .u64 0]).flatten = W (List.replicate m 0) := by
  induction m with
  | zero => rfl
  | succ n ih => rw [List.replicate_succ, List.flatten_cons, ih, List.replicate_succ]; rfl
theorem mk_in (a : List Nat) : setAt (W (List.replicate (a.length + 5) 0)) 0 (W a) = W (a ++ List.replicate 5 0) := by
  have key : ∀ (X A R Y : List V), A.length = R.length → setAt (X ++ (A ++ Y)) X.length R = X ++ (R ++ Y) := by
    intro X A R Y
    induction R generalizing X A with
    | nil => intro h; cases A with | nil => rfl | cons a A => simp at h
    | cons r R ih =>
      intro h
      cases A with
      | nil => simp at h
      | cons a A =>
        have e : (X ++ (a :: A ++ Y)).set X.length r = (X ++ [r]) ++ (A ++ Y) := by simp
        show setAt ((X ++ (a :: A ++ Y)).set X.length r) (X.length + 1) R = _
        rw [e, show X.length + 1 = (X ++ [r]).length from by simp, ih (X ++ [r]) A (by simpa using h)]
        simp
  have h2 := key [] (W (List.replicate a.length 0)) (W a) (W (List.replicate 5 0)) (by rw [W_len, W_len, List.length_replicate])
  simp only [List.nil_append, List.length_nil] at h2
  rw [← List.replicate_append_replicate, show W (List.replicate a.length 0 ++ List.replicate 5 0) = W (List.replicate a.length 0) ++ W (List.replicate 5 0) from by simp [W], h2]
  simp [W]
def inK (n : Nat) (ls fs us : List V) (rest : List V) (a : List Nat) (s : St) : Prop :=
  ∃ i1 i2 i3, s.ob 0 = some ⟨33, 7, .ow 1 i1 (n + 1) :: .ow 1 i2 (n + 1) :: .ow 1 i3 (n + 1) :: rest, true, true⟩ ∧ i1 ≠ 0 ∧ i2 ≠ 0 ∧ i3 ≠ 0 ∧ i1 ≠ i2 ∧ i1 ≠ i3 ∧ i2 ≠ i3 ∧
    s.ob i1 = some ⟨55, 1, ls ++ [.l 1 (W a)], true, false⟩ ∧ s.ob i2 = some ⟨55, 1, fs ++ [.l 1 (W (a ++ List.replicate 5 0))], true, false⟩ ∧ s.ob i3 = some ⟨55, 1, us ++ [.l 1 (W (a ++ List.replicate 5 0))], true, false⟩ ∧
    s.get 4 = .l 1 (W a) ∧ s.get 0 = .pt 0 0
def a38 : AC := .seq (.reg [qr 4 (.mv (.k .nl))])
 (.seq (.reg [qm 6 1,
 qr 7 (.len (.t 6)),
 qr 8 (.bin .add (.t 7) (.k (.i .i64 5))),
 qr 9 (.mk 60 1 8 [(.i .u64 0)] (.t 8) (.t 8)),
 qm 5 9])
 (.seq (.reg [qm 10 5,
 qm 11 1,
 qr 12 (.cpy 1 (.t 10) (.t 11))])
 (.seq (.dregx [(18, 23), (23, 28), (19, 28), (24, 28), (18, 30), (23, 30), (19, 30), (24, 30), (28, 30), (23, 35), (19, 35), (24, 35), (30, 35), (29, 35), (31, 35), (35, 37), (35, 38), (35, 39)] [qm 13 0,
 qm 14 0,
 qm 15 0,
 qm 16 0,
 qr 17 (.nc (.t 16)),
 qr 18 (.fad 0 (.t 17)),
 qr 19 (.ld false 1 (.t 18)),
 qm 20 5,
 qm 21 1,
 qr 22 (.len (.t 21)),
 qr 23 (.sub 1 (.t 20) none (some (.t 22))),
 qr 24 (.bsl 55 1 1 [(.l 1 [])] [(0, (.t 23))]),
 qr 25 (.app 55 1 24 (.t 19) (.t 24)),
 qm 26 0,
 qr 27 (.nc (.t 26)),
 qr 28 (.fad 1 (.t 27)),
 qr 29 (.ld false 1 (.t 28)),
 qm 30 5,
 qr 31 (.bsl 55 1 1 [(.l 1 [])] [(0, (.t 30))]),
 qr 32 (.app 55 1 24 (.t 29) (.t 31)),
 qm 33 0,
 qr 34 (.nc (.t 33)),
 qr 35 (.fad 2 (.t 34)),
 qr 36 (.ld false 1 (.t 35)),
 qr 37 (.bsl 60 1 0 [] []),
 qm 38 5,
 qr 39 (.app 60 1 8 (.t 37) (.t 38)),
 qr 40 (.bsl 55 1 1 [(.l 1 [])] [(0, (.t 39))]),
 qr 41 (.app 55 1 24 (.t 36) (.t 40)),
 qr 42 (.nc (.t 13)),
 qr 43 (.fad 0 (.t 42)),
 qn (.stk (.t 43) (.t 25)),
 qr 44 (.nc (.t 14)),
 qr 45 (.fad 1 (.t 44)),
 qn (.stk (.t 45) (.t 32)),
 qr 46 (.nc (.t 15)),
 qr 47 (.fad 2 (.t 46)),
 qn (.stk (.t 47) (.t 41))])
 (.seq (.reg [qm 48 5,
 qm 49 1,
 qr 50 (.len (.t 49)),
 qr 51 (.sub 1 (.t 48) none (some (.t 50))),
 qm 4 51])
 (.ret)))))
theorem in_walk (n : Nat) (ls fs us : List V) (v3 v4 v5 v6 : V) (a : List Nat) (hn : n ≤ 1000000) (la : a.length ≤ 1000000000) (l1 : ls.length = n) (l2 : fs.length = n) (l3 : us.length = n) :
    avc (AFun Try.prog J0) (XFun Try.prog) (a38.p1.seq (a38.p2.p1.seq a38.p2.p2.p1)) (fun ex s => ex = .normal ∧ okR s.ob (s.get 5) ∧ (rd s.ob 1 (s.get 5)).okArg = true ∧
        avc (AFun Try.prog J0) (XFun Try.prog) a38.p2.p2.p2 (fun ex s => (ex = .normal ∨ ex = .ret) ∧ inK n ls fs us [v3, v4, v5, v6] a s) (s.fz 5 1))
      ⟨[(0, .pt 0 0), (1, .l 1 (W a))], [(0, some ⟨33, 7, [.ow 1 1 n, .ow 1 2 n, .ow 1 3 n, v3, v4, v5, v6], true, true⟩), (1, some ⟨55, 1, ls, true, false⟩), (2, some ⟨55, 1, fs, true, false⟩), (3, some ⟨55, 1, us, true, false⟩)], 4⟩ := by
  have hz := mk_z (a.length + 5)
  have hmk := mk_in a
  have ht : (W a).take (a.length + 5) = W a := List.take_of_length_le (by rw [W_len]; omega)
  have hl : (W (List.replicate (a.length + 5) 0)).length = a.length + 5 := by rw [W_len, List.length_replicate]
  have hl2 : (W (a ++ List.replicate 5 0)).length = a.length + 5 := by rw [W_len, List.length_append, List.length_replicate]
  have w1 : IntKind.i64.wrap ((a.length : Nat) + 5 : Int) = ((a.length + 5 : Nat) : Int) := by rw [wi (by omega)]; rfl
  apply vm_start
  unfold a38
  simp only [init_eq, initE, qm, qr, qn, AC.p1, AC.p2]
  refine spQ (ai @hz (ai @w1 @bz_BK1)) ?_
  refine spQ (ai @hl2 (ai @hl (ai @ht (ai @hmk @bz_BK1)))) ?_
  refine ⟨trivial, trivial, rfl, ?_⟩
  have hs : (W (a ++ List.replicate 5 0)).take a.length = W a := by
    rw [show W (a ++ List.replicate 5 0) = W a ++ W (List.replicate 5 0) from by simp [W], List.take_append_of_le_length (by rw [W_len]; exact Nat.le_refl _), List.take_of_length_le (by rw [W_len]; exact Nat.le_refl _)]
  simp only [St.fz, St.ob, St.get, lk, lo, rd, frz, ↓reduceIte, Nat.reduceEqDiff, List.cons_append, List.nil_append, Bool.false_eq_true]
  apply vm_start
  refine spQ (ai @hl2 (ai @hs @bz_BK1)) ?_
  exact ⟨.inr trivial, 25, 32, 41, rfl, by decide, by decide, by decide, by decide, by decide, by decide, rfl, rfl, rfl, rfl, rfl⟩
end Go.Proofs.Yteaiegppmbcibaa
