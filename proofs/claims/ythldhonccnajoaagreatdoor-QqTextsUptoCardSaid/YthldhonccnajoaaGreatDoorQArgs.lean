/-
  surdlaw08: the case that the laws are handed.
-/
import Derived.Test.YthldhonccnajoaaGreatDoorZArgs
import Derived.Test.YthldhonccnajoaaGreatDoorQB
namespace Go.Proofs.YthldhonccnajoaaGreatDoor
open Go Go.ChangeShapes Go.WideShapes Go.ChangeAt Go.RowKit Ab
set_option linter.unusedSimpArgs false
set_option linter.unusedVariables false
set_option maxHeartbeats 10000000
def QSt10 (Q1 Q2 Q3 Q4 Q5 Q6 Q7 Q8 Q9 Q10 : List V → Nat → Prop) (xs : List V) (n : Nat) : Prop :=
  ∃ x1 x2 x3 x4 x5 x6 x7 x8 x9 x10 n1 n2 n3 n4 n5 n6 n7 n8 n9 n10, xs = x1 ++ (x2 ++ (x3 ++ (x4 ++ (x5 ++ (x6 ++ (x7 ++ (x8 ++ (x9 ++ x10)))))))) ∧ Q1 x1 n1 ∧ Q2 x2 n2 ∧ Q3 x3 n3 ∧ Q4 x4 n4 ∧ Q5 x5 n5 ∧ Q6 x6 n6 ∧ Q7 x7 n7 ∧ Q8 x8 n8 ∧ Q9 x9 n9 ∧ Q10 x10 n10 ∧ n = n1 + n2 + n3 + n4 + n5 + n6 + n7 + n8 + n9 + n10 + 1
theorem opens_case10 {P : Program} {H : Type} {enc : TypeId × Value → H} {w : World} {t : TypeId} {f1 f2 f3 f4 f5 f6 f7 f8 f9 f10 : Field} {Q1 Q2 Q3 Q4 Q5 Q6 Q7 Q8 Q9 Q10 : List V → Nat → Prop} (ht : P.underlying t = some (.struct #[f1, f2, f3, f4, f5, f6, f7, f8, f9, f10])) (o1 : f1.offset = 0) (o2 : f2.offset = 3) (o3 : f3.offset = 6) (o4 : f4.offset = 9) (o5 : f5.offset = 11) (o6 : f6.offset = 13) (o7 : f7.offset = 14) (o8 : f8.offset = 15) (o9 : f9.offset = 16) (o10 : f10.offset = 17) (c1 : P.cellsOf f1.type = 3) (c2 : P.cellsOf f2.type = 3) (c3 : P.cellsOf f3.type = 3) (c4 : P.cellsOf f4.type = 2) (c5 : P.cellsOf f5.type = 2) (c6 : P.cellsOf f6.type = 1) (c7 : P.cellsOf f7.type = 1) (c8 : P.cellsOf f8.type = 1) (c9 : P.cellsOf f9.type = 1) (c10 : P.cellsOf f10.type = 1)
    (hc : P.cellsOf t = 18) (h1 : Opens enc P w f1.type Q1) (h2 : Opens enc P w f2.type Q2) (h3 : Opens enc P w f3.type Q3) (h4 : Opens enc P w f4.type Q4) (h5 : Opens enc P w f5.type Q5) (h6 : Opens enc P w f6.type Q6) (h7 : Opens enc P w f7.type Q7) (h8 : Opens enc P w f8.type Q8) (h9 : Opens enc P w f9.type Q9) (h10 : Opens enc P w f10.type Q10) : Opens enc P w t (QSt10 Q1 Q2 Q3 Q4 Q5 Q6 Q7 Q8 Q9 Q10) := fun fuel cs d ps h hlt => by
  obtain ⟨xs, n, _, hx, hl, hn, hf⟩ := DataW.trod_struct ht h
  match xs, hn with
  | [⟨d1, p1⟩, ⟨d2, p2⟩, ⟨d3, p3⟩, ⟨d4, p4⟩, ⟨d5, p5⟩, ⟨d6, p6⟩, ⟨d7, p7⟩, ⟨d8, p8⟩, ⟨d9, p9⟩, ⟨d10, p10⟩], _ =>
    cases hx
    have g1 := hf 0 f1 rfl
    have g2 := hf 1 f2 rfl
    have g3 := hf 2 f3 rfl
    have g4 := hf 3 f4 rfl
    have g5 := hf 4 f5 rfl
    have g6 := hf 5 f6 rfl
    have g7 := hf 6 f7 rfl
    have g8 := hf 7 f8 rfl
    have g9 := hf 8 f9 rfl
    have g10 := hf 9 f10 rfl
    simp only [o1, o2, o3, o4, o5, o6, o7, o8, o9, o10, c1, c2, c3, c4, c5, c6, c7, c8, c9, c10, List.drop_zero, List.getElem?_cons_zero, List.getElem?_cons_succ] at g1 g2 g3 g4 g5 g6 g7 g8 g9 g10
    obtain ⟨x1, n1, q1, l1, r1⟩ := h1 _ _ _ _ g1 fun x hx => hlt x (by simp [hx])
    obtain ⟨x2, n2, q2, l2, r2⟩ := h2 _ _ _ _ g2 fun x hx => hlt x (by simp [hx])
    obtain ⟨x3, n3, q3, l3, r3⟩ := h3 _ _ _ _ g3 fun x hx => hlt x (by simp [hx])
    obtain ⟨x4, n4, q4, l4, r4⟩ := h4 _ _ _ _ g4 fun x hx => hlt x (by simp [hx])
    obtain ⟨x5, n5, q5, l5, r5⟩ := h5 _ _ _ _ g5 fun x hx => hlt x (by simp [hx])
    obtain ⟨x6, n6, q6, l6, r6⟩ := h6 _ _ _ _ g6 fun x hx => hlt x (by simp [hx])
    obtain ⟨x7, n7, q7, l7, r7⟩ := h7 _ _ _ _ g7 fun x hx => hlt x (by simp [hx])
    obtain ⟨x8, n8, q8, l8, r8⟩ := h8 _ _ _ _ g8 fun x hx => hlt x (by simp [hx])
    obtain ⟨x9, n9, q9, l9, r9⟩ := h9 _ _ _ _ g9 fun x hx => hlt x (by simp [hx])
    obtain ⟨x10, n10, q10, l10, r10⟩ := h10 _ _ _ _ g10 fun x hx => hlt x (by simp [hx])
    refine ⟨_, _, ⟨x1, x2, x3, x4, x5, x6, x7, x8, x9, x10, n1, n2, n3, n4, n5, n6, n7, n8, n9, n10, rfl, q1, q2, q3, q4, q5, q6, q7, q8, q9, q10, rfl⟩, by simp [Rows.uptoBulk, Rows.uptoBulkAll]; omega, ?_⟩
    have e : cs = cs.take 3 ++ ((cs.drop 3).take 3 ++ ((cs.drop 6).take 3 ++ ((cs.drop 9).take 2 ++ ((cs.drop 11).take 2 ++ ((cs.drop 13).take 1 ++ ((cs.drop 14).take 1 ++ ((cs.drop 15).take 1 ++ ((cs.drop 16).take 1 ++ (cs.drop 17).take 1)))))))) := by
      match cs, (by omega : cs.length = 18) with
      | [a1, a2, a3, a4, a5, a6, a7, a8, a9, a10, a11, a12, a13, a14, a15, a16, a17, a18], _ => rfl
    rw [e]
    exact repAll_app r1 (repAll_app r2 (repAll_app r3 (repAll_app r4 (repAll_app r5 (repAll_app r6 (repAll_app r7 (repAll_app r8 (repAll_app r9 r10))))))))
abbrev QRat : List V → Nat → Prop := QSt2 QZ QNat
theorem opens_rat {H : Type} {enc : TypeId × Value → H} {w : World} : Opens enc Tryz.prog w 27 QRat :=
  opens_struct2 (s1 := 2) (s2 := 1) Tryz.underlying27 rfl rfl (by kernel_rfl) (by kernel_rfl) (by kernel_rfl) opens_z opens_nat
theorem QRat_L {xs : List V} {n : Nat} (h : QRat xs n) : ∃ (s : Bool) (a d : List Nat), xs = [.b s, .l 1 (W a), .l 1 (W d)] ∧ Wd a ∧ Wd d ∧ a.length ≤ n ∧ d.length ≤ n := by
  obtain ⟨x1, x2, n1, n2, rfl, q1, q2, rfl⟩ := h
  obtain ⟨s, a, e1, wa, la⟩ := QZ_L q1
  obtain ⟨d, rfl, wd, ld⟩ := QNat_W q2
  have e : x1 = [.b s, .l 1 (W a)] := by injection e1
  exact ⟨s, a, d, by rw [e]; rfl, wa, wd, by omega, by omega⟩
abbrev QRats : List V → Nat → Prop := QSl 3 QRat
theorem opens_rats {H : Type} {enc : TypeId × Value → H} {w : World} : Opens enc Tryz.prog w 28 QRats := opens_slice Tryz.underlying28 (by kernel_rfl) (by decide) opens_rat
theorem QRats_L {xs : List V} {n : Nat} (h : QRats xs n) : ∃ l : List (Bool × List Nat × List Nat), xs = [.l 3 (RC l)] ∧ l.length ≤ n ∧ ∀ p, p ∈ l → Wd p.2.1 ∧ Wd p.2.2 ∧ p.2.1.length ≤ n ∧ p.2.2.length ≤ n := by
  obtain ⟨es, rfl, he, _, rfl⟩ := h
  have key : ∀ es : List (List V × Nat), (∀ p, p ∈ es → QRat p.1 p.2 ∧ p.1.length = 3) → ∃ l : List (Bool × List Nat × List Nat), (es.map (·.1)).flatten = RC l ∧ l.length ≤ (es.map (·.2)).sum ∧ ∀ p, p ∈ l → Wd p.2.1 ∧ Wd p.2.2 ∧ p.2.1.length ≤ (es.map (·.2)).sum ∧ p.2.2.length ≤ (es.map (·.2)).sum := by
    intro es
    induction es with
    | nil => intro _; exact ⟨[], rfl, Nat.zero_le _, fun z hz => by cases hz⟩
    | cons p r ih =>
      intro h
      obtain ⟨l, e, la, hp⟩ := ih fun q hq => h q (List.mem_cons_of_mem _ hq)
      have hq := (h p List.mem_cons_self).1
      have hn0 : 1 ≤ p.2 := by obtain ⟨_, _, _, _, _, _, _, hn⟩ := hq; omega
      obtain ⟨s, a, d, e0, wa, wd, l1, l2⟩ := QRat_L hq
      refine ⟨(s, a, d) :: l, ?_, ?_, fun z hz => ?_⟩
      · rw [List.map_cons, List.flatten_cons, e, e0]; rfl
      · simp only [List.length_cons, List.map_cons, List.sum_cons]; omega
      · simp only [List.map_cons, List.sum_cons]
        rcases List.mem_cons.1 hz with rfl | hz
        · exact ⟨wa, wd, by simp only; omega, by simp only; omega⟩
        · obtain ⟨h1, h2, h3, h4⟩ := hp z hz
          exact ⟨h1, h2, by omega, by omega⟩
  obtain ⟨l, e, la, hp⟩ := key es he
  exact ⟨l, by rw [e], Nat.le_succ_of_le la, fun p h => by obtain ⟨h1, h2, h3, h4⟩ := hp p h; exact ⟨h1, h2, Nat.le_succ_of_le h3, Nat.le_succ_of_le h4⟩⟩
end Go.Proofs.YthldhonccnajoaaGreatDoor
