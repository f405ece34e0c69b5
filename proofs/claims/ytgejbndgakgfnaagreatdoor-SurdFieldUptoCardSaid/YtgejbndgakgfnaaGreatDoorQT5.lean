/-
  A rational's text, read back.
-/
import Derived.Test.YtgejbndgakgfnaaGreatDoorQT2
import Derived.Test.YtgejbndgakgfnaaGreatDoorQ24
namespace Go.Proofs.YtgejbndgakgfnaaGreatDoor
open Go Go.RowKit Ab
set_option linter.unusedSimpArgs false
set_option linter.unusedVariables false
set_option maxHeartbeats 10000000
theorem slA_app : ∀ {u v : List UInt8}, (∀ c, c ∈ u → c ≠ 47) → slA (u ++ 47 :: v) = u.length
  | [], v, _ => by rw [List.nil_append, slA_cons, if_pos rfl]; rfl
  | c :: u, v, h => by
    rw [List.cons_append, slA_cons, if_neg (h c List.mem_cons_self), slA_app fun x hx => h x (List.mem_cons_of_mem _ hx)]; rfl
theorem slA_no {u : List UInt8} (h : ∀ c, c ∈ u → c ≠ 47) : slA u = u.length :=
  slA_none fun j hj e => by
    rw [List.getD_eq_getElem?_getD, List.getElem?_eq_getElem hj] at e
    exact h _ (List.getElem_mem hj) e
theorem dec_digs (u : Nat) : ∀ c, c ∈ decS u → isDg c = true := (okN_iff.1 (okN_dec u)).2.2
theorem dg_47 {c : UInt8} (h : isDg c = true) : c ≠ 47 := fun e => by subst e; cases h
theorem dec_ne (u : Nat) : decS u ≠ [] := (okN_iff.1 (okN_dec u)).1
theorem digB_dec (u : Nat) : digB (decS u) = true := digB_iff.2 ⟨dec_ne u, dec_digs u⟩
theorem parts_no (u : Nat) : topT (decS u) = decS u ∧ mrT (decS u) = false := by
  have h := slA_no fun c hc => dg_47 (dec_digs u c hc)
  unfold topT mrT
  rw [h]
  exact ⟨List.take_length, decide_eq_false (Nat.lt_irrefl _)⟩
theorem parts_two (u y : Nat) : topT (decS u ++ 47 :: decS y) = decS u ∧ undT (decS u ++ 47 :: decS y) = decS y ∧ mrT (decS u ++ 47 :: decS y) = true := by
  have h := slA_app (v := decS y) fun c hc => dg_47 (dec_digs u c hc)
  unfold topT undT mrT
  rw [h]
  refine ⟨by simp, ?_, decide_eq_true (by simp)⟩
  rw [show decS u ++ 47 :: decS y = (decS u ++ [47]) ++ decS y from by simp, show (decS u).length + 1 = (decS u ++ [47]).length from by simp]
  exact List.drop_left
theorem ng_app {a b : List UInt8} (h : a ≠ []) : ngT (a ++ b) = ngT a := by
  match a, h with
  | c :: r, _ => rfl
theorem qS_bd (x : Int) (y : Nat) : ngT (qS x y) = decide (x < 0) ∧ bdT (qS x y) = if y ≤ 1 then decS x.natAbs else decS x.natAbs ++ 47 :: decS y := by
  unfold qS
  by_cases hy : y ≤ 1
  · rw [if_pos hy, if_pos hy]; exact zS_bd
  · rw [if_neg hy, if_neg hy]
    unfold zS
    by_cases hx : x < 0
    · rw [if_pos hx, decide_eq_true hx]; exact ⟨rfl, rfl⟩
    · have h1 : ngT (decS x.natAbs ++ 47 :: decS y) = false := (ng_app (dec_ne _)).trans (okN_head (okN_dec _))
      rw [if_neg hx, decide_eq_false hx]
      refine ⟨h1, ?_⟩
      unfold bdT; rw [h1]; rfl
theorem qS_back (x : Int) {y : Nat} (hy : y ≠ 0) : okQ (qS x y) = true ∧ numQ (qS x y) = x.natAbs ∧ denQ (qS x y) = y := by
  have hb := (qS_bd x y).2
  unfold okQ numQ denQ
  rw [hb]
  by_cases h : y ≤ 1
  · obtain ⟨e1, e2⟩ := parts_no x.natAbs
    rw [if_pos h, e1, e2, digB_dec, numT_dec]
    exact ⟨rfl, rfl, by rw [if_neg (by simp)]; omega⟩
  · obtain ⟨e1, e2, e3⟩ := parts_two x.natAbs y
    rw [if_neg h, e1, e2, e3, digB_dec, digB_dec, numT_dec, numT_dec]
    exact ⟨rfl, rfl, rfl⟩
theorem pq_back {z : Int} {d : Nat} (hd : d ≠ 0) : pqV (qpV z d) = rN (rz z d) (rden z d) ∧ pqE (qpV z d) = 0 := by
  have hp := rden_pos (z := z) hd
  obtain ⟨h1, h2, h3⟩ := qS_back (rz z d) hp
  have h4 := (qS_bd (rz z d) (rden z d)).1
  rw [show qpV z d = qS (rz z d) (rden z d) from if_neg hd]
  obtain ⟨e1, e2⟩ := pq_ok h1 (by rw [h3]; exact hp)
  have hz : zI (ngT (qS (rz z d) (rden z d))) (numQ (qS (rz z d) (rden z d))) = rz z d := by rw [h4, h2]; exact zI_self _
  rw [hz, h3] at e1
  have hc := r_co z hd
  rw [e1, rzN_co hc, rdenN_co hc]
  exact ⟨rfl, e2⟩
end Go.Proofs.YtgejbndgakgfnaaGreatDoor
