/-
  Gaussian integers, plainly: size, sums, products, powers, values, turns, squares.
-/
import Derived.Test.YteaiegppmbcibaaGD
namespace Go.Proofs.Yteaiegppmbcibaa
set_option linter.unusedSimpArgs false
set_option linter.unusedVariables false
set_option maxHeartbeats 10000000
abbrev GZ := Int × Int
def gsz (z : GZ) : Nat := z.1.natAbs + z.2.natAbs
def gadd (x y : GZ) : GZ := (x.1 + y.1, x.2 + y.2)
def gmul (x y : GZ) : GZ := (x.1 * y.1 - x.2 * y.2, x.1 * y.2 + x.2 * y.1)
def gpow (x : GZ) : Nat → GZ
  | 0 => (1, 0)
  | n + 1 => gmul (gpow x n) x
abbrev SM : Nat := 1125899906842624
theorem gsz_prod (a b c d : Int) : ((a * c).natAbs + (b * d).natAbs) + ((a * d).natAbs + (b * c).natAbs) = (a.natAbs + b.natAbs) * (c.natAbs + d.natAbs) := by
  simp only [Int.natAbs_mul, Nat.add_mul, Nat.mul_add]; omega
theorem gsz_mul (x y : GZ) : gsz (gmul x y) ≤ gsz x * gsz y := by
  have h := gsz_prod x.1 x.2 y.1 y.2
  unfold gsz gmul
  simp only []
  rw [← h]; omega
theorem gmul_ok {x y : GZ} (h : gsz x * gsz y < SM) : ((x.1 * y.1).natAbs + (x.2 * y.2).natAbs < 9007199254740992 ∧ (x.1 * y.2).natAbs + (x.2 * y.1).natAbs < 9007199254740992) := by
  have h2 := gsz_prod x.1 x.2 y.1 y.2
  unfold gsz at h; rw [← h2] at h
  simp only [SM] at h
  constructor <;> omega
theorem gmul_assoc (x y z : GZ) : gmul (gmul x y) z = gmul x (gmul y z) := by
  unfold gmul; simp only [Prod.mk.injEq, Int.sub_mul, Int.add_mul, Int.mul_sub, Int.mul_add, Int.mul_assoc]
  constructor <;> omega
theorem gmul_add (x y z : GZ) : gmul (gadd x y) z = gadd (gmul x z) (gmul y z) := by
  unfold gmul gadd; simp only [Prod.mk.injEq, Int.add_mul]
  constructor <;> omega
def wsum (s : Nat) : List Int → Nat
  | [] => 0
  | c :: r => c.natAbs + s * wsum s r
def horner (z : GZ) : List Int → GZ
  | [] => (0, 0)
  | c :: r => gadd (gmul (horner z r) z) (c, 0)
theorem wsum_app (s : Nat) : ∀ (l r : List Int), wsum s (l ++ r) = wsum s l + s ^ l.length * wsum s r
  | [], r => by simp [wsum]
  | c :: l, r => by
    simp only [List.cons_append, wsum, wsum_app s l r, List.length_cons, Nat.pow_succ, Nat.mul_add]
    rw [Nat.mul_comm (s ^ l.length) s, Nat.mul_assoc]; omega
theorem wsum_one (s : Nat) (c : Int) : wsum s [c] = c.natAbs := by simp [wsum]
theorem wsum_take_succ (s : Nat) (l : List Int) (i : Nat) (h : i < l.length) : wsum s (l.take (i + 1)) = wsum s (l.take i) + s ^ i * (l.getD i 0).natAbs := by
  rw [List.take_succ_eq_append_getElem h, wsum_app, wsum_one, List.length_take, Nat.min_eq_left (Nat.le_of_lt h), List.getD_eq_getElem?_getD, List.getElem?_eq_getElem h]; rfl
theorem wsum_take_le (s : Nat) (l : List Int) (i : Nat) : wsum s (l.take i) ≤ wsum s l := by
  have := wsum_app s (l.take i) (l.drop i)
  rw [List.take_append_drop] at this; omega
theorem wsum_drop (s : Nat) (l : List Int) (i : Nat) (hi : i ≤ l.length) : s ^ i * wsum s (l.drop i) ≤ wsum s l := by
  have := wsum_app s (l.take i) (l.drop i)
  rw [List.take_append_drop, List.length_take, Nat.min_eq_left hi] at this; omega
theorem gsz_add (x y : GZ) : gsz (gadd x y) ≤ gsz x + gsz y := by unfold gsz gadd; simp only []; omega
theorem horner_sz (z : GZ) {s : Nat} (hs : gsz z ≤ s) : ∀ (l : List Int), gsz (horner z l) ≤ wsum s l
  | [] => (by decide : gsz (0, 0) ≤ 0)
  | c :: r => by
    simp only [horner, wsum]
    refine Nat.le_trans (gsz_add _ _) ?_
    have h1 := gsz_mul (horner z r) z
    have h2 := Nat.mul_le_mul (horner_sz z hs r) hs
    have h3 : gsz (c, 0) = c.natAbs := by unfold gsz; simp
    rw [h3, Nat.mul_comm s]; omega
theorem horner_drop (z : GZ) (l : List Int) (i : Nat) (h : i < l.length) : horner z (l.drop i) = gadd (gmul (horner z (l.drop (i + 1))) z) (l.getD i 0, 0) := by
  rw [List.drop_eq_getElem_cons h, horner, List.getD_eq_getElem?_getD, List.getElem?_eq_getElem h]; rfl
theorem horner_app0 (z : GZ) : ∀ (l : List Int) (n : Nat), horner z (l ++ List.replicate n 0) = horner z l
  | [], n => by
    induction n with
    | zero => rfl
    | succ n ih =>
      rw [List.nil_append] at ih
      rw [List.nil_append, List.replicate_succ]
      show gadd (gmul (horner z (List.replicate n 0)) z) (0, 0) = (0, 0)
      rw [ih, show horner z [] = (0, 0) from rfl]; simp [gmul, gadd]
  | c :: l, n => by simp only [List.cons_append, horner, horner_app0 z l n]
theorem wsum_rep0 (s n : Nat) : wsum s (List.replicate n 0) = 0 := by
  induction n with
  | zero => rfl
  | succ n ih => rw [List.replicate_succ, wsum, ih]; simp
def tzi : List Int → List Int
  | [] => []
  | x :: r => if x = 0 ∧ tzi r = [] then [] else x :: tzi r
theorem tzi_split : ∀ (l : List Int), ∃ n, l = tzi l ++ List.replicate n 0
  | [] => ⟨0, rfl⟩
  | x :: l => by
    obtain ⟨n, h⟩ := tzi_split l
    simp only [tzi]
    split
    · rename_i hx
      refine ⟨n + 1, ?_⟩
      rw [hx.2] at h
      rw [List.replicate_succ, h, hx.1]; simp
    · exact ⟨n, by rw [List.cons_append, ← h]⟩
theorem tzi_len (l : List Int) : (tzi l).length ≤ l.length := by
  obtain ⟨n, h⟩ := tzi_split l
  have := congrArg List.length h
  simp at this; omega
theorem tzi_take (l : List Int) : l.take (tzi l).length = tzi l := by
  obtain ⟨n, h⟩ := tzi_split l
  have : (tzi l ++ List.replicate n 0).take (tzi l).length = tzi l := by simp
  rw [← h] at this; exact this
theorem tzi_rep (n : Nat) : tzi (List.replicate n 0) = [] := by
  induction n with
  | zero => rfl
  | succ n ih => rw [List.replicate_succ, tzi, ih]; simp
theorem tzi_app_rep : ∀ (l : List Int) (n : Nat), tzi (l ++ List.replicate n 0) = tzi l
  | [], n => tzi_rep n
  | x :: l, n => by simp only [List.cons_append, tzi, tzi_app_rep l n]
theorem tzi_zero (l : List Int) (i : Nat) (hi : i < l.length) (h0 : l.getD i 0 = 0) : tzi (l.take (i + 1)) = tzi (l.take i) := by
  rw [List.take_succ_eq_append_getElem hi]
  have : l[i] = 0 := by rw [List.getD_eq_getElem?_getD, List.getElem?_eq_getElem hi] at h0; exact h0
  rw [this]
  exact tzi_app_rep _ 1
theorem tzi_last : ∀ (l : List Int) (x : Int), x ≠ 0 → tzi (l ++ [x]) = l ++ [x]
  | [], x, h => by simp [tzi, h]
  | y :: l, x, h => by simp [tzi, tzi_last l x h]
theorem tzi_top (l : List Int) (i : Nat) (hi : i < l.length) (h0 : l.getD i 0 ≠ 0) : tzi (l.take (i + 1)) = l.take (i + 1) := by
  rw [List.take_succ_eq_append_getElem hi, tzi_last _ _ (by rw [List.getD_eq_getElem?_getD, List.getElem?_eq_getElem hi] at h0; exact h0)]
theorem horner_tzi (z : GZ) (l : List Int) : horner z (tzi l) = horner z l := by
  obtain ⟨n, h⟩ := tzi_split l
  have := horner_app0 z (tzi l) n
  rw [← h] at this; exact this.symm
theorem wsum_tzi (s : Nat) (l : List Int) : wsum s (tzi l) = wsum s l := by
  obtain ⟨n, h⟩ := tzi_split l
  have := wsum_app s (tzi l) (List.replicate n 0)
  rw [← h, wsum_rep0] at this; omega
def vOk (l : List Int) (z : GZ) : Prop := gsz z < SM ∧ wsum (max (gsz z) 1) l < SM
instance (l : List Int) (z : GZ) : Decidable (vOk l z) := by unfold vOk; infer_instance
def vF (l : List Int) (z : GZ) : GZ := if vOk l z then horner z l else (0, 0)
def vE (l : List Int) (z : GZ) : Int := if vOk l z then 0 else 13
theorem vOk_tzi (l : List Int) (z : GZ) : vOk (tzi l) z = vOk l z := by unfold vOk; rw [wsum_tzi]
theorem vF_tzi (l : List Int) (z : GZ) : vF (tzi l) z = vF l z := by unfold vF; simp only [vOk_tzi, horner_tzi]
theorem vE_tzi (l : List Int) (z : GZ) : vE (tzi l) z = vE l z := by unfold vE; simp only [vOk_tzi]
def vsE (l : List Int) (zs : List GZ) : Int := if ∀ z, z ∈ zs → vOk l z then 0 else 13
def vsF (l : List Int) (zs : List GZ) : List GZ := if vsE l zs = 0 then zs.map (vF l) else []
def ei (z : GZ) : Int :=
  if z.2 = 0 then (if 0 < z.1 then 0 else 4)
  else if z.1 = 0 then (if 0 < z.2 then 2 else 6)
  else if 0 < z.2 then (if 0 < z.1 then 1 else 3)
  else if z.1 < 0 then 5 else 7
def eiE (z : GZ) : Int := if gsz z < SM then (if z = (0, 0) then 1 else 0) else 13
def eiF (z : GZ) : Int := if eiE z = 0 then ei z else 0
theorem ei_bnd (z : GZ) : 0 ≤ ei z ∧ ei z ≤ 7 := by unfold ei; (repeat' split) <;> decide
def esE : List GZ → Int
  | [] => 0
  | z :: r => if eiE z = 0 then esE r else eiE z
def dd (x y : Int) : Int := if (y - x + 8) % 8 > 4 then (y - x + 8) % 8 - 8 else (y - x + 8) % 8
theorem dd_bnd (x y : Int) : -3 ≤ dd x y ∧ dd x y ≤ 4 := by unfold dd; split <;> omega
def stp8 (es : List Int) (j : Nat) : Int := dd (es.getD j 0) (es.getD ((j + 1) % es.length) 0)
def stps (es : List Int) (n : Nat) : List Int := (List.range n).map (stp8 es)
def isum : List Int → Int
  | [] => 0
  | x :: r => x + isum r
theorem isum_app : ∀ (l r : List Int), isum (l ++ r) = isum l + isum r
  | [], r => by simp [isum]
  | x :: l, r => by simp only [List.cons_append, isum, isum_app l r]; omega
theorem stps_succ (es : List Int) (n : Nat) : stps es (n + 1) = stps es n ++ [stp8 es n] := by unfold stps; rw [List.range_succ, List.map_append]; rfl
theorem isum_stps_succ (es : List Int) (n : Nat) : isum (stps es (n + 1)) = isum (stps es n) + stp8 es n := by rw [stps_succ, isum_app]; simp [isum]
theorem isum_stps_bnd (es : List Int) (n : Nat) : -(3 * (n : Int)) ≤ isum (stps es n) ∧ isum (stps es n) ≤ 4 * (n : Int) := by
  induction n with
  | zero => exact (by decide : -(3 * ((0 : Nat) : Int)) ≤ isum [] ∧ isum [] ≤ 4 * ((0 : Nat) : Int))
  | succ n ih =>
    have := dd_bnd (es.getD n 0) (es.getD ((n + 1) % es.length) 0)
    rw [isum_stps_succ]
    unfold stp8
    omega
def tuE (zs : List GZ) : Int := if esE zs = 0 then (if 4 ∈ stps (zs.map ei) zs.length then 3 else 0) else esE zs
def tuF (zs : List GZ) : Int := if tuE zs = 0 then (isum (stps (zs.map ei) zs.length)).tdiv 8 else 0
theorem esE_first : ∀ (zs : List GZ) (i : Nat), (∀ j, j < i → eiE (zs.getD j (0, 0)) = 0) → i < zs.length → eiE (zs.getD i (0, 0)) ≠ 0 → esE zs = eiE (zs.getD i (0, 0))
  | [], i, _, h, _ => by simp at h
  | z :: r, 0, _, _, h => by simp only [List.getD_cons_zero] at h ⊢; rw [esE, if_neg h]
  | z :: r, i + 1, hj, hi, h => by
    have h0 := hj 0 (Nat.succ_pos i)
    simp only [List.getD_cons_zero] at h0
    simp only [List.getD_cons_succ] at h ⊢
    rw [esE, if_pos h0]
    refine esE_first r i (fun j hj' => ?_) (by simpa using hi) h
    have := hj (j + 1) (by omega)
    simpa only [List.getD_cons_succ] using this
theorem esE_all : ∀ (zs : List GZ), (∀ j, j < zs.length → eiE (zs.getD j (0, 0)) = 0) → esE zs = 0
  | [], _ => rfl
  | z :: r, h => by
    have h0 := h 0 (by simp)
    simp only [List.getD_cons_zero] at h0
    rw [esE, if_pos h0]
    refine esE_all r fun j hj => ?_
    have := h (j + 1) (by simpa using hj)
    simpa only [List.getD_cons_succ] using this
def sqp (r k : Nat) : GZ :=
  if k < 2 * r then ((k : Int) - r, -r)
  else if k < 4 * r then (r, (k : Int) - 3 * r)
  else if k < 6 * r then (5 * r - (k : Int), r)
  else (-r, 7 * r - (k : Int))
def sqs (mid : GZ) (r : Nat) (n : Nat) : List GZ := (List.range n).map fun k => gadd mid (sqp r k)
theorem sqs_succ (mid : GZ) (r n : Nat) : sqs mid r (n + 1) = sqs mid r n ++ [gadd mid (sqp r n)] := by unfold sqs; rw [List.range_succ, List.map_append]; rfl
theorem sqs_len (mid : GZ) (r n : Nat) : (sqs mid r n).length = n := by simp [sqs]
theorem gpow_i (s : Nat) (h : s < 4) : gpow (0, 1) s = if s = 0 then (1, 0) else if s = 1 then (0, 1) else if s = 2 then (-1, 0) else (0, -1) := by
  have : s = 0 ∨ s = 1 ∨ s = 2 ∨ s = 3 := by omega
  rcases this with rfl | rfl | rfl | rfl <;> rfl
theorem sqp_step {r s t : Nat} (hs : s < 4) (ht : t < 2 * r) : (sqp r (2 * r * s + t + 1)).1 = (sqp r (2 * r * s + t)).1 + (gpow (0, 1) s).1 ∧ (sqp r (2 * r * s + t + 1)).2 = (sqp r (2 * r * s + t)).2 + (gpow (0, 1) s).2 := by
  rw [gpow_i s hs]
  have : s = 0 ∨ s = 1 ∨ s = 2 ∨ s = 3 := by omega
  rcases this with rfl | rfl | rfl | rfl
  all_goals
    unfold sqp
    constructor
    all_goals
      simp only [Nat.reduceEqDiff, if_true, if_false, reduceIte]
      (repeat' split) <;> first | (simp only []; omega) | omega
theorem sqp_bnd {r k : Nat} (h : k ≤ 8 * r) : (sqp r k).1.natAbs ≤ r ∧ (sqp r k).2.natAbs ≤ r := by unfold sqp; (repeat' split) <;> (simp only []; omega)
def sqE (mid : GZ) (r : Int) : Int := if r < 1 ∨ 4096 < r then 3 else if (gsz mid : Int) + 2 * r < SM then 0 else 13
def sqF (mid : GZ) (r : Int) : List GZ := if sqE mid r = 0 then sqs mid r.toNat (8 * r.toNat) else []
def arE (l : List Int) (mid : GZ) (r : Int) : Int :=
  if sqE mid r = 0 then (if vsE l (sqF mid r) = 0 then tuE (vsF l (sqF mid r)) else vsE l (sqF mid r)) else sqE mid r
def arF (l : List Int) (mid : GZ) (r : Int) : Int := if arE l mid r = 0 then tuF (vsF l (sqF mid r)) else 0
end Go.Proofs.Yteaiegppmbcibaa
