/-
  Plain laws of paths: backwards, turned, mirrored, begun elsewhere.
-/
import Derived.Test.YtfkldohgiifgbaaGM
namespace Go.Proofs.Ytfkldohgiifgbaa
set_option linter.unusedSimpArgs false
set_option linter.unusedVariables false
set_option maxHeartbeats 10000000
theorem dd_mod' (x y : Int) : dd x y % 8 = (y - x) % 8 := by unfold dd; split <;> omega
/-- a step taken backwards -/
def sN (d : Int) : Int := if d = 4 then 4 else -d
theorem dd_back (x y : Int) : dd y x = sN (dd x y) := by
  have h1 := dd_mod' x y
  have h2 := dd_mod' y x
  have b1 := dd_bnd x y
  have b2 := dd_bnd y x
  unfold sN
  split <;> omega
theorem dd_same {x y x' y' : Int} (h : (y' - x') % 8 = (y - x) % 8) : dd x' y' = dd x y := by unfold dd; split <;> split <;> omega
theorem sN4 {d : Int} (h : -3 ≤ d ∧ d ≤ 4) : sN d = 4 ↔ d = 4 := by unfold sN; split <;> omega
theorem isum_rev : ∀ (l : List Int), isum l.reverse = isum l
  | [] => rfl
  | x :: l => by rw [List.reverse_cons, isum_app, isum_rev l]; simp only [isum]; omega
theorem isum_sN : ∀ (l : List Int), (∀ x, x ∈ l → x ≠ 4) → isum (l.map sN) = -isum l
  | [], _ => rfl
  | x :: l, h => by
    simp only [List.map_cons, isum]
    rw [isum_sN l fun y hy => h y (List.mem_cons_of_mem _ hy), show sN x = -x from if_neg (h x List.mem_cons_self)]; omega
theorem stps_len (es : List Int) (n : Nat) : (stps es n).length = n := by simp [stps]
theorem stps_get (es : List Int) (n j : Nat) (h : j < (stps es n).length) : (stps es n)[j] = stp8 es j := by simp [stps]
theorem stps_bnd {es : List Int} {n : Nat} {x : Int} (h : x ∈ stps es n) : -3 ≤ x ∧ x ≤ 4 := by
  obtain ⟨j, _, rfl⟩ := List.mem_map.1 h
  exact dd_bnd _ _
theorem esE_iff : ∀ (zs : List GZ), esE zs = 0 ↔ ∀ z, z ∈ zs → eiE z = 0
  | [] => ⟨fun _ z hz => (by cases hz), fun _ => rfl⟩
  | z :: r => by
    rw [esE]
    split
    · rename_i h
      rw [esE_iff r]
      exact ⟨fun k w hw => (List.mem_cons.1 hw).elim (fun e => e ▸ h) (k w), fun k w hw => k w (List.mem_cons_of_mem _ hw)⟩
    · rename_i h
      exact ⟨fun k => absurd k h, fun k => k z List.mem_cons_self⟩
theorem tuE_iff (zs : List GZ) : tuE zs = 0 ↔ (∀ z, z ∈ zs → eiE z = 0) ∧ ¬ 4 ∈ stps (zs.map ei) zs.length := by
  unfold tuE
  constructor
  · intro h
    split at h
    · rename_i h1
      refine ⟨(esE_iff zs).1 h1, fun h4 => ?_⟩
      rw [if_pos h4] at h; cases h
    · rename_i h1; exact absurd h h1
  · rintro ⟨h1, h2⟩
    rw [if_pos ((esE_iff zs).2 h1), if_neg h2]
theorem tuF_of {zs : List GZ} (h : tuE zs = 0) : tuF zs = (isum (stps (zs.map ei) zs.length)).tdiv 8 := if_pos h
theorem tuF_bad {zs : List GZ} (h : tuE zs ≠ 0) : tuF zs = 0 := if_neg h
/-- a map of the points under which the steps stay -/
theorem tu_same {f : GZ → GZ} (zs : List GZ) (hE : ∀ z, eiE (f z) = eiE z) (hd : ∀ x y, eiE x = 0 → eiE y = 0 → dd (ei (f x)) (ei (f y)) = dd (ei x) (ei y)) :
    (tuE (zs.map f) = 0 ↔ tuE zs = 0) ∧ (tuE zs = 0 → tuF (zs.map f) = tuF zs) := by
  have hall : (∀ z, z ∈ zs.map f → eiE z = 0) ↔ ∀ z, z ∈ zs → eiE z = 0 := by
    constructor
    · intro h z hz; rw [← hE]; exact h _ (List.mem_map_of_mem hz)
    · intro h z hz
      obtain ⟨w, hw, rfl⟩ := List.mem_map.1 hz
      rw [hE]; exact h w hw
  have hst : (∀ z, z ∈ zs → eiE z = 0) → stps ((zs.map f).map ei) zs.length = stps (zs.map ei) zs.length := fun h => by
    unfold stps
    refine List.map_congr_left fun j hj => ?_
    have hj := List.mem_range.1 hj
    unfold stp8
    have hm : (j + 1) % zs.length < zs.length := Nat.mod_lt _ (by omega)
    simp only [List.length_map, List.getD_eq_getElem?_getD, List.getElem?_map, List.getElem?_eq_getElem hj, List.getElem?_eq_getElem hm, Option.map_some, Option.getD_some]
    exact hd _ _ (h _ (List.getElem_mem hj)) (h _ (List.getElem_mem hm))
  refine ⟨?_, fun h => ?_⟩
  · rw [tuE_iff, tuE_iff, hall, List.length_map]
    exact ⟨fun ⟨h1, h2⟩ => ⟨h1, by rw [← hst h1]; exact h2⟩, fun ⟨h1, h2⟩ => ⟨h1, by rw [hst h1]; exact h2⟩⟩
  · have h1 := ((tuE_iff zs).1 h).1
    have h' : tuE (zs.map f) = 0 := by
      rw [tuE_iff, hall, List.length_map, hst h1]; exact (tuE_iff zs).1 h
    rw [tuF_of h, tuF_of h', List.length_map, hst h1]
/-- a map under which the steps turn -/
theorem tu_turn {f : GZ → GZ} (zs : List GZ) (hE : ∀ z, eiE (f z) = eiE z) (hd : ∀ x y, eiE x = 0 → eiE y = 0 → dd (ei (f x)) (ei (f y)) = sN (dd (ei x) (ei y))) :
    (tuE (zs.map f) = 0 ↔ tuE zs = 0) ∧ (tuE zs = 0 → tuF (zs.map f) = -tuF zs) := by
  have hall : (∀ z, z ∈ zs.map f → eiE z = 0) ↔ ∀ z, z ∈ zs → eiE z = 0 := by
    constructor
    · intro h z hz; rw [← hE]; exact h _ (List.mem_map_of_mem hz)
    · intro h z hz
      obtain ⟨w, hw, rfl⟩ := List.mem_map.1 hz
      rw [hE]; exact h w hw
  have hst : (∀ z, z ∈ zs → eiE z = 0) → stps ((zs.map f).map ei) zs.length = (stps (zs.map ei) zs.length).map sN := fun h => by
    rw [show (stps (zs.map ei) zs.length).map sN = (List.range zs.length).map (fun j => sN (stp8 (zs.map ei) j)) from by unfold stps; rw [List.map_map]; rfl]
    unfold stps
    refine List.map_congr_left fun j hj => ?_
    have hj := List.mem_range.1 hj
    unfold stp8
    have hm : (j + 1) % zs.length < zs.length := Nat.mod_lt _ (by omega)
    simp only [List.length_map, List.getD_eq_getElem?_getD, List.getElem?_map, List.getElem?_eq_getElem hj, List.getElem?_eq_getElem hm, Option.map_some, Option.getD_some]
    exact hd _ _ (h _ (List.getElem_mem hj)) (h _ (List.getElem_mem hm))
  have h4 : 4 ∈ (stps (zs.map ei) zs.length).map sN ↔ 4 ∈ stps (zs.map ei) zs.length := by
    rw [List.mem_map]
    exact ⟨fun ⟨d, h1, h2⟩ => by rwa [(sN4 (stps_bnd h1)).1 h2] at h1, fun h => ⟨4, h, rfl⟩⟩
  refine ⟨?_, fun h => ?_⟩
  · rw [tuE_iff, tuE_iff, hall, List.length_map]
    exact ⟨fun ⟨h1, h2⟩ => ⟨h1, by rw [hst h1, h4] at h2; exact h2⟩, fun ⟨h1, h2⟩ => ⟨h1, by rw [hst h1, h4]; exact h2⟩⟩
  · obtain ⟨h1, h2⟩ := (tuE_iff zs).1 h
    have h' : tuE (zs.map f) = 0 := by
      rw [tuE_iff, hall, List.length_map, hst h1, h4]; exact ⟨h1, h2⟩
    rw [tuF_of h, tuF_of h', List.length_map, hst h1, isum_sN _ fun x hx h0 => h2 (h0 ▸ hx), Int.neg_tdiv]
theorem gz0 (z : GZ) : (z = (0, 0)) ↔ z.1 = 0 ∧ z.2 = 0 := by rw [Prod.ext_iff]
def grot (z : GZ) : GZ := (-z.2, z.1)
def gmir (z : GZ) : GZ := (z.1, -z.2)
theorem eiE_rot (z : GZ) : eiE (grot z) = eiE z := by
  unfold eiE
  have h1 : gsz (grot z) = gsz z := by unfold gsz grot; simp only []; omega
  have h2 : (grot z = (0, 0)) = (z = (0, 0)) := propext (by rw [gz0, gz0]; unfold grot; simp only []; omega)
  rw [h1]; simp only [h2]
theorem eiE_mir (z : GZ) : eiE (gmir z) = eiE z := by
  unfold eiE
  have h1 : gsz (gmir z) = gsz z := by unfold gsz gmir; simp only []; omega
  have h2 : (gmir z = (0, 0)) = (z = (0, 0)) := propext (by rw [gz0, gz0]; unfold gmir; simp only []; omega)
  rw [h1]; simp only [h2]
theorem eiE_nz {z : GZ} (h : eiE z = 0) : z.1 ≠ 0 ∨ z.2 ≠ 0 := by
  unfold eiE at h
  split at h
  · split at h
    · cases h
    · rename_i h2; rw [gz0] at h2; omega
  · cases h
theorem ei_rot {z : GZ} (h : eiE z = 0) : ei (grot z) % 8 = (ei z + 2) % 8 := by
  have := eiE_nz h
  unfold ei grot
  simp only []
  (repeat' split) <;> first | rfl | (exfalso; omega)
theorem ei_mir {z : GZ} (h : eiE z = 0) : ei (gmir z) % 8 = (8 - ei z) % 8 := by
  have := eiE_nz h
  unfold ei gmir
  simp only []
  (repeat' split) <;> first | rfl | (exfalso; omega)
theorem tu_rot (zs : List GZ) : (tuE (zs.map grot) = 0 ↔ tuE zs = 0) ∧ (tuE zs = 0 → tuF (zs.map grot) = tuF zs) :=
  tu_same zs eiE_rot fun x y hx hy => dd_same (by have h1 := ei_rot hx; have h2 := ei_rot hy; omega)
theorem tu_mir (zs : List GZ) : (tuE (zs.map gmir) = 0 ↔ tuE zs = 0) ∧ (tuE zs = 0 → tuF (zs.map gmir) = -tuF zs) :=
  tu_turn zs eiE_mir fun x y hx hy => by
    rw [← dd_back]
    exact dd_same (by have h1 := ei_mir hx; have h2 := ei_mir hy; omega)
/-! ### backwards -/
theorem stps_back (es : List Int) (n : Nat) (hn : es.length = n + 1) : stps es.reverse (n + 1) = ((stps es n).reverse ++ [stp8 es n]).map sN := by
  refine List.ext_getElem (by simp [stps_len]) fun j h1 h2 => ?_
  rw [stps_len] at h1
  rw [stps_get, List.getElem_map]
  have rg : ∀ i, i < n + 1 → es.reverse.getD i 0 = es.getD (n - i) 0 := fun i hi => by
    rw [List.getD_eq_getElem?_getD, List.getD_eq_getElem?_getD, List.getElem?_reverse (by omega), hn]
    congr 2 <;> omega
  show dd (es.reverse.getD j 0) (es.reverse.getD ((j + 1) % es.reverse.length) 0) = _
  rw [show es.reverse.length = n + 1 from by rw [List.length_reverse, hn]]
  rcases Nat.lt_or_ge j n with hj | hj
  · rw [Nat.mod_eq_of_lt (by omega : j + 1 < n + 1), rg j (by omega), rg (j + 1) (by omega)]
    rw [List.getElem_append_left (by simp [stps_len]; exact hj), List.getElem_reverse, stps_get]
    simp only [stps_len]
    unfold stp8
    rw [show es.length = n + 1 from hn, Nat.mod_eq_of_lt (by omega : n - 1 - j + 1 < n + 1), show n - (j + 1) = n - 1 - j from by omega, show n - 1 - j + 1 = n - j from by omega]
    exact dd_back _ _
  · obtain rfl : j = n := by omega
    rw [Nat.mod_self, rg j (by omega), rg 0 (by omega), Nat.sub_self, Nat.sub_zero]
    rw [List.getElem_append_right (by simp [stps_len])]
    simp only [List.length_reverse, stps_len, Nat.sub_self, List.getElem_cons_zero]
    unfold stp8
    rw [hn, Nat.mod_self]
    exact dd_back _ _
theorem tu_back (zs : List GZ) : (tuE zs.reverse = 0 ↔ tuE zs = 0) ∧ (tuE zs = 0 → tuF zs.reverse = -tuF zs) := by
  rcases Nat.eq_zero_or_pos zs.length with h0 | h0
  · have : zs = [] := List.eq_nil_of_length_eq_zero h0
    subst this
    exact ⟨Iff.rfl, fun _ => rfl⟩
  · obtain ⟨n, hn⟩ : ∃ n, zs.length = n + 1 := ⟨zs.length - 1, by omega⟩
    have hb := stps_back (zs.map ei) n (by rw [List.length_map, hn])
    have hs := stps_succ (zs.map ei) n
    have h4 : 4 ∈ stps (zs.map ei).reverse (n + 1) ↔ 4 ∈ stps (zs.map ei) (n + 1) := by
      rw [hb, List.mem_map]
      constructor
      · rintro ⟨d, h1, h2⟩
        have h3 : d ∈ stps (zs.map ei) (n + 1) := by rw [hs]; simpa using h1
        rwa [(sN4 (stps_bnd h3)).1 h2] at h3
      · intro h
        rw [hs] at h
        exact ⟨4, by simpa using h, rfl⟩
    have hm : (zs.reverse.map ei) = (zs.map ei).reverse := List.map_reverse
    refine ⟨?_, fun h => ?_⟩
    · rw [tuE_iff, tuE_iff, List.length_reverse, hm, hn, h4]
      simp only [List.mem_reverse]
    · have h' : tuE zs.reverse = 0 := by
        rw [tuE_iff, List.length_reverse, hm, hn, h4]
        simp only [List.mem_reverse]
        have := (tuE_iff zs).1 h
        rwa [hn] at this
      have h2 := ((tuE_iff zs).1 h).2
      rw [hn] at h2
      rw [tuF_of h, tuF_of h', List.length_reverse, hm, hn, hb, isum_sN, isum_app, isum_rev, isum_stps_succ, Int.neg_tdiv]
      · simp [isum]
      · intro x hx h0
        apply h2; rw [hs, ← h0]; simpa using hx
/-! ### begun elsewhere -/
theorem rot_get {α : Type} (l : List α) (k j : Nat) (d : α) (hk : k ≤ l.length) (hj : j < l.length) : (l.drop k ++ l.take k).getD j d = l.getD ((j + k) % l.length) d := by
  rw [List.getD_eq_getElem?_getD, List.getD_eq_getElem?_getD]
  rcases Nat.lt_or_ge j (l.length - k) with h | h
  · rw [List.getElem?_append_left (by rw [List.length_drop]; exact h), List.getElem?_drop, Nat.mod_eq_of_lt (by omega), Nat.add_comm]
  · rw [List.getElem?_append_right (by rw [List.length_drop]; exact h), List.length_drop, List.getElem?_take, if_pos (by omega)]
    have : (j + k) % l.length = j - (l.length - k) := by
      rw [show j + k = (j - (l.length - k)) + l.length from by omega, Nat.add_mod_right, Nat.mod_eq_of_lt (by omega)]
    rw [this]
theorem stps_rot (es : List Int) (k : Nat) (hk : k ≤ es.length) : stps (es.drop k ++ es.take k) es.length = (stps es es.length).drop k ++ (stps es es.length).take k := by
  have hl : (es.drop k ++ es.take k).length = es.length := by rw [List.length_append, List.length_drop, List.length_take]; omega
  refine List.ext_getElem (by simp [stps_len]; omega) fun j h1 h2 => ?_
  rw [stps_len] at h1
  rw [stps_get]
  have hr := rot_get (stps es es.length) k j 0 (by rw [stps_len]; exact hk) (by rw [stps_len]; exact h1)
  rw [List.getD_eq_getElem?_getD, List.getElem?_eq_getElem h2, Option.getD_some] at hr
  rw [hr, stps_len]
  have hm : (j + k) % es.length < es.length := Nat.mod_lt _ (by omega)
  rw [List.getD_eq_getElem?_getD, List.getElem?_eq_getElem (by rw [stps_len]; exact hm), Option.getD_some, stps_get]
  unfold stp8
  rw [hl, rot_get es k j 0 hk h1, rot_get es k ((j + 1) % es.length) 0 hk (Nat.mod_lt _ (by omega))]
  rw [Nat.mod_add_mod, Nat.mod_add_mod, Nat.add_right_comm]
theorem mem_rot {α : Type} (l : List α) (k : Nat) (x : α) : x ∈ l.drop k ++ l.take k ↔ x ∈ l := by
  rw [List.mem_append, Or.comm, ← List.mem_append, List.take_append_drop]
theorem tu_rotl (zs : List GZ) (k : Nat) (hk : k ≤ zs.length) (h : tuE zs = 0) : tuE (zs.drop k ++ zs.take k) = 0 ∧ tuF (zs.drop k ++ zs.take k) = tuF zs := by
  have hl : (zs.drop k ++ zs.take k).length = zs.length := by rw [List.length_append, List.length_drop, List.length_take]; omega
  have hs := stps_rot (zs.map ei) k (by rw [List.length_map]; exact hk)
  rw [List.length_map, ← List.map_drop, ← List.map_take, ← List.map_append] at hs
  obtain ⟨h1, h2⟩ := (tuE_iff zs).1 h
  have h' : tuE (zs.drop k ++ zs.take k) = 0 := by
    rw [tuE_iff, hl, hs, mem_rot]
    exact ⟨fun z hz => h1 z ((mem_rot zs k z).1 hz), h2⟩
  refine ⟨h', ?_⟩
  rw [tuF_of h, tuF_of h', hl, hs, isum_app, Int.add_comm, ← isum_app, List.take_append_drop]
theorem tuF_bnd (zs : List GZ) : -(zs.length : Int) ≤ tuF zs ∧ tuF zs ≤ zs.length := by
  unfold tuF
  split
  · have h := isum_stps_bnd (zs.map ei) zs.length
    generalize isum (stps (zs.map ei) zs.length) = s at *
    have h1 := Int.natAbs_tdiv s 8
    have h2 : (s.tdiv 8).natAbs = s.natAbs / 8 := h1
    omega
  · omega
end Go.Proofs.Ytfkldohgiifgbaa
