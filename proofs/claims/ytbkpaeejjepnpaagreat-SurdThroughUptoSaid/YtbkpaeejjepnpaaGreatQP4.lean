/-
  qpoly: multiples without denominators, products.
-/
import Derived.Test.YtbkpaeejjepnpaaGreatQP3
namespace Go.Proofs.YtbkpaeejjepnpaaGreat
open Go Go.RowKit Ab
set_option linter.unusedSimpArgs false
set_option linter.unusedVariables false
set_option maxHeartbeats 10000000
theorem bz_QP4 : type_of% (And.intro @W_len (And.intro @D_len (And.intro @Nat.div_one (And.intro @Nat.mul_one (And.intro @tn_nat (And.intro @W_nf (And.intro @D_nf (And.intro @W_nil (And.intro @D_nil (And.intro @wi (And.intro @nf_g (And.intro @Bool.false_and (And.intro @W_cell (And.intro @RC_nf (And.intro @ZC_cell (@ZC_nil)))))))))))))))) := And.intro @W_len (And.intro @D_len (And.intro @Nat.div_one (And.intro @Nat.mul_one (And.intro @tn_nat (And.intro @W_nf (And.intro @D_nf (And.intro @W_nil (And.intro @D_nil (And.intro @wi (And.intro @nf_g (And.intro @Bool.false_and (And.intro @W_cell (And.intro @RC_nf (And.intro @ZC_cell (@ZC_nil)))))))))))))))
def a81 : AC := .seq (.reg [qr 2 (.mv (.k (.b false)))])
 (.seq (.reg [qm 3 0,
 qr 4 (.call 70 [(1, (.t 3))]),
 qr 5 (.bin .eql (.t 4) (.k (.i .i64 0))),
 qm 2 5])
 (.ret))
theorem gzero_spec (a : List Nat) (ha : Wd a) (la : a.length ≤ 1000000000) : AFun Tryz.prog J0 81 [.l 1 (W a)] (.b (decide (nv B a = 0))) := by
  have h := natBits_spec a ha (by omega)
  have e := bl_z (n := nv B a)
  rw [show decide (nv B a = 0) = decide (((bl (nv B a) : Nat) : Int) = 0) from by rw [decide_eq_decide, e]]
  generalize ((bl (nv B a) : Nat) : Int) = x at *
  refine mkQ fol J0s Tryz.func81 a81 ?_
  unfold a81
  simp only [init_eq, initE, qm, qr, qn]
  exact wdQ @bz_QP4
def a82 : AC := .seq (.reg [qr 4 (.mv (.k .nl))])
 (.seq (.reg [qm 9 0,
 qm 10 1,
 qr 11 (.call 84 [(1, (.t 9)), (1, (.t 10))]),
 qm 8 11,
 qr 12 (.ext (.t 8) 0),
 qr 13 (.ext (.t 8) 1),
 qr 14 (.ext (.t 8) 2),
 qm 5 12,
 qm 6 13,
 qm 7 14])
 (.seq (.reg [qm 15 5,
 qm 4 15])
 (.ret)))
theorem gquo_spec (a b : List Nat) (ha : Wd a) (hb : Wd b) (la : a.length ≤ 1000000000) (lb : b.length ≤ 1000000000) : AFun Tryz.prog J0 82 [.l 1 (W a), .l 1 (W b)] (.l 1 (W (dg B (nv B a / nv B b)))) := by
  have h := quo_spec a b ha hb la lb
  unfold qQ at h
  refine mkQ fol J0s Tryz.func82 a82 ?_
  unfold a82
  simp only [init_eq, initE, qm, qr, qn]
  exact wdQ @bz_QP4
theorem lcm_qm (u v : Nat) : u / Nat.gcd u v * v = Nat.lcm u v := by
  unfold Nat.lcm
  rw [Nat.div_mul_right_comm (Nat.gcd_dvd_left u v)]
def a62 : AC := .seq (.reg [qr 4 (.mv (.k .nl))])
 (.seq (.seq (.reg [qm 5 0,
 qr 6 (.call 81 [(1, (.t 5))]),
 qm 7 6,
 ⟨some 8, some (7, false), .mv (.t 1)⟩,
 ⟨some 9, some (7, false), .call 81 [(1, (.t 8))]⟩,
 qr 10 (.pick (.t 7) (.k (.b true)) (.t 9))])
 (.cond (.t 10)
 (.seq (.reg [qr 4 (.mv (.k .nl))])
 (.ret))
 (.skip)))
 (.seq (.reg [qm 11 0,
 qm 12 0,
 qm 13 1,
 qr 14 (.call 83 [(1, (.t 12)), (1, (.t 13))]),
 qr 15 (.call 82 [(1, (.t 11)), (1, (.t 14))]),
 qm 16 1,
 qr 17 (.call 66 [(1, (.t 15)), (1, (.t 16))]),
 qm 4 17])
 (.ret)))
theorem lcm_spec (u v m : Nat) (hm : m ≤ 100000000) (hu : u < B ^ m) (hv : v < B ^ m) (u0 : u ≠ 0) (v0 : v ≠ 0) : AFun Tryz.prog J0 62 [.l 1 (W (dg B u)), .l 1 (W (dg B v))] (.l 1 (W (dg B (Nat.lcm u v)))) := by
  have lu := dlen hu
  have lv := dlen hv
  have h1 := gzero_spec (dg B u) (Wd_dg _) (by omega)
  have h2 := gzero_spec (dg B v) (Wd_dg _) (by omega)
  have h3 := gcd_spec (dg B u) (dg B v) m (by omega) (Wd_dg _) (Wd_dg _) lu lv
  rw [nv_dgB, decide_eq_false u0] at h1
  rw [nv_dgB, decide_eq_false v0] at h2
  rw [nv_dgB, nv_dgB] at h3
  have hg : Nat.gcd u v < B ^ m := Nat.lt_of_le_of_lt (Nat.gcd_le_left _ (by omega)) hu
  have h4 := gquo_spec (dg B u) (dg B (Nat.gcd u v)) (Wd_dg _) (Wd_dg _) (by omega) (by have := dlen hg; omega)
  rw [nv_dgB, nv_dgB] at h4
  have hq : u / Nat.gcd u v < B ^ m := Nat.lt_of_le_of_lt (Nat.div_le_self _ _) hu
  have h5 := mul_spec (dg B (u / Nat.gcd u v)) (dg B v) (Wd_dg _) (Wd_dg _) (by have := dlen hq; omega) (by omega)
  rw [nv_dgB, nv_dgB, lcm_qm] at h5
  generalize u / Nat.gcd u v = q at *
  generalize Nat.gcd u v = g at *
  generalize Nat.lcm u v = r at *
  refine mkQ fol J0s Tryz.func62 a62 ?_
  unfold a62
  simp only [init_eq, initE, qm, qr, qn]
  exact wdQ @bz_QP4
def NW (l : List Nat) : List V := l.map fun d => .l 1 (W (dg B d))
theorem NW_len (l : List Nat) : (NW l).length = l.length := by simp [NW]
theorem NW_get (l : List Nat) (i : Nat) (h : i < l.length) : (NW l).getD i .un = .l 1 (W (dg B (l.getD i 0))) := by
  simp [NW, List.getD_eq_getElem?_getD, h]
theorem NW_nf (l : List Nat) : (NW l).all V.cell = true := by
  unfold NW
  rw [List.all_map]
  exact List.all_eq_true.2 fun x _ => rfl
def AL (l : List Nat) : Nat := l.foldl Nat.lcm 1
theorem AL_succ {l : List Nat} {i : Nat} (h : i < l.length) : AL (l.take (i + 1)) = Nat.lcm (AL (l.take i)) (l.getD i 0) := by
  unfold AL
  rw [List.take_succ_eq_append_getElem h, List.foldl_append, List.getD_eq_getElem?_getD, List.getElem?_eq_getElem h]; rfl
theorem AL_dvd {E : Nat} : ∀ {l : List Nat} {a : Nat}, a ∣ E → (∀ d, d ∈ l → d ∣ E) → l.foldl Nat.lcm a ∣ E
  | [], a, h, _ => h
  | d :: r, a, h, k => AL_dvd (l := r) (Nat.lcm_dvd h (k d List.mem_cons_self)) fun q hq => k q (List.mem_cons_of_mem _ hq)
theorem AL_of : ∀ {l : List Nat} {a : Nat}, a ∣ l.foldl Nat.lcm a ∧ ∀ d, d ∈ l → d ∣ l.foldl Nat.lcm a
  | [], a => ⟨Nat.dvd_refl _, fun _ h => by cases h⟩
  | d :: r, a => by
    obtain ⟨h1, h2⟩ := AL_of (l := r) (a := Nat.lcm a d)
    refine ⟨Nat.dvd_trans (Nat.dvd_lcm_left a d) h1, fun q hq => ?_⟩
    rcases List.mem_cons.1 hq with rfl | hq
    · exact Nat.dvd_trans (Nat.dvd_lcm_right a q) h1
    · exact h2 q hq
def a31 : AC := .seq (.reg [qr 2 (.mv (.k .nl))])
 (.seq (.reg [qr 6 (.call 46 [(1, (.k (.i .u64 1)))]),
 qm 3 6])
 (.seq (.seq (.reg [qm 7 0,
 qr 8 (.len (.t 7)),
 qr 9 (.mv (.k (.i .i64 0)))])
 (.blk 0
 (.loop
 (.seq (.reg [qr 10 (.bin .lss (.t 9) (.t 8))])
 (.seq (.cond (.t 10)
 (.skip)
 (.exit 0))
 (.seq (.blk 1
 (.seq (.reg [qr 11 (.idx 1 (.t 7) (.t 9)),
 qr 12 (.ld false 1 (.t 11)),
 qm 5 12])
 (.reg [qm 13 3,
 qm 14 5,
 qr 15 (.call 62 [(1, (.t 13)), (1, (.t 14))]),
 qm 3 15])))
 (.reg [qr 16 (.bin .add (.t 9) (.k (.i .i64 1))),
 qm 9 16])))))))
 (.seq (.reg [qm 17 3,
 qm 2 17])
 (.ret))))
theorem alcm_spec (l : List Nat) (E m : Nat) (hm : m ≤ 100000000) (ll : l.length ≤ 1000000) (hE : E ≠ 0) (hEm : E < B ^ m) (hd : ∀ d, d ∈ l → d ∣ E) : AFun Tryz.prog J0 31 [.l 1 (NW l)] (.l 1 (W (dg B (AL l)))) := by
  have hl := NW_len l
  have h1 := (natOf_spec 1 (by decide)).frozen
  have ha : ∀ i, AL (l.take i) ∣ E := fun i => AL_dvd (Nat.one_dvd _) fun d h => hd d (List.mem_of_mem_take h)
  refine mkQ fol J0s Tryz.func31 a31 ?_
  unfold a31
  simp only [init_eq, initE, qm, qr, qn]
  refine wkQ (ai @hl @bz_QP4) ?_
  refine vm_loopA [] Nat (fun i => ⟨[(3, .l 1 (W (dg B (AL (l.take i))))), (7, .l 1 (NW l)), (8, .i .i64 (l.length : Int)), (9, .i .i64 (i : Int))], [], 0⟩)
    (fun i => i ≤ l.length) (fun i => l.length - i) 0 (Nat.zero_le _) (by exact leQ) (by
    exact ltQ) ?_
  intro i hi Q' hQ he hr
  by_cases h : (i : Int) < (l.length : Int)
  · have hg := NW_get l i (by omega)
    have hmem : l.getD i 0 ∈ l := by rw [List.getD_eq_getElem?_getD, List.getElem?_eq_getElem (by omega)]; exact List.getElem_mem _
    have hdi := hd _ hmem
    have hai := ha i
    have hc := lcm_spec (AL (l.take i)) (l.getD i 0) m hm (Nat.lt_of_le_of_lt (Nat.le_of_dvd (by omega) hai) hEm) (Nat.lt_of_le_of_lt (Nat.le_of_dvd (by omega) hdi) hEm) (fun e => by rw [e, Nat.zero_dvd] at hai; exact hE hai) (fun e => by rw [e, Nat.zero_dvd] at hdi; exact hE hdi)
    rw [← AL_succ (by omega)] at hc
    generalize l.getD i 0 = d at *
    refine wkQ (ai @hg (ai @hl (ai @h @bz_QP4))) ?_
    refine hQ _ (i + 1) (by omega) (by omega) ?_
    exact ltQ
  · obtain rfl : i = l.length := by omega
    refine spQ (ai @h @bz_QP4) ?_
    refine he _ _ ?_
    rw [List.take_length]
    refine spQ @bz_QP4 ?_
    exact rtQ @bz_QP4
def clD (A : List Rat) : Nat := AL (A.map fun x => x.den)
def clZ (A : List Rat) : List Int := A.map fun x => x.num * ((clD A / x.den : Nat) : Int)
theorem clD_dvd {A : List Rat} {E M : Nat} (h : PB A E M) : clD A ∣ E := AL_dvd (Nat.one_dvd _) fun d hd => by
  obtain ⟨x, hx, rfl⟩ := List.mem_map.1 hd
  obtain ⟨i, hi, rfl⟩ := List.getElem_of_mem hx
  have := (Fq_sz h.1 (h.2 i)).2.2
  rw [List.getD_eq_getElem?_getD, List.getElem?_eq_getElem hi] at this
  exact this
theorem clD_of {A : List Rat} {i : Nat} (hi : i < A.length) : (A.getD i 0).den ∣ clD A := by
  refine AL_of.2 _ (List.mem_map.2 ⟨A[i], List.getElem_mem _, ?_⟩)
  rw [List.getD_eq_getElem?_getD, List.getElem?_eq_getElem hi]; rfl
theorem clZ_len (A : List Rat) : (clZ A).length = A.length := by simp [clZ]
theorem clZ_get (A : List Rat) (i : Nat) (h : i < A.length) : (clZ A).getD i 0 = (A.getD i 0).num * ((clD A / (A.getD i 0).den : Nat) : Int) := by
  simp [clZ, List.getD_eq_getElem?_getD, h]
theorem clD_pos {A : List Rat} {E M : Nat} (h : PB A E M) : clD A ≠ 0 := fun e => by
  have := clD_dvd h
  rw [e, Nat.zero_dvd] at this
  exact h.1 this
theorem clZ_q {A : List Rat} (i : Nat) (h0 : clD A ≠ 0) : (((clZ A).getD i 0 : Int) : Rat) = A.getD i 0 * (clD A : Rat) := by
  by_cases h : i < A.length
  · rw [clZ_get A i h]
    obtain ⟨k, hk⟩ := clD_of h
    have hd := (A.getD i 0).den_nz
    have e : clD A / (A.getD i 0).den = k := by rw [hk]; exact Nat.mul_div_cancel_left _ (Nat.pos_of_ne_zero hd)
    rw [e, hk, Rat.intCast_mul, Rat.natCast_mul, Rat.intCast_natCast]
    have h3 := Rat.mkRat_self (A.getD i 0)
    rw [Rat.mkRat_eq_div] at h3
    have h4 := ratE hd
    grind
  · rw [gD0 (by rw [clZ_len]; omega), gq0 (by omega)]
    simp
theorem clZ_lt {A : List Rat} {E M : Nat} (h : PB A E M) (i : Nat) : ((clZ A).getD i 0).natAbs ≤ M := by
  obtain ⟨k, hk⟩ := clD_dvd h
  have h0 := clD_pos h
  obtain ⟨N, h1, h2⟩ := h.2 i
  have e := clZ_q i h0
  have hE := ratE h.1
  have hD := ratE h0
  have hkz : k ≠ 0 := fun e => h.1 (by rw [hk, e, Nat.mul_zero])
  have hkr := ratE hkz
  have e2 : (((clZ A).getD i 0 * (k : Int) : Int) : Rat) = (N : Rat) := by
    rw [Rat.intCast_mul, e, h1, Rat.intCast_natCast]
    have e3 : (E : Rat) = (clD A : Rat) * (k : Rat) := by rw [← Rat.natCast_mul, ← hk]
    rw [e3] at hE ⊢
    grind
  have e4 : (clZ A).getD i 0 * (k : Int) = N := by exact_mod_cast e2
  rw [← e4, Int.natAbs_mul] at h2
  refine Nat.le_trans ?_ h2
  exact Nat.le_mul_of_pos_right _ (by simpa using Nat.pos_of_ne_zero hkz)
theorem pznatN (u : Nat) {m : Nat} (h : u < B ^ m) (hm : m ≤ 100000000) : AFun Tryz.prog J0 33 [.b false, .l 1 (W (dg B u))] (zN (u : Int)) := by
  have := znat_spec false (dg B u) (Wd_dg _) (by have := dlen h; omega)
  rwa [show zv false (dg B u) = (u : Int) from by unfold zv zI; rw [nv_dgB]; rfl] at this
theorem pexactN (u v m : Nat) (hm : m ≤ 100000000) (hu : u < B ^ m) (hv : v < B ^ m) (h0 : v ≠ 0) (hd : v ∣ u) : AFun Tryz.prog J0 32 [zN (u : Int), zN (v : Int)] (.t [zN ((u / v : Nat) : Int), .i .i64 0]) := by
  have := zexact_spec (decide ((u : Int) < 0)) (decide ((v : Int) < 0)) (dg B ((u : Int)).natAbs) (dg B ((v : Int)).natAbs) (Wd_dg _) (Wd_dg _) (by have := dlen hu; simpa using (by omega : (dg B u).length ≤ 1000000000)) (by have := dlen hv; simpa using (by omega : (dg B v).length ≤ 1000000000))
  rw [zv_N, zv_N] at this
  have e0 : ((u : Int)).tmod (v : Int) = 0 := Int.tmod_eq_zero_of_dvd (by exact_mod_cast hd)
  rw [show zxQ (u : Int) (v : Int) = ((u / v : Nat) : Int) from by unfold zxQ; rw [if_pos e0]; exact (Int.ofNat_tdiv u v).symm, show zxE (u : Int) (v : Int) = 0 from by unfold zxE; rw [if_neg (by omega), if_pos e0]] at this
  exact this
theorem take_mapq (A : List Rat) (i : Nat) (h : i < A.length) : NW ((A.map fun x => x.den).take i) ++ [.l 1 (W (dg B (A.getD i 0).den))] = NW ((A.map fun x => x.den).take (i + 1)) := by
  rw [List.take_succ_eq_append_getElem (by simpa using h)]
  simp [NW, List.getD_eq_getElem?_getD, h]
def a7 : AC := .seq (.reg [qr 2 (.mv (.k .nl)),
 qr 3 (.mv (.k .nl)),
 qr 4 (.mv (.k (.i .i64 0)))])
 (.seq (.reg [qm 17 0,
 qr 18 (.call 14 [(3, (.t 17))]),
 qm 16 18,
 qr 19 (.ext (.t 16) 0),
 qr 20 (.ext (.t 16) 1),
 qm 5 19,
 qm 6 20])
 (.seq (.seq (.reg [qm 21 6,
 qr 22 (.bin .neq (.t 21) (.k (.i .i64 0)))])
 (.cond (.t 22)
 (.seq (.reg [qm 23 6,
 qr 2 (.mv (.k .nl)),
 qr 3 (.mv (.k .nl)),
 qm 4 23])
 (.ret))
 (.skip)))
 (.seq (.reg [qm 24 5,
 qr 25 (.len (.t 24)),
 qr 26 (.mk 25 1 24 [(.l 1 [])] (.k (.i .i64 0)) (.t 25)),
 qm 7 26])
 (.seq (.seq (.reg [qm 27 5,
 qr 28 (.len (.t 27)),
 qr 29 (.mv (.k (.i .i64 0)))])
 (.blk 0
 (.loop
 (.seq (.reg [qr 30 (.bin .lss (.t 29) (.t 28))])
 (.seq (.cond (.t 30)
 (.skip)
 (.exit 0))
 (.seq (.blk 1
 (.seq (.reg [qr 31 (.idx 3 (.t 27) (.t 29)),
 qr 32 (.ld true 3 (.t 31)),
 qr 9 (.al 31 [(.b false), (.l 1 []), (.l 1 [])]),
 qn (.st 3 (.t 9) (.t 32))])
 (.reg [qm 33 7,
 qr 34 (.fad 2 (.t 9)),
 qr 35 (.ld false 1 (.t 34)),
 qr 36 (.bsl 25 1 1 [(.l 1 [])] [(0, (.t 35))]),
 qr 37 (.app 25 1 24 (.t 33) (.t 36)),
 qm 7 37])))
 (.reg [qr 38 (.bin .add (.t 29) (.k (.i .i64 1))),
 qm 29 38])))))))
 (.seq (.reg [qm 39 7,
 qr 40 (.call 31 [(1, (.t 39))]),
 qm 10 40])
 (.seq (.reg [qr 11 (.mv (.k .nl))])
 (.seq (.seq (.reg [qm 41 5,
 qr 42 (.len (.t 41)),
 qr 43 (.mv (.k (.i .i64 0)))])
 (.blk 2
 (.loop
 (.seq (.reg [qr 44 (.bin .lss (.t 43) (.t 42))])
 (.seq (.cond (.t 44)
 (.skip)
 (.exit 2))
 (.seq (.blk 3
 (.seq (.reg [qr 45 (.idx 3 (.t 41) (.t 43)),
 qr 46 (.ld true 3 (.t 45)),
 qr 13 (.al 31 [(.b false), (.l 1 []), (.l 1 [])]),
 qn (.st 3 (.t 13) (.t 46))])
 (.seq (.dreg [qm 48 10,
 qr 49 (.call 33 [(1, (.k (.b false))), (1, (.t 48))]),
 qr 50 (.fad 2 (.t 13)),
 qr 51 (.ld false 1 (.t 50)),
 qr 52 (.call 33 [(1, (.k (.b false))), (1, (.t 51))]),
 qr 53 (.call 32 [(1, (.t 49)), (1, (.t 52))]),
 qm 47 53,
 qr 54 (.ext (.t 47) 0),
 qr 55 (.ext (.t 47) 1),
 qr 14 (.al 27 [(.b false), (.l 1 [])]),
 qn (.st 2 (.t 14) (.t 54)),
 qm 15 55])
 (.seq (.seq (.reg [qm 56 15,
 qr 57 (.bin .neq (.t 56) (.k (.i .i64 0)))])
 (.cond (.t 57)
 (.seq (.reg [qm 58 15,
 qr 2 (.mv (.k .nl)),
 qr 3 (.mv (.k .nl)),
 qm 4 58])
 (.ret))
 (.skip)))
 (.reg [qm 59 11,
 qr 60 (.fad 0 (.t 13)),
 qr 61 (.ld true 2 (.t 60)),
 qr 62 (.ld true 2 (.t 14)),
 qr 63 (.call 34 [(1, (.t 61)), (1, (.t 62))]),
 qr 64 (.bsl 27 2 1 [(.b false), (.l 1 [])] [(0, (.t 63))]),
 qr 65 (.app 27 2 32 (.t 59) (.t 64)),
 qm 11 65])))))
 (.reg [qr 66 (.bin .add (.t 43) (.k (.i .i64 1))),
 qm 43 66])))))))
 (.seq (.reg [qm 67 10,
 qm 68 11,
 qm 2 67,
 qm 3 68,
 qr 4 (.mv (.k (.i .i64 0)))])
 (.ret)))))))))
theorem pclear_spec (l : R3) (A : List Rat) (E M m : Nat) (hm : m ≤ 48000000) (lA : A.length ≤ 100000) (hPB : PB A E M) (hE : E < B ^ m) (hM : M < B ^ m)
    (hno : AFun Tryz.prog J0 14 [.l 3 (RC l)] (.t [.l 3 (RC (nfq A)), .i .i64 0])) :
    AFun Tryz.prog J0 7 [.l 3 (RC l)] (.t [.l 1 (W (dg B (clD A))), .l 2 (ZC (nfl (clZ A))), .i .i64 0]) := by
  have hz := QC_len A
  have hd : A.length * 3 / 3 = A.length := by omega
  have hD0 := clD_pos hPB
  have hDE := Nat.le_of_dvd (Nat.pos_of_ne_zero hPB.1) (clD_dvd hPB)
  have hDm : clD A < B ^ m := Nat.lt_of_le_of_lt hDE hE
  have hcA := PB_Cq hPB hE hM
  have hal := alcm_spec (A.map fun x => x.den) E m (by omega) (by simpa using (by omega : A.length ≤ 1000000)) hPB.1 hE fun d hd => by
    obtain ⟨x, hx, rfl⟩ := List.mem_map.1 hd
    obtain ⟨i, hi, rfl⟩ := List.getElem_of_mem hx
    have := (Fq_sz hPB.1 (hPB.2 i)).2.2
    rw [List.getD_eq_getElem?_getD, List.getElem?_eq_getElem hi] at this
    exact this
  rw [show AL (A.map fun x => x.den) = clD A from rfl] at hal
  have hnat := pznatN (clD A) hDm (by omega)
  have hex : ∀ i, i < A.length → AFun Tryz.prog J0 32 [zN (clD A : Int), zN ((A.getD i 0).den : Int)] (.t [zN ((clD A / (A.getD i 0).den : Nat) : Int), .i .i64 0]) := fun i hi => pexactN _ _ m (by omega) hDm (hcA i).2 (A.getD i 0).den_nz (clD_of hi)
  have hmu : ∀ i, i < A.length → AFun Tryz.prog J0 34 [zN (A.getD i 0).num, zN ((clD A / (A.getD i 0).den : Nat) : Int)] (zN ((clZ A).getD i 0)) := fun i hi => by
    rw [clZ_get A i hi]
    exact zmulN (hcA i).1 (Nat.lt_of_le_of_lt (Nat.div_le_self _ _) hDm) (by omega)
  have hn2 : ∀ i, AFun Tryz.prog J0 33 [.b false, .l 1 (W (dg B (A.getD i 0).den))] (zN ((A.getD i 0).den : Int)) := fun i => pznatN _ (hcA i).2 (by omega)
  have hZl := clZ_len A
  have htm := fun i (hi : i < A.length) => take_mapq A i hi
  have hnl : ∀ i, i ≤ A.length → (NW ((A.map fun x => x.den).take i)).length = i := fun i hi => by rw [NW_len, List.length_take, List.length_map]; omega
  have hall : (A.map fun x => x.den).take A.length = A.map fun x => x.den := by rw [List.take_of_length_le (by simp)]
  have hnf := NW_nf
  generalize (A.map fun x => x.den) = dl at *
  generalize clZ A = Z at *
  generalize clD A = D at *
  refine mkQ fol J0s Tryz.func7 a7 ?_
  unfold a7
  simp only [init_eq, initE, qm, qr, qn]
  have zc1 := hno
  refine wkQ (ai @hd (ai @hz @bz_QP4)) ?_
  refine vm_loopA [] Nat (fun i => ⟨[(5, .l 3 (RC (nfq A))), (7, .ow 1 0 i), (27, .l 3 (RC (nfq A))), (28, .i .i64 (A.length : Int)), (29, .i .i64 (i : Int))], [(0, some ⟨25, 1, NW (dl.take i), true, false⟩)], 1⟩)
    (fun i => i ≤ A.length) (fun i => A.length - i) 0 (Nat.zero_le _) (by exact leQ) (by
    exact ltQ) ?_
  · intro i hi Q' hQ he hr
    by_cases h : (i : Int) < (A.length : Int)
    · have r1 := QC_row A i (by omega)
      have hap := htm i (by omega)
      have l0 := hnl i (by omega)
      have l1 := hnl (i + 1) (by omega)
      generalize A.getD i 0 = y at *
      refine spQ (ai @l1 (ai @l0 (ai @hap (ai @r1 (ai @hz (ai @h @bz_QP4)))))) ?_
      refine hQ _ (i + 1) (by omega) (by omega) ?_
      exact ltQ
    · obtain rfl : i = A.length := by omega
      rw [hall]
      refine spQ (ai @h @bz_QP4) ?_
      refine he _ _ ?_
      refine wkQ (ai @hd (ai @hz @bz_QP4)) ?_
      refine vm_loopA [(11, 27, 2)] Nat (fun i => ⟨[(10, .l 1 (W (dg B D))), (11, .ow 2 0 i), (41, .l 3 (RC (nfq A))), (42, .i .i64 (A.length : Int)), (43, .i .i64 (i : Int))], [(0, some ⟨27, 2, ZC (nfl (Z.take i)), true, false⟩)], 1⟩)
        (fun i => i ≤ A.length) (fun i => A.length - i) 0 (Nat.zero_le _) (by exact leQ) (by
        exact ltQ) ?_
      intro i hi Q2 hQ2 he2 hr2
      by_cases h2 : (i : Int) < (A.length : Int)
      · have r1 := QC_row A i (by omega)
        have x1 := hn2 i
        have x2 := hex i (by omega)
        have x3 := hmu i (by omega)
        have hap := ZC_app1 (nfl (Z.take i)) (Z.getD i 0)
        rw [show nfl (Z.take i) ++ [nfp (Z.getD i 0)] = nfl (Z.take (i + 1)) from by unfold nfl; rw [take_snoc' Z i (by omega), List.map_append]; rfl] at hap
        have l0 := ZC_len (nfl (Z.take i))
        have l1 := ZC_len (nfl (Z.take (i + 1)))
        rw [nfl_len, List.length_take] at l0 l1
        clear hex hmu hn2 htm hnl hcA
        generalize ((D / (A.getD i 0).den : Nat) : Int) = kk at *
        generalize Z.getD i 0 = z at *
        generalize A.getD i 0 = y at *
        refine wkQ (ai @hap (ai @r1 (ai @hz (ai @h2 @bz_QP4)))) ?_
        refine hQ2 _ (i + 1) (by omega) (by omega) ?_
        exact ltQ
      · obtain rfl : i = A.length := by omega
        rw [show Z.take A.length = Z from by rw [← hZl]; exact List.take_length]
        refine spQ (ai @h2 @bz_QP4) ?_
        refine he2 _ _ ?_
        refine spQ @bz_QP4 ?_
        exact rtQ @bz_QP4
theorem conv_cast (f g : Nat → Int) (k : Nat) : ((conv f g k : Int) : Rat) = cvq (fun i => (f i : Rat)) (fun i => (g i : Rat)) k := by
  have key : ∀ (h : Nat → Int) (n : Nat), ((sm h n : Int) : Rat) = sq (fun i => (h i : Rat)) n := fun h n => by
    induction n with
    | zero => simp [sm, sq]
    | succ n ih => rw [sm, sq, Rat.intCast_add, ih]
  unfold conv cvq
  rw [key]
  exact sq_congr fun i _ => Rat.intCast_mul _ _
theorem cvq_scale (c d : Rat) (f g : Nat → Rat) (k : Nat) : cvq (fun i => f i * c) (fun i => g i * d) k = cvq f g k * (c * d) := by
  have key : ∀ (h : Nat → Rat) (e : Rat) (n : Nat), sq (fun i => h i * e) n = sq h n * e := fun h e n => by
    induction n with
    | zero => simp only [sq]; grind
    | succ n ih => simp only [sq, ih]; grind
  unfold cvq
  rw [← key]
  exact sq_congr fun i _ => by grind
theorem map_mkRat (Z : List Int) (d : Nat) (i : Nat) : (Z.map fun z => mkRat z d).getD i 0 = mkRat (Z.getD i 0) d := by
  rw [List.getD_eq_getElem?_getD, List.getElem?_map, List.getD_eq_getElem?_getD]
  cases Z[i]? <;> simp
def a37 : AC := .seq (.reg [qr 6 (.mv (.k .nl)),
 qr 7 (.mv (.k (.i .i64 0)))])
 (.seq (.reg [qm 14 1,
 qr 15 (.call 33 [(1, (.k (.b false))), (1, (.t 14))]),
 qm 16 2,
 qr 17 (.call 33 [(1, (.k (.b false))), (1, (.t 16))]),
 qr 18 (.call 34 [(1, (.t 15)), (1, (.t 17))]),
 qr 8 (.al 27 [(.b false), (.l 1 [])]),
 qn (.st 2 (.t 8) (.t 18))])
 (.seq (.reg [qr 9 (.mv (.k .nl))])
 (.seq (.seq (.reg [qm 19 0,
 qr 20 (.len (.t 19)),
 qr 21 (.mv (.k (.i .i64 0)))])
 (.blk 0
 (.loop
 (.seq (.reg [qr 22 (.bin .lss (.t 21) (.t 20))])
 (.seq (.cond (.t 22)
 (.skip)
 (.exit 0))
 (.seq (.blk 1
 (.seq (.reg [qr 23 (.idx 2 (.t 19) (.t 21)),
 qr 24 (.ld true 2 (.t 23)),
 qr 11 (.al 27 [(.b false), (.l 1 [])]),
 qn (.st 2 (.t 11) (.t 24))])
 (.seq (.reg [qr 26 (.ld true 2 (.t 11)),
 qr 27 (.ld true 2 (.t 8)),
 qr 28 (.call 51 [(1, (.t 26)), (1, (.t 27))]),
 qm 25 28,
 qr 29 (.ext (.t 25) 0),
 qr 30 (.ext (.t 25) 1),
 qr 12 (.al 31 [(.b false), (.l 1 []), (.l 1 [])]),
 qn (.st 3 (.t 12) (.t 29)),
 qm 13 30])
 (.seq (.seq (.reg [qm 31 13,
 qr 32 (.bin .neq (.t 31) (.k (.i .i64 0)))])
 (.cond (.t 32)
 (.seq (.reg [qm 33 13,
 qr 6 (.mv (.k .nl)),
 qm 7 33])
 (.ret))
 (.skip)))
 (.reg [qm 34 9,
 qr 35 (.ld true 3 (.t 12)),
 qr 36 (.bsl 31 3 1 [(.b false), (.l 1 []), (.l 1 [])] [(0, (.t 35))]),
 qr 37 (.app 31 3 56 (.t 34) (.t 36)),
 qm 9 37])))))
 (.reg [qr 38 (.bin .add (.t 21) (.k (.i .i64 1))),
 qm 21 38])))))))
 (.seq (.reg [qm 39 9,
 qr 40 (.ocall 40 (.t 39)),
 qm 6 40,
 qr 7 (.mv (.k (.i .i64 0)))])
 (.ret)))))
theorem pover_spec (Z : List Int) (d e : Nat) (m : Nat) (hm : m ≤ 49000000) (lZ : Z.length ≤ 100000) (hZ : Cz Z (2 * m + 1)) (hd : d < B ^ m) (he : e < B ^ m) (d0 : d ≠ 0) (e0 : e ≠ 0) (hcR : Cq (Z.map fun z => mkRat z (d * e)) 49000000) :
    AFun Tryz.prog J0 37 [.l 2 (ZC (nfl Z)), .l 1 (W (dg B d)), .l 1 (W (dg B e))] (.t [.l 3 (RC (nfq (tzq (Z.map fun z => mkRat z (d * e))))), .i .i64 0]) := by
  have hz := ZN_len Z
  have hda : Z.length * 2 / 2 = Z.length := by omega
  have hde : d * e ≠ 0 := Nat.mul_ne_zero d0 e0
  have hdm : d * e < B ^ (2 * m + 1) := pup (mulN_lt hd he) (by omega)
  have n1 := pznatN d hd (by omega)
  have n2 := pznatN e he (by omega)
  have n3 := zmulN (x := (d : Int)) (y := (e : Int)) hd he (by omega)
  rw [← Int.natCast_mul] at n3
  have hmk : ∀ i, AFun Tryz.prog J0 51 [zN (Z.getD i 0), zN ((d * e : Nat) : Int)] (.t [rN (mkRat (Z.getD i 0) (d * e)).num (mkRat (Z.getD i 0) (d * e)).den, .i .i64 0]) := fun i => by
    have h := qmake_spec (decide (Z.getD i 0 < 0)) (decide (((d * e : Nat) : Int) < 0)) (dg B (Z.getD i 0).natAbs) (dg B (((d * e : Nat) : Int)).natAbs) (2 * m + 1) (by omega) (Wd_dg _) (Wd_dg _) (dlen (hZ i)) (dlen (show (((d * e : Nat) : Int)).natAbs < _ from hdm))
    rw [zv_N, zv_N, nv_dgB, show ((d * e : Nat) : Int).natAbs = d * e from rfl, re_p hde, rv_p _ hde, show mz (Z.getD i 0) ((d * e : Nat) : Int) = Z.getD i 0 from if_neg (by omega), r_num hde, r_den hde] at h
    exact h
  obtain ⟨R, hR⟩ : ∃ R, R = Z.map fun z => mkRat z (d * e) := ⟨_, rfl⟩
  have hRl : R.length = Z.length := by rw [hR]; simp
  have hRg : ∀ i, mkRat (Z.getD i 0) (d * e) = R.getD i 0 := fun i => by rw [hR, map_mkRat]
  rw [← hR] at hcR ⊢
  clear hR
  have htr := ptrim_spec R 49000000 (by omega) (by omega) hcR
  clear hcR hZ hdm
  simp only [hRg] at hmk
  clear hRg
  generalize ((d * e : Nat) : Int) = de at *
  generalize tzq R = T at *
  refine mkQ fol J0s Tryz.func37 a37 ?_
  unfold a37
  simp only [init_eq, initE, qm, qr, qn]
  refine wkQ (ai @hda (ai @hz @bz_QP4)) ?_
  refine vm_loopA [(9, 31, 3)] Nat (fun i => ⟨[(8, .pt 1 0), (9, .ow 3 0 i), (19, .l 2 (ZC (nfl Z))), (20, .i .i64 (Z.length : Int)), (21, .i .i64 (i : Int))], [(0, some ⟨31, 3, RC (nfq (R.take i)), true, false⟩), (1, some ⟨27, 2, [.b (decide (de < 0)), .l 1 (W (dg B de.natAbs))], true, true⟩)], 2⟩)
    (fun i => i ≤ Z.length) (fun i => Z.length - i) 0 (Nat.zero_le _) (by exact leQ) (by
    exact ltQ) ?_
  intro i hi Q' hQ he hr
  by_cases h : (i : Int) < (Z.length : Int)
  · have r1 := ZN_row Z i (by omega)
    have x1 := hmk i
    have hap := QC_app1 (R.take i) (R.getD i 0)
    rw [← take_snocq R i (by omega)] at hap
    have l0 := QC_len (R.take i)
    have l1 := QC_len (R.take (i + 1))
    rw [List.length_take] at l0 l1
    rw [rN_b] at x1
    clear hmk
    generalize R.getD i 0 = y at *
    generalize Z.getD i 0 = z at *
    refine wkQ (ai @hap (ai @r1 (ai @hz (ai @h @bz_QP4)))) ?_
    refine hQ _ (i + 1) (by omega) (by omega) ?_
    exact ltQ
  · obtain rfl : i = Z.length := by omega
    rw [show R.take Z.length = R from by rw [← hRl]; exact List.take_length]
    refine spQ (ai @h @bz_QP4) ?_
    refine he _ _ ?_
    exact wdQ @bz_QP4
def a13 : AC := .seq (.reg [qr 4 (.mv (.k .nl)),
 qr 5 (.mv (.k (.i .i64 0)))])
 (.seq (.reg [qm 16 0,
 qm 17 1,
 qr 18 (.call 36 [(3, (.t 16)), (3, (.t 17))]),
 qm 15 18,
 qr 19 (.ext (.t 15) 0),
 qr 20 (.ext (.t 15) 1),
 qr 21 (.ext (.t 15) 2),
 qm 6 19,
 qm 7 20,
 qm 8 21])
 (.seq (.seq (.reg [qm 22 8,
 qr 23 (.bin .neq (.t 22) (.k (.i .i64 0))),
 qm 24 23,
 ⟨some 25, some (24, false), .mv (.t 6)⟩,
 ⟨some 26, some (24, false), .len (.t 25)⟩,
 ⟨some 27, some (24, false), .bin .eql (.t 26) (.k (.i .i64 0))⟩,
 qr 28 (.pick (.t 24) (.k (.b true)) (.t 27)),
 qm 29 28,
 ⟨some 30, some (29, false), .mv (.t 7)⟩,
 ⟨some 31, some (29, false), .len (.t 30)⟩,
 ⟨some 32, some (29, false), .bin .eql (.t 31) (.k (.i .i64 0))⟩,
 qr 33 (.pick (.t 29) (.k (.b true)) (.t 32))])
 (.cond (.t 33)
 (.seq (.reg [qm 34 8,
 qr 4 (.mv (.k .nl)),
 qm 5 34])
 (.ret))
 (.skip)))
 (.seq (.reg [qm 36 6,
 qr 37 (.call 7 [(3, (.t 36))]),
 qm 35 37,
 qr 38 (.ext (.t 35) 0),
 qr 39 (.ext (.t 35) 1),
 qr 40 (.ext (.t 35) 2),
 qm 9 38,
 qm 10 39,
 qm 11 40])
 (.seq (.reg [qm 42 7,
 qr 43 (.call 7 [(3, (.t 42))]),
 qm 41 43,
 qr 44 (.ext (.t 41) 0),
 qr 45 (.ext (.t 41) 1),
 qr 46 (.ext (.t 41) 2),
 qm 12 44,
 qm 13 45,
 qm 14 46])
 (.seq (.reg [qm 47 10,
 qm 48 13,
 qr 49 (.call 38 [(2, (.t 47)), (2, (.t 48))]),
 qm 50 9,
 qm 51 12,
 qr 52 (.call 37 [(2, (.t 49)), (1, (.t 50)), (1, (.t 51))]),
 qr 53 (.ext (.t 52) 0),
 qr 54 (.ext (.t 52) 1),
 qm 4 53,
 qm 5 54])
 (.ret))))))
theorem pmul_spec (l k : R3) (A C R : List Rat) (E1 M1 E2 M2 m : Nat) (hm : m ≤ 48000000) (tA : tzq A = A) (tC : tzq C = C) (lA : A.length ≤ 1000) (lC : C.length ≤ 1000) (hA : PB A E1 M1) (hC : PB C E2 M2) (hE1 : E1 < B ^ m) (hM1 : M1 < B ^ m) (hE2 : E2 < B ^ m) (hM2 : M2 < B ^ m)
    (hcR : Cq R 49000000) (hR : ∀ i, R.getD i 0 = cvq (fun i => A.getD i 0) (fun i => C.getD i 0) i)
    (hbo : AFun Tryz.prog J0 36 [.l 3 (RC l), .l 3 (RC k)] (.t [.l 3 (RC (nfq A)), .l 3 (RC (nfq C)), .i .i64 0])) :
    AFun Tryz.prog J0 13 [.l 3 (RC l), .l 3 (RC k)] (.t [.l 3 (RC (nfq (tzq R))), .i .i64 0]) := by
  have hzA := QC_len A
  have hzC := QC_len C
  have dA : A.length * 3 / 3 = A.length := by omega
  have dC : C.length * 3 / 3 = C.length := by omega
  by_cases a0 : A.length = 0
  · have aI : (A.length : Int) = 0 := by omega
    have e : tzq R = [] := tzq_all0 fun i => by rw [hR]; exact sq_zero fun u _ => by simp only [gq0 (l := A) (k := u) (by omega)]; grind
    rw [e]
    refine mkQ fol J0s Tryz.func13 a13 ?_
    unfold a13
    simp only [init_eq, initE, qm, qr, qn]
    have zc3 := hbo
    repeat first | (refine hK _ ?_; clear hK K) | simp only [Sv, ↓reduceIte, Nat.reduceEqDiff] | ((first | refine vm_reg (fun K hK => ?_) | refine vm_dreg (fun K hK => ?_) | refine vm_dregx (fun K hK => ?_) | refine clp_q ?_ | refine clq_mk (by assumption) ?_ | refine mcq_q ?_ | (apply mcr_mk; assumption) | (apply ocr_mk; assumption)); simp (disch := (first | omega | assumption)) only [S1, ↓reduceIte, Nat.reduceEqDiff, Nat.reduceAdd, Nat.reduceMul, Nat.reduceDiv, AOp.sb, AOp.mut, frzf, ↓Bool.false_eq_true, beq_self_eq_true, ite_self, Nat.reduceLeDiff, Int.reduceEq, Int.reduceSub, Int.reduceAdd, Int.reduceNeg, Int.reduceLT, Int.reduceLE, Nat.reduceLT, bz_QP4, hzA, dA, aI, hzC, dC, show RC (nfq []) = [] from rfl])
    simp (disch := (first | omega | assumption)) only [retOk, retN, ret1, retF, ret1F, V.okArg, and_true, true_and, S1, ↓reduceIte, Nat.reduceEqDiff, Nat.reduceAdd, Nat.reduceMul, Nat.reduceDiv, AOp.sb, AOp.mut, frzf, ↓Bool.false_eq_true, beq_self_eq_true, ite_self, Nat.reduceLeDiff, Int.reduceEq, Int.reduceSub, Int.reduceAdd, Int.reduceNeg, Int.reduceLT, Int.reduceLE, Nat.reduceLT, bz_QP4, hzA, dA, aI, hzC, dC, show RC (nfq []) = [] from rfl]
  · have aI : ¬ (A.length : Int) = 0 := by omega
    by_cases c0 : C.length = 0
    · have cI : (C.length : Int) = 0 := by omega
      have e : tzq R = [] := tzq_all0 fun i => by rw [hR]; exact sq_zero fun u _ => by simp only [gq0 (l := C) (k := i - u) (by omega)]; grind
      rw [e]
      refine mkQ fol J0s Tryz.func13 a13 ?_
      unfold a13
      simp only [init_eq, initE, qm, qr, qn]
      have zc4 := hbo
      repeat first | (refine hK _ ?_; clear hK K) | simp only [Sv, ↓reduceIte, Nat.reduceEqDiff] | ((first | refine vm_reg (fun K hK => ?_) | refine vm_dreg (fun K hK => ?_) | refine vm_dregx (fun K hK => ?_) | refine clp_q ?_ | refine clq_mk (by assumption) ?_ | refine mcq_q ?_ | (apply mcr_mk; assumption) | (apply ocr_mk; assumption)); simp (disch := (first | omega | assumption)) only [S1, ↓reduceIte, Nat.reduceEqDiff, Nat.reduceAdd, Nat.reduceMul, Nat.reduceDiv, AOp.sb, AOp.mut, frzf, ↓Bool.false_eq_true, beq_self_eq_true, ite_self, Nat.reduceLeDiff, Int.reduceEq, Int.reduceSub, Int.reduceAdd, Int.reduceNeg, Int.reduceLT, Int.reduceLE, Nat.reduceLT, bz_QP4, hzA, dA, aI, hzC, dC, cI, show RC (nfq []) = [] from rfl])
      simp (disch := (first | omega | assumption)) only [retOk, retN, ret1, retF, ret1F, V.okArg, and_true, true_and, S1, ↓reduceIte, Nat.reduceEqDiff, Nat.reduceAdd, Nat.reduceMul, Nat.reduceDiv, AOp.sb, AOp.mut, frzf, ↓Bool.false_eq_true, beq_self_eq_true, ite_self, Nat.reduceLeDiff, Int.reduceEq, Int.reduceSub, Int.reduceAdd, Int.reduceNeg, Int.reduceLT, Int.reduceLE, Nat.reduceLT, bz_QP4, hzA, dA, aI, hzC, dC, cI, show RC (nfq []) = [] from rfl]
    · have cI : ¬ (C.length : Int) = 0 := by omega
      have qA := Qk_nfq (PB_Cq hA hE1 hM1)
      have qC := Qk_nfq (PB_Cq hC hE2 hM2)
      have nA := pnorm_spec (nfq A) m hm (by rw [nfq_len]; omega) qA
      have nC := pnorm_spec (nfq C) m hm (by rw [nfq_len]; omega) qC
      rw [qcs_nfq, tA] at nA
      rw [qcs_nfq, tC] at nC
      have k1 := pclear_spec (nfq A) A E1 M1 m hm (by omega) hA hE1 hM1 nA
      have k2 := pclear_spec (nfq C) C E2 M2 m hm (by omega) hC hE2 hM2 nC
      have dA0 := clD_pos hA
      have dC0 := clD_pos hC
      have dAm : clD A < B ^ m := Nat.lt_of_le_of_lt (Nat.le_of_dvd (Nat.pos_of_ne_zero hA.1) (clD_dvd hA)) hE1
      have dCm : clD C < B ^ m := Nat.lt_of_le_of_lt (Nat.le_of_dvd (Nat.pos_of_ne_zero hC.1) (clD_dvd hC)) hE2
      have zA : Cz (clZ A) m := fun i => Nat.lt_of_le_of_lt (clZ_lt hA i) hM1
      have zC : Cz (clZ C) m := fun i => Nat.lt_of_le_of_lt (clZ_lt hC i) hM2
      have k3 := zpmul_spec (nfl (clZ A)) (nfl (clZ C)) m (by omega) (by rw [nfl_len, clZ_len]; omega) (by rw [nfl_len, clZ_len]; omega) (Zk_nfl zA) (Zk_nfl zC)
      rw [zcs_nfl, zcs_nfl] at k3
      have hcf : ∀ i, (mull (tzi (clZ A)) (tzi (clZ C))).getD i 0 = conv (fun i => (clZ A).getD i 0) (fun i => (clZ C).getD i 0) i := fun i => by
        rw [mull_cf]; exact conv_congr (fun i => tzi_cf _ i) (fun i => tzi_cf _ i) i
      have hlen : (mull (tzi (clZ A)) (tzi (clZ C))).length ≤ 2000 := by
        have h1 := tzi_len (clZ A)
        have h2 := tzi_len (clZ C)
        rw [clZ_len] at h1 h2
        unfold mull
        split
        · simp
        · refine Nat.le_trans (tzi_len _) ?_
          rw [mulF_len]; omega
      have hq : ∀ i, ((mull (tzi (clZ A)) (tzi (clZ C))).map fun z => mkRat z (clD A * clD C)).getD i 0 = R.getD i 0 := fun i => by
        rw [map_mkRat, hcf, hR, Rat.mkRat_eq_div, conv_cast]
        rw [show (fun i => (((clZ A).getD i 0 : Int) : Rat)) = fun i => A.getD i 0 * (clD A : Rat) from funext fun i => clZ_q i dA0,
          show (fun i => (((clZ C).getD i 0 : Int) : Rat)) = fun i => C.getD i 0 * (clD C : Rat) from funext fun i => clZ_q i dC0, cvq_scale, Rat.natCast_mul]
        have r1 := ratE dA0
        have r2 := ratE dC0
        grind
      have k4 := pover_spec (mull (tzi (clZ A)) (tzi (clZ C))) (clD A) (clD C) m (by omega) (by omega) (Cz_mull (Cz_tzi zA) (Cz_tzi zC) (by have := tzi_len (clZ A); rw [clZ_len] at this; omega)) dAm dCm dA0 dC0 (fun i => by rw [hq]; exact hcR i)
      rw [tzq_ext hq] at k4
      clear hq hcf hcR hR
      generalize mull (tzi (clZ A)) (tzi (clZ C)) = Z at *
      generalize tzq R = T at *
      generalize clZ A = ZA at *
      generalize clZ C = ZC' at *
      generalize clD A = DA at *
      generalize clD C = DC at *
      refine mkQ fol J0s Tryz.func13 a13 ?_
      unfold a13
      simp only [init_eq, initE, qm, qr, qn]
      have zc5 := hbo
      exact wdQ (ai @cI (ai @dC (ai @hzC (ai @aI (ai @dA (ai @hzA @bz_QP4))))))
end Go.Proofs.YtbkpaeejjepnpaaGreat
