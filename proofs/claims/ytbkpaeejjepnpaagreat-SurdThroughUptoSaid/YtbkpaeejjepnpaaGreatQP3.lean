/-
  qpoly: sums, scaled polynomials, derivatives, integrals.
-/
import Derived.Test.YtbkpaeejjepnpaaGreatQP2
namespace Go.Proofs.YtbkpaeejjepnpaaGreat
open Go Go.RowKit Ab
set_option linter.unusedSimpArgs false
set_option linter.unusedVariables false
set_option maxHeartbeats 10000000
theorem bz_QP3 : type_of% (And.intro @W_len (And.intro @D_len (And.intro @Nat.div_one (And.intro @Nat.mul_one (And.intro @tn_nat (And.intro @W_nf (And.intro @D_nf (And.intro @W_nil (And.intro @D_nil (And.intro @wi (And.intro @nf_g (And.intro @Bool.false_and (And.intro @W_cell (@RC_nf)))))))))))))) := And.intro @W_len (And.intro @D_len (And.intro @Nat.div_one (And.intro @Nat.mul_one (And.intro @tn_nat (And.intro @W_nf (And.intro @D_nf (And.intro @W_nil (And.intro @D_nil (And.intro @wi (And.intro @nf_g (And.intro @Bool.false_and (And.intro @W_cell (@RC_nf)))))))))))))
def eaq (g : Rat → Rat → Rat) (a b : List Rat) : List Rat := (List.range (max a.length b.length)).map fun i => g (a.getD i 0) (b.getD i 0)
theorem eaq_len (g : Rat → Rat → Rat) (a b : List Rat) : (eaq g a b).length = max a.length b.length := by simp [eaq]
theorem eaq_get (g : Rat → Rat → Rat) (a b : List Rat) (i : Nat) (h : i < max a.length b.length) : (eaq g a b).getD i 0 = g (a.getD i 0) (b.getD i 0) := by
  unfold eaq
  rw [List.getD_eq_getElem?_getD, List.getElem?_map, List.getElem?_range h]; rfl
theorem eaq_cf (g : Rat → Rat → Rat) (h0 : g 0 0 = 0) (a b : List Rat) (i : Nat) : (eaq g a b).getD i 0 = g (a.getD i 0) (b.getD i 0) := by
  by_cases h : i < max a.length b.length
  · exact eaq_get g a b i h
  · rw [gq0 (by rw [eaq_len]; omega), gq0 (l := a) (by omega), gq0 (l := b) (by omega), h0]
def a42 : AC := .seq (.reg [qr 6 (.mv (.k .nl)),
 qr 7 (.mv (.k (.i .i64 0)))])
 (.seq (.reg [qm 16 0,
 qm 17 1,
 qr 18 (.call 36 [(3, (.t 16)), (3, (.t 17))]),
 qm 15 18,
 qr 19 (.ext (.t 15) 0),
 qr 20 (.ext (.t 15) 1),
 qr 21 (.ext (.t 15) 2),
 qm 8 19,
 qm 9 20,
 qm 10 21])
 (.seq (.seq (.reg [qm 22 10,
 qr 23 (.bin .neq (.t 22) (.k (.i .i64 0)))])
 (.cond (.t 23)
 (.seq (.reg [qm 24 10,
 qr 6 (.mv (.k .nl)),
 qm 7 24])
 (.ret))
 (.skip)))
 (.seq (.reg [qr 11 (.mv (.k .nl))])
 (.seq (.seq (.reg [qm 25 8,
 qr 26 (.len (.t 25)),
 qm 27 9,
 qr 28 (.len (.t 27)),
 qr 29 (.mm true (.t 26) (.t 28)),
 qr 30 (.mv (.k (.i .i64 0)))])
 (.blk 0
 (.loop
 (.seq (.reg [qr 31 (.bin .lss (.t 30) (.t 29))])
 (.seq (.cond (.t 31)
 (.skip)
 (.exit 0))
 (.seq (.blk 1
 (.seq (.reg [qm 32 30,
 qm 12 32])
 (.seq (.reg [qm 34 2,
 qm 35 8,
 qm 36 12,
 qr 37 (.call 71 [(3, (.t 35)), (1, (.t 36))]),
 qm 38 9,
 qm 39 12,
 qr 40 (.call 71 [(3, (.t 38)), (1, (.t 39))]),
 qr 41 (.dcall (.t 34) [(1, (.t 37)), (1, (.t 40))]),
 qm 33 41,
 qr 42 (.ext (.t 33) 0),
 qr 43 (.ext (.t 33) 1),
 qr 13 (.al 31 [(.b false), (.l 1 []), (.l 1 [])]),
 qn (.st 3 (.t 13) (.t 42)),
 qm 14 43])
 (.seq (.seq (.reg [qm 44 14,
 qr 45 (.bin .neq (.t 44) (.k (.i .i64 0)))])
 (.cond (.t 45)
 (.seq (.reg [qm 46 14,
 qr 6 (.mv (.k .nl)),
 qm 7 46])
 (.ret))
 (.skip)))
 (.reg [qm 47 11,
 qr 48 (.ld true 3 (.t 13)),
 qr 49 (.bsl 31 3 1 [(.b false), (.l 1 []), (.l 1 [])] [(0, (.t 48))]),
 qr 50 (.app 31 3 56 (.t 47) (.t 49)),
 qm 11 50])))))
 (.reg [qr 51 (.bin .add (.t 30) (.k (.i .i64 1))),
 qm 30 51])))))))
 (.seq (.reg [qm 52 11,
 qr 53 (.ocall 40 (.t 52)),
 qm 6 53,
 qr 7 (.mv (.k (.i .i64 0)))])
 (.ret))))))
theorem peach_add (l k : R3) (A C R : List Rat) (m : Nat) (hm : m ≤ 49000000) (lA : A.length ≤ 100000) (lC : C.length ≤ 100000) (hcA : Cq A m) (hcC : Cq C m) (hR : R = eaq (fun x y => x + y) A C) (hcR : Cq R 49000000)
    (hbo : AFun Tryz.prog J0 36 [.l 3 (RC l), .l 3 (RC k)] (.t [.l 3 (RC (nfq A)), .l 3 (RC (nfq C)), .i .i64 0])) :
    AFun Tryz.prog J0 42 [.l 3 (RC l), .l 3 (RC k), .c (.func (.func 50) #[] #[])] (.t [.l 3 (RC (nfq (tzq R))), .i .i64 0]) := by
  obtain ⟨g, hg⟩ : ∃ g : Rat → Rat → Rat, g = fun x y => x + y := ⟨_, rfl⟩
  rw [← hg] at hR
  have hop : ∀ i, AFun Tryz.prog J0 50 [rN (A.getD i 0).num (A.getD i 0).den, rN (C.getD i 0).num (C.getD i 0).den] (.t [rN (g (A.getD i 0) (C.getD i 0)).num (g (A.getD i 0) (C.getD i 0)).den, .i .i64 0]) := fun i => by
    rw [hg]; exact (qaddR (Cq_Rr hcA i) (Cq_Rr hcC i) hm).1
  have htr := ptrim_spec R 49000000 (by omega) (by rw [hR, eaq_len]; omega) hcR
  clear hcR hg
  generalize tzq R = T at *
  have hA := QC_len A
  have hB := QC_len C
  have dA : A.length * 3 / 3 = A.length := by omega
  have dB : C.length * 3 / 3 = C.length := by omega
  obtain ⟨n, hn⟩ : ∃ n, n = max A.length C.length := ⟨_, rfl⟩
  have hnI : max (A.length : Int) (C.length : Int) = (n : Int) := by omega
  have hRl : R.length = n := by rw [hR, eaq_len, hn]
  have hRg : ∀ i, i < n → g (A.getD i 0) (C.getD i 0) = R.getD i 0 := fun i hi => by rw [hR, eaq_get g A C i (by omega)]
  clear hR
  refine mkQ fol J0s Tryz.func42 a42 ?_
  unfold a42
  simp only [init_eq, initE, qm, qr, qn]
  refine wkQ (ai @hnI (ai @dB (ai @dA (ai @hB (ai @hA @bz_QP3))))) ?_
  refine vm_loopA [(11, 31, 3)] Nat (fun i => ⟨[(2, .c (.func (.func 50) #[] #[])), (8, .l 3 (RC (nfq A))), (9, .l 3 (RC (nfq C))), (11, .ow 3 0 i), (29, .i .i64 (n : Int)), (30, .i .i64 (i : Int))], [(0, some ⟨31, 3, RC (nfq (R.take i)), true, false⟩)], 1⟩)
    (fun i => i ≤ n) (fun i => n - i) 0 (Nat.zero_le _) (by exact leQ) (by
    exact ltQ) ?_
  intro i hi Q' hQ he hr
  by_cases h : (i : Int) < (n : Int)
  · have c1 := pcoef_spec A i m hm hcA (by omega) (by omega)
    have c2 := pcoef_spec C i m hm hcC (by omega) (by omega)
    have o1 := hop i
    have hap := QC_app1 (R.take i) (R.getD i 0)
    rw [← take_snocq R i (by omega)] at hap
    have l0 := QC_len (R.take i)
    have l1 := QC_len (R.take (i + 1))
    rw [List.length_take] at l0 l1
    rw [hRg i (by omega)] at o1
    rw [rN_b] at c1 c2
    simp only [rN_b] at o1
    clear hop
    generalize R.getD i 0 = y at *
    generalize A.getD i 0 = y1 at *
    generalize C.getD i 0 = y2 at *
    refine wkQ (ai @hap (ai @h @bz_QP3)) ?_
    refine hQ _ (i + 1) (by omega) (by omega) ?_
    exact ltQ
  · obtain rfl : i = n := by omega
    rw [show R.take i = R from by rw [← hRl]; exact List.take_length]
    refine spQ (ai @h @bz_QP3) ?_
    refine he _ _ ?_
    exact wdQ @bz_QP3
theorem peach_mul (l k : R3) (A C R : List Rat) (r : Rat) (m : Nat) (hm : m ≤ 24000000) (lA : A.length ≤ 100000) (lC : C.length ≤ 100000) (hcA : Cq A m) (hcC : Cq C m) (hr : r.num.natAbs < B ^ m ∧ r.den < B ^ m) (hR : R = eaq (fun x _ => x * r) A C)
    (hbo : AFun Tryz.prog J0 36 [.l 3 (RC l), .l 3 (RC k)] (.t [.l 3 (RC (nfq A)), .l 3 (RC (nfq C)), .i .i64 0])) (cells : List V)
    (hcl : ∀ x y : Rat, x.num.natAbs < B ^ m → x.den < B ^ m → AFun Tryz.prog J0 43 [rN x.num x.den, rN y.num y.den, .ip cells 0] (.t [rN (x * r).num (x * r).den, .i .i64 0])) :
    AFun Tryz.prog J0 42 [.l 3 (RC l), .l 3 (RC k), .fc 43 cells] (.t [.l 3 (RC (nfq (tzq R))), .i .i64 0]) := by
  have hm' := hm
  replace hm : m ≤ 49000000 := by omega
  obtain ⟨g, hg⟩ : ∃ g : Rat → Rat → Rat, g = fun x _ => x * r := ⟨_, rfl⟩
  rw [← hg] at hR
  have hop : ∀ i, AFun Tryz.prog J0 43 [rN (A.getD i 0).num (A.getD i 0).den, rN (C.getD i 0).num (C.getD i 0).den, .ip cells 0] (.t [rN (g (A.getD i 0) (C.getD i 0)).num (g (A.getD i 0) (C.getD i 0)).den, .i .i64 0]) := fun i => by
    rw [hg]; exact hcl _ _ (hcA i).1 (hcA i).2
  have hcR : Cq R (m + m + 1) := fun i => by
    rw [hR, eaq_cf g (by rw [hg]; grind), hg]
    have := Rr_num (qmulR (Cq_Rr hcA i) (Rr_c hr.1 hr.2) hm).2
    exact ⟨pup this.1 (by omega), pup this.2 (by omega)⟩
  have htr := ptrim_spec R (m + m + 1) (by omega) (by rw [hR, eaq_len]; omega) hcR
  clear hcR hg hcl
  generalize tzq R = T at *
  have hA := QC_len A
  have hB := QC_len C
  have dA : A.length * 3 / 3 = A.length := by omega
  have dB : C.length * 3 / 3 = C.length := by omega
  obtain ⟨n, hn⟩ : ∃ n, n = max A.length C.length := ⟨_, rfl⟩
  have hnI : max (A.length : Int) (C.length : Int) = (n : Int) := by omega
  have hRl : R.length = n := by rw [hR, eaq_len, hn]
  have hRg : ∀ i, i < n → g (A.getD i 0) (C.getD i 0) = R.getD i 0 := fun i hi => by rw [hR, eaq_get g A C i (by omega)]
  clear hR
  refine mkQ fol J0s Tryz.func42 a42 ?_
  unfold a42
  simp only [init_eq, initE, qm, qr, qn]
  refine wkQ (ai @hnI (ai @dB (ai @dA (ai @hB (ai @hA @bz_QP3))))) ?_
  refine vm_loopA [(11, 31, 3)] Nat (fun i => ⟨[(2, .fc 43 cells), (8, .l 3 (RC (nfq A))), (9, .l 3 (RC (nfq C))), (11, .ow 3 0 i), (29, .i .i64 (n : Int)), (30, .i .i64 (i : Int))], [(0, some ⟨31, 3, RC (nfq (R.take i)), true, false⟩)], 1⟩)
    (fun i => i ≤ n) (fun i => n - i) 0 (Nat.zero_le _) (by exact leQ) (by
    exact ltQ) ?_
  intro i hi Q' hQ he hr
  by_cases h : (i : Int) < (n : Int)
  · have c1 := pcoef_spec A i m hm hcA (by omega) (by omega)
    have c2 := pcoef_spec C i m hm hcC (by omega) (by omega)
    have o1 := hop i
    have hap := QC_app1 (R.take i) (R.getD i 0)
    rw [← take_snocq R i (by omega)] at hap
    have l0 := QC_len (R.take i)
    have l1 := QC_len (R.take (i + 1))
    rw [List.length_take] at l0 l1
    rw [hRg i (by omega)] at o1
    rw [rN_b] at c1 c2
    simp only [rN_b] at o1
    clear hop
    generalize R.getD i 0 = y at *
    generalize A.getD i 0 = y1 at *
    generalize C.getD i 0 = y2 at *
    refine wkQ (ai @hap (ai @h @bz_QP3)) ?_
    refine hQ _ (i + 1) (by omega) (by omega) ?_
    exact ltQ
  · obtain rfl : i = n := by omega
    rw [show R.take i = R from by rw [← hRl]; exact List.take_length]
    refine spQ (ai @h @bz_QP3) ?_
    refine he _ _ ?_
    exact wdQ @bz_QP3
def a22 : AC := .seq (.reg [qr 4 (.mv (.k .nl)),
 qr 5 (.mv (.k (.i .i64 0)))])
 (.seq (.reg [qm 6 0,
 qm 7 1,
 qr 8 (.call 42 [(3, (.t 6)), (3, (.t 7)), (1, (.k (.c (.func (.func 50) #[] #[]))))]),
 qr 9 (.ext (.t 8) 0),
 qr 10 (.ext (.t 8) 1),
 qm 4 9,
 qm 5 10])
 (.ret))
theorem padd_spec (l k : R3) (m : Nat) (hm : m ≤ 48000000) (ll : l.length ≤ 100000) (lk : k.length ≤ 100000) (hp : Qk l m) (hk : Qk k m) (hcR : Cq (eaq (fun x y => x + y) (qcs l) (qcs k)) 49000000) : AFun Tryz.prog J0 22 [.l 3 (RC l), .l 3 (RC k)] (.t [.l 3 (RC (nfq (tzq (eaq (fun x y => x + y) (qcs l) (qcs k))))), .i .i64 0]) := by
  have h := peach_add l k (tzq (qcs l)) (tzq (qcs k)) _ (m + 1) (by omega) (Nat.le_trans (tzq_len _) (by rw [qcs_len]; exact ll)) (Nat.le_trans (tzq_len _) (by rw [qcs_len]; exact lk)) (Cq_tzq (Qk_Cq hp)) (Cq_tzq (Qk_Cq hk)) rfl (fun i => by rw [eaq_cf _ (by grind), tzq_cf, tzq_cf, ← eaq_cf (fun x y => x + y) (by grind)]; exact hcR i) (pboth_spec l k m (by omega) ll lk hp hk)
  rw [show tzq (eaq (fun x y => x + y) (tzq (qcs l)) (tzq (qcs k))) = tzq (eaq (fun x y => x + y) (qcs l) (qcs k)) from tzq_ext fun i => by rw [eaq_cf _ (by grind), eaq_cf _ (by grind), tzq_cf, tzq_cf]] at h
  refine mkQ fol J0s Tryz.func22 a22 ?_
  unfold a22
  simp only [init_eq, initE, qm, qr, qn]
  exact wdQ @bz_QP3
def a43 : AC := .seq (.reg [qr 3 (.bx 31 (.t 0)),
 qr 4 (.bx 31 (.t 1)),
 qr 5 (.al 31 [(.b false), (.l 1 []), (.l 1 [])]),
 qr 6 (.mv (.k (.i .i64 0)))])
 (.seq (.reg [qr 7 (.ld true 3 (.t 3)),
 qr 8 (.ld true 3 (.t 2)),
 qr 9 (.call 44 [(1, (.t 7)), (1, (.t 8))]),
 qr 10 (.ext (.t 9) 0),
 qr 11 (.ext (.t 9) 1),
 qn (.st 3 (.t 5) (.t 10)),
 qm 6 11])
 (.ret))
theorem pscl1 (x y r : Rat) (m : Nat) (hm : m ≤ 49000000) (h1 : x.num.natAbs < B ^ m) (h2 : x.den < B ^ m) {v : V} (hv : Rr v r m) (cells : List V) (hc : v = .g cells) : AFun Tryz.prog J0 43 [rN x.num x.den, rN y.num y.den, .ip cells 0] (.t [rN (x * r).num (x * r).den, .i .i64 0]) := by
  have h := (qmulR (Rr_c h1 h2) hv hm).1
  obtain ⟨s, a, d, rfl, _⟩ := hv
  cases hc
  rw [rN_b] at h ⊢
  rw [rN_b]
  rw [rN_b] at h
  refine mkcQ fol J0s Tryz.func43 a43 [.c 5 true 3, .t 6] ?_
  unfold a43
  simp only [init_eq, initE, qm, qr, qn]
  exact wcQ @bz_QP3
def a15 : AC := .seq (.reg [qr 3 (.bx 31 (.t 1)),
 qr 4 (.mv (.k .nl)),
 qr 5 (.mv (.k (.i .i64 0)))])
 (.seq (.seq (.reg [qr 7 (.ld true 3 (.t 3)),
 qr 8 (.call 41 [(1, (.t 7))]),
 qm 6 8])
 (.seq (.reg [qm 9 6,
 qr 10 (.bin .neq (.t 9) (.k (.i .i64 0)))])
 (.cond (.t 10)
 (.seq (.reg [qm 11 6,
 qr 4 (.mv (.k .nl)),
 qm 5 11])
 (.ret))
 (.skip))))
 (.seq (.reg [qm 12 0,
 qr 13 (.clo 43 (.t 3)),
 qr 14 (.call 42 [(3, (.t 12)), (3, (.k .nl)), (1, (.t 13))]),
 qr 15 (.ext (.t 14) 0),
 qr 16 (.ext (.t 14) 1),
 qm 4 15,
 qm 5 16])
 (.ret)))
theorem pscale_spec (l : R3) (s : Bool) (a d : List Nat) (m : Nat) (hm : m ≤ 23000000) (ll : l.length ≤ 100000) (hp : Qk l m) (ha : Wd a) (hd : Wd d) (la : a.length ≤ m) (ld : d.length ≤ m) (h0 : nv B d ≠ 0) :
    AFun Tryz.prog J0 15 [.l 3 (RC l), rL s a d] (.t [.l 3 (RC (nfq (tzq ((qcs l).map fun x => x * mkRat (zv s a) (nv B d))))), .i .i64 0]) := by
  have hv := Rr_raw (s := s) ha hd (show a.length ≤ m + 1 by omega) (show d.length ≤ m + 1 by omega) h0
  have h1 := qcheck_spec s a d hd (by omega)
  rw [if_neg h0] at h1
  have hbo := pboth_spec l [] m (by omega) ll (by simp) hp (fun p hp => by cases hp)
  have h := peach_mul l [] (tzq (qcs l)) (tzq (qcs [])) _ (mkRat (zv s a) (nv B d)) (m + 1) (by omega) (Nat.le_trans (tzq_len _) (by rw [qcs_len]; exact ll)) (by simp [qcs, tzq]) (Cq_tzq (Qk_Cq hp)) (Cq_tzq (Qk_Cq (fun p hp => by cases hp))) (Rr_num hv) rfl hbo
    (cells := [.b s, .l 1 (W a), .l 1 (W d)]) (fun x y e1 e2 => pscl1 x y _ (m + 1) (by omega) e1 e2 hv _ rfl)
  rw [show tzq (eaq (fun x _ => x * mkRat (zv s a) (nv B d)) (tzq (qcs l)) (tzq (qcs []))) = tzq ((qcs l).map fun x => x * mkRat (zv s a) (nv B d)) from tzq_ext fun i => by
    rw [eaq_cf _ (by grind), tzq_cf, List.getD_eq_getElem?_getD (l := List.map _ _), List.getElem?_map, List.getD_eq_getElem?_getD]
    cases (qcs l)[i]? <;> simp] at h
  rw [show RC ([] : R3) = [] from rfl] at h
  refine mkQ fol J0s Tryz.func15 a15 ?_
  unfold a15
  simp only [init_eq, initE, qm, qr, qn]
  exact wdQ @bz_QP3
end Go.Proofs.YtbkpaeejjepnpaaGreat
