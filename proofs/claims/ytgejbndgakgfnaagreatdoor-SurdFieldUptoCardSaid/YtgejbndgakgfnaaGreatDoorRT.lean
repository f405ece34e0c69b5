/-
  Texts: numbers in base ten, integers, by the program.
-/
import Derived.Test.YtgejbndgakgfnaaGreatDoorDG
import Derived.Test.YtgejbndgakgfnaaGreatDoorRTA
import Derived.Test.YtgejbndgakgfnaaGreatDoorZ2
namespace Go.Proofs.YtgejbndgakgfnaaGreatDoor
open Go Go.RowKit Ab
set_option linter.unusedSimpArgs false
set_option linter.unusedVariables false
set_option maxHeartbeats 10000000
theorem bz_RT : type_of% (And.intro @W_len (And.intro @D_len (And.intro @Nat.div_one (And.intro @Nat.mul_one (And.intro @tn_nat (And.intro @W_nf (And.intro @D_nf (And.intro @W_nil (And.intro @D_nil (And.intro @wi (And.intro @nf_g (And.intro @Bool.false_and (And.intro @W_cell (@W_get)))))))))))))) := And.intro @W_len (And.intro @D_len (And.intro @Nat.div_one (And.intro @Nat.mul_one (And.intro @tn_nat (And.intro @W_nf (And.intro @D_nf (And.intro @W_nil (And.intro @D_nil (And.intro @wi (And.intro @nf_g (And.intro @Bool.false_and (And.intro @W_cell (@W_get)))))))))))))
def chr (d : Nat) : UInt8 := (48 + d).toUInt8
def decS (u : Nat) : List UInt8 := if u = 0 then [48] else (dg 10 u).reverse.map chr
theorem chr_n {d : Nat} (h : d < 10) : ((chr d).toNat : Nat) = 48 + d := by
  unfold chr
  rw [Nat.toUInt8_eq, UInt8.toNat_ofNat']
  omega
theorem dg_lt_ten (u : Nat) : ∀ d, d ∈ dg 10 u → d < 10 := dg_Lt (by decide) u
theorem dg_len10 {u n : Nat} (h : u < 2 ^ n) : (dg 10 u).length ≤ n := by
  rcases Nat.eq_zero_or_pos (dg 10 u).length with h0 | h0
  · omega
  · have h1 := nv_top (b := 10) (tz_dg' (b := 10) u) (fun e => by rw [e] at h0; cases h0)
    rw [nv_dg (by decide)] at h1
    have h2 : 2 ^ ((dg 10 u).length - 1) ≤ 10 ^ ((dg 10 u).length - 1) := Nat.pow_le_pow_left (by decide) _
    have h3 : 2 ^ ((dg 10 u).length - 1) < 2 ^ n := by omega
    have := (Nat.pow_lt_pow_iff_right (by decide : 1 < 2)).1 h3
    omega
theorem B_two (m : Nat) : B ^ m = 2 ^ (64 * m) := by rw [Nat.pow_mul]; rfl
theorem decS_len {u m : Nat} (h : u < B ^ m) : (decS u).length ≤ 64 * m + 1 := by
  unfold decS
  split
  · simp
  · rw [List.length_map, List.length_reverse]
    have := dg_len10 (by rw [← B_two]; exact h : u < 2 ^ (64 * m))
    omega
theorem Bt_set (l : List UInt8) (i : Nat) (c : UInt8) : (Bt l).set i (.i .u8 (c.toNat : Int)) = Bt (l.set i c) := by simp [Bt]
theorem mk_Bt (n : Nat) : (List.replicate n [V.i .u8 0]).flatten = Bt (List.replicate n 0) := by
  induction n with
  | zero => rfl
  | succ n ih => rw [List.replicate_succ, List.flatten_cons, ih]; rfl
theorem tab_ten : ∀ d : Nat, d < 10 → (match tab_0.getD d .un with | .i .u8 n => decide (n = ((48 + d : Nat) : Int)) | _ => false) = true := by decide +kernel
theorem tab_chr {d : Nat} (h : d < 10) : tab_0.getD d .un = .i .u8 ((chr d).toNat : Int) := by
  have := tab_ten d h
  rw [chr_n h]
  split at this
  · rename_i n e; rw [e]; simp at this; rw [this]; rfl
  · cases this
theorem rev_set {l : List Nat} {i : Nat} (hi : i < l.length) : (List.replicate (l.length - i) (0 : UInt8) ++ (l.take i).reverse.map chr).set (l.length - 1 - i) (chr (l.getD i 0)) = List.replicate (l.length - (i + 1)) 0 ++ (l.take (i + 1)).reverse.map chr := by
  have e1 : l.length - i = (l.length - (i + 1)) + 1 := by omega
  rw [List.take_succ_eq_append_getElem hi, List.reverse_append, List.reverse_singleton, List.singleton_append, List.map_cons, e1, List.replicate_succ', List.append_assoc, List.set_append_right _ _ (by rw [List.length_replicate]; omega), List.length_replicate, show l.length - 1 - i - (l.length - (i + 1)) = 0 from by omega]
  rw [List.getD_eq_getElem?_getD, List.getElem?_eq_getElem hi]
  rfl
theorem rev_len {l : List Nat} {i : Nat} (hi : i ≤ l.length) : (List.replicate (l.length - i) (0 : UInt8) ++ (l.take i).reverse.map chr).length = l.length := by
  rw [List.length_append, List.length_replicate, List.length_map, List.length_reverse, List.length_take]; omega
theorem text_spec (a : List Nat) (m : Nat) (hm : m ≤ 10000000) (ha : Wd a) (la : a.length ≤ m) : AFun Tryz.prog J0 68 [.l 1 (W a), .i .i64 10] (.s (decS (nv B a))) := by
  have hd := digs_spec a 10 ha (by decide) (by omega)
  rw [show dgE 10 = 0 from rfl, show dgD (nv B a) 10 = dg 10 (nv B a) from rfl] at hd
  have hl := dg_len10 (by rw [← B_two]; exact nvlt ha la : nv B a < 2 ^ (64 * m))
  have hlt := dg_lt_ten (nv B a)
  have hn : dg 10 (nv B a) = [] ↔ nv B a = 0 := dg_nil (by decide)
  unfold decS
  by_cases h0 : nv B a = 0
  · rw [if_pos h0]
    rw [hn.2 h0] at hd
    have omap : ∀ x : List UInt8, (some x).map V.s = some (.s x) := fun _ => rfl
    have e1 : bytesOf (List.take (Int.toNat 1) tab_0) = some [48] := by decide +kernel
    have e2 : tab_0.length = 36 := rfl
    refine mkQ fol J0s Tryz.func68 a68 ?_
    unfold a68
    simp only [init_eq, initE, qm, qr, qn]
    exact wdQ (ai @omap (ai @e2 (ai @e1 @bz_RT)))
  · rw [if_neg h0]
    generalize dg 10 (nv B a) = l at *
    have hl0 : l ≠ [] := fun h => h0 (hn.1 h)
    have hp : ¬ (l.length : Int) = 0 := by have := List.length_pos_iff.2 hl0; omega
    have omap : ∀ x : List UInt8, (some x).map V.s = some (.s x) := fun _ => rfl
    have htl : tab_0.length = 36 := rfl
    refine mkQ fol J0s Tryz.func68 a68 ?_
    unfold a68
    simp only [init_eq, initE, qm, qr, qn]
    refine wkQ (ai @hp @bz_RT) ?_
    refine vm_loopA [] Nat (fun i => ⟨[(5, .l 1 (W l)), (7, .ow 1 0 l.length), (25, .l 1 (W l)), (26, .i .i64 (l.length : Int)), (27, .i .i64 (i : Int))], [(0, some ⟨5, 1, Bt (List.replicate (l.length - i) 0 ++ (l.take i).reverse.map chr), true, false⟩)], 1⟩)
      (fun i => i ≤ l.length) (fun i => l.length - i) 0 (Nat.zero_le _) (by exact leQ) (by
      simp (disch := (first | omega | assumption)) only [Sl, Sa, Sw, ↓reduceIte, Nat.reduceEqDiff, Nat.reduceLT, List.all_nil, List.all_cons, Nat.reduceBneDiff, Nat.reduceAdd, bne_iff_ne, ne_eq, reduceCtorEq, not_false_eq_true, not_true_eq_false, Bool.and_true, Bool.true_and, and_true, true_and, and_self, i_eq]
      refine ⟨?_, by rw [Nat.sub_zero, List.take_zero, List.reverse_nil, List.map_nil, List.append_nil]; exact mk_Bt _⟩
      rfl) ?_
    intro i hi Q' hQ he hr
    by_cases h : (i : Int) < (l.length : Int)
    · have hi' : i < l.length := by omega
      have hdi : l.getD i 0 < 10 := by
        rw [List.getD_eq_getElem?_getD, List.getElem?_eq_getElem hi']; exact hlt _ (List.getElem_mem _)
      have ht := tab_chr hdi
      have hset := rev_set hi'
      have hll := rev_len (l := l) (i := i) hi
      have h36 : (((l.getD i 0 : Nat) : Int)) < 36 := by omega
      have w1 : IntKind.i64.wrap ((l.length : Int) - 1) = ((l.length - 1 : Nat) : Int) := by rw [wi (by omega)]; omega
      have w2 : IntKind.i64.wrap (((l.length - 1 : Nat) : Int) - (i : Int)) = ((l.length - 1 - i : Nat) : Int) := by rw [wi (by omega)]; omega
      have hlt2 : ((l.length - 1 - i : Nat) : Int) < (l.length : Int) := by omega
      have hb := Bt_set (List.replicate (l.length - i) 0 ++ (l.take i).reverse.map chr) (l.length - 1 - i) (chr (l.getD i 0))
      rw [hset] at hb
      have hBl : (Bt (List.replicate (l.length - i) 0 ++ (l.take i).reverse.map chr)).length = l.length := by rw [Bt_len, hll]
      generalize Bt (List.replicate (l.length - i) 0 ++ (l.take i).reverse.map chr) = bt at *
      refine spQ (ai @hb (ai @hBl (ai @Nat.zero_add (ai @h36 (ai @htl (ai @ht (ai @hlt2 (ai @w2 (ai @w1 (ai @h @bz_RT)))))))))) ?_
      refine hQ _ (i + 1) (by omega) (by omega) ?_
      exact ltQ
    · obtain rfl : i = l.length := by omega
      have e : List.replicate (l.length - l.length) (0 : UInt8) ++ (l.take l.length).reverse.map chr = l.reverse.map chr := by rw [Nat.sub_self, List.take_length]; rfl
      rw [e]
      have hby := bytesOf_Bt (l.reverse.map chr)
      refine spQ (ai @h @bz_RT) ?_
      refine he _ _ ?_
      refine spQ (ai @omap (ai @hby @bz_RT)) ?_
      exact rtQ @bz_RT
theorem format_spec (a : List Nat) (m : Nat) (hm : m ≤ 10000000) (ha : Wd a) (la : a.length ≤ m) : AFun Tryz.prog J0 52 [.l 1 (W a)] (.s (decS (nv B a))) := by
  have h := text_spec a m hm ha la
  generalize decS (nv B a) = c at *
  refine mkQ fol J0s Tryz.func52 a52 ?_
  unfold a52
  simp only [init_eq, initE, qm, qr, qn]
  exact wdQ @bz_RT
theorem zN_neg {z : Int} (h : z < 0) : zN z = .g [.b true, .l 1 (W (dg B z.natAbs))] := by show V.g [.b (decide (z < 0)), _] = _; rw [decide_eq_true h]
theorem zN_pos {z : Int} (h : ¬ z < 0) : zN z = .g [.b false, .l 1 (W (dg B z.natAbs))] := by show V.g [.b (decide (z < 0)), _] = _; rw [decide_eq_false h]
def zS (z : Int) : List UInt8 := if z < 0 then 45 :: decS z.natAbs else decS z.natAbs
theorem zS_len {z : Int} {m : Nat} (h : z.natAbs < B ^ m) : (zS z).length ≤ 64 * m + 2 := by
  have := decS_len h
  unfold zS
  split
  · rw [List.length_cons]; omega
  · omega
theorem zprint_spec (s : Bool) (a : List Nat) (m : Nat) (hm : m ≤ 10000000) (ha : Wd a) (la : a.length ≤ m) : AFun Tryz.prog J0 51 [zL s a] (.s (zS (zv s a))) := by
  have h1 := znorm_spec s a ha (by omega)
  have b1 := zv_lt (s := s) ha la
  unfold zS
  generalize zv s a = z at *
  have h2 := format_spec (dg B z.natAbs) m hm (Wd_dg _) (dlen b1)
  rw [nv_dgB] at h2
  have l2 := decS_len b1
  generalize decS z.natAbs = c at *
  by_cases h : z < 0
  · rw [if_pos h]
    rw [zN_neg h] at h1
    have e1 : ([45] : List UInt8).length + c.length ≤ 9223372036854775807 := by rw [List.length_singleton]; omega
    have e2 : ([45] : List UInt8) ++ c = 45 :: c := rfl
    refine mkQ fol J0s Tryz.func51 a51 ?_
    unfold a51
    simp only [init_eq, initE, qm, qr, qn]
    exact wdQ (ai @e2 (ai @e1 @bz_RT))
  · rw [if_neg h]
    rw [zN_pos h] at h1
    refine mkQ fol J0s Tryz.func51 a51 ?_
    unfold a51
    simp only [init_eq, initE, qm, qr, qn]
    exact wdQ @bz_RT
end Go.Proofs.YtgejbndgakgfnaaGreatDoor
