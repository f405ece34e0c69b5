/-
  The book: a polynomial is entered: the walk of the last region.
-/
import Derived.Test.YteaiegppmbcibaaBK4
import Derived.Test.YteaiegppmbcibaaBKA
namespace Go.Proofs.Yteaiegppmbcibaa
open Go Go.RowKit Go.Proofs Ab
set_option linter.unusedSimpArgs false
set_option linter.unusedVariables false
set_option maxHeartbeats 10000000
theorem bz_BK6 : type_of% (And.intro @W_len (And.intro @Nat.div_one (And.intro @Nat.mul_one (And.intro @tn_nat (And.intro @W_nf (And.intro @W_nil (And.intro @wi (And.intro @nf_g (And.intro @Bool.false_and (And.intro @W_cell (@ZC_cell))))))))))) := And.intro @W_len (And.intro @Nat.div_one (And.intro @Nat.mul_one (And.intro @tn_nat (And.intro @W_nf (And.intro @W_nil (And.intro @wi (And.intro @nf_g (And.intro @Bool.false_and (And.intro @W_cell (@ZC_cell))))))))))
def zK (n : Nat) (ls fs us : List V) (l m : Zl) (s : St) : Prop :=
  ∃ i4 i5, s.ob 0 = some ⟨33, 7, [.ow 1 1 n, .ow 1 2 n, .ow 1 3 n, .ow 1 i4 1, .nl, .ow 1 i5 1, .nl], true, true⟩ ∧ s.ob 1 = some ⟨55, 1, ls, true, false⟩ ∧ s.ob 2 = some ⟨55, 1, fs, true, false⟩ ∧ s.ob 3 = some ⟨55, 1, us, true, false⟩ ∧
    s.ob i4 = some ⟨22, 1, [.l 2 (ZC l)], true, false⟩ ∧ s.ob i5 = some ⟨22, 1, [.l 2 (ZC m)], true, false⟩ ∧ s.get 0 = .pt 0 0
def a5 : AC := .seq (.reg [qr 4 (.mv (.k .nl))])
 (.seq (.reg [qm 7 1,
 qr 8 (.len (.t 7)),
 qr 9 (.bin .add (.t 8) (.k (.i .i64 5))),
 qr 10 (.mk 58 2 32 [(.b false), (.l 1 [])] (.t 9) (.t 9)),
 qm 5 10])
 (.seq (.seq (.reg [qr 6 (.mv (.k (.i .i64 0)))])
 (.blk 0
 (.loop
 (.seq (.seq (.reg [qm 11 6,
 qm 12 1,
 qr 13 (.len (.t 12)),
 qr 14 (.bin .lss (.t 11) (.t 13))])
 (.cond (.t 14)
 (.skip)
 (.exit 0)))
 (.seq (.blk 1
 (.reg [qm 17 5,
 qm 18 6,
 qm 19 0,
 qm 20 1,
 qm 21 6,
 qr 22 (.idx 2 (.t 20) (.t 21)),
 qr 23 (.ld true 2 (.t 22)),
 qr 24 (.call 17 [(1, (.t 19)), (1, (.t 23))]),
 qr 25 (.idx 2 (.t 17) (.t 18)),
 qn (.st 2 (.t 25) (.t 24))]))
 (.reg [qm 15 6,
 qr 16 (.bin .add (.t 15) (.k (.i .i64 1))),
 qm 6 16]))))))
 (.seq (.dregx [(30, 35), (35, 40), (31, 40), (36, 40), (30, 42), (35, 42), (31, 42), (36, 42), (40, 42)] [qm 26 0,
 qm 27 0,
 qm 28 0,
 qr 29 (.nc (.t 28)),
 qr 30 (.fad 3 (.t 29)),
 qr 31 (.ld false 1 (.t 30)),
 qm 32 5,
 qm 33 1,
 qr 34 (.len (.t 33)),
 qr 35 (.sub 2 (.t 32) none (some (.t 34))),
 qr 36 (.bsl 22 1 1 [(.l 1 [])] [(0, (.t 35))]),
 qr 37 (.app 22 1 24 (.t 31) (.t 36)),
 qm 38 0,
 qr 39 (.nc (.t 38)),
 qr 40 (.fad 5 (.t 39)),
 qr 41 (.ld false 1 (.t 40)),
 qm 42 5,
 qr 43 (.bsl 22 1 1 [(.l 1 [])] [(0, (.t 42))]),
 qr 44 (.app 22 1 24 (.t 41) (.t 43)),
 qr 45 (.nc (.t 26)),
 qr 46 (.fad 3 (.t 45)),
 qn (.stk (.t 46) (.t 37)),
 qr 47 (.nc (.t 27)),
 qr 48 (.fad 5 (.t 47)),
 qn (.stk (.t 48) (.t 44))])
 (.seq (.reg [qm 49 5,
 qm 50 1,
 qr 51 (.len (.t 50)),
 qr 52 (.sub 2 (.t 49) none (some (.t 51))),
 qm 4 52])
 (.ret)))))
theorem zIn_walk (n : Nat) (ls fs us : List V) (l m : Zl) (hm : (ZC m).take (l.length * 2) = ZC l) (h5 : m.length = l.length + 5) (ll : l.length ≤ 1000) :
    avc (AFun Try.prog J0) (XFun Try.prog) a5.p2.p2.p2.p1 (fun ex s => ex = .normal ∧ zK n ls fs us l m s)
      ⟨[(0, .pt 0 0), (1, .l 2 (ZC l)), (5, .l 2 (ZC m))], [(0, some ⟨33, 7, [.ow 1 1 n, .ow 1 2 n, .ow 1 3 n, .nl, .nl, .nl, .nl], true, true⟩), (1, some ⟨55, 1, ls, true, false⟩), (2, some ⟨55, 1, fs, true, false⟩), (3, some ⟨55, 1, us, true, false⟩)], 4⟩ := by
  have hz := ZC_len l
  have hzm := ZC_len m
  have hd : l.length * 2 / 2 = l.length := by omega
  apply vm_start
  unfold a5
  simp only [init_eq, initE, qm, qr, qn, AC.p1, AC.p2]
  refine spQ (ai @hm (ai @hzm (ai @hd (ai @hz @bz_BK6)))) ?_
  exact ⟨trivial, 15, 22, rfl, rfl, rfl, rfl, rfl, rfl, rfl⟩
def bkV (ls fs us : List V) (l m : Zl) : List V := [.l 1 ls, .l 1 fs, .l 1 us, .l 1 [.l 2 (ZC l)], .l 1 [], .l 1 [.l 2 (ZC m)], .l 1 []]
theorem zK_fin {w0 w : World} {H0 : HS} {H : Nat → Prop} {ov : Nat → Option Value} {s : St} {n b : Nat} {ls fs us : List V} {l m : Zl} (hm : Mem w0 H0 w H ov s.ob) (hk : zK n ls fs us l m s) (hp : Rep w H ov (.pointer (some ⟨b, 0, none⟩)) (.pt 0 0)) :
    ∃ Hf, (∀ q, H q → Hf q) ∧ (∀ q, Hf q → q < w.heap.size) ∧ (∀ q, Hf q → H q ∨ w0.heap.size ≤ q ∨ H0.e q) ∧ TJ w Hf ∧ Rep0 w Hf (.pointer (some ⟨b, 0, none⟩)) (.ip (bkV ls fs us l m) 0) := by
  obtain ⟨i4, i5, o0, o1, o2, o3, o4, o5, _⟩ := hk
  have fr : ∀ {k : Nat} {o : Ob}, s.ob k = some o → ∃ o', s.ob k = some o' ∧ (some { o with mu := false } : Option Ob) = some { o' with mu := false } := fun h => ⟨_, h, rfl⟩
  obtain ⟨Hf, e, mf, f1, f2⟩ := hm.freeze (up := [(0, some { (⟨33, 7, [.ow 1 1 n, .ow 1 2 n, .ow 1 3 n, .ow 1 i4 1, .nl, .ow 1 i5 1, .nl], true, true⟩ : Ob) with mu := false }), (1, some { (⟨55, 1, ls, true, false⟩ : Ob) with mu := false }), (2, some { (⟨55, 1, fs, true, false⟩ : Ob) with mu := false }), (3, some { (⟨55, 1, us, true, false⟩ : Ob) with mu := false }), (i4, some { (⟨22, 1, [.l 2 (ZC l)], true, false⟩ : Ob) with mu := false }), (i5, some { (⟨22, 1, [.l 2 (ZC m)], true, false⟩ : Ob) with mu := false })]) (fun k x h => by
    simp only [List.mem_cons, Prod.mk.injEq, List.not_mem_nil, or_false] at h
    rcases h with ⟨rfl, rfl⟩ | ⟨rfl, rfl⟩ | ⟨rfl, rfl⟩ | ⟨rfl, rfl⟩ | ⟨rfl, rfl⟩ | ⟨rfl, rfl⟩
    · exact fr o0
    · exact fr o1
    · exact fr o2
    · exact fr o3
    · exact fr o4
    · exact fr o5)
  obtain ⟨b', u, eb, hu, hbu⟩ := hp.inv_pt
  cases eb
  obtain ⟨u', hu', hor⟩ := hm.obj 0 _ o0
  rw [hu] at hu'; cases hu'
  refine ⟨Hf, e.hH, mf.Hlt, fun q hq => ?_, mf.tj, ?_⟩
  · rcases f2 q hq with h | ⟨k, x, v, h1, h2, h3⟩
    · exact .inl h
    · right
      have key : ∀ {o : Ob}, s.ob k = some o → w0.heap.size ≤ q ∨ H0.e q := fun ho => by
        obtain ⟨v', hv', hr⟩ := hm.obj k _ ho
        rw [h2] at hv'; cases hv'
        exact hr.ow q h3
      simp only [List.mem_cons, Prod.mk.injEq, List.not_mem_nil, or_false] at h1
      rcases h1 with ⟨rfl, _⟩ | ⟨rfl, _⟩ | ⟨rfl, _⟩ | ⟨rfl, _⟩ | ⟨rfl, _⟩ | ⟨rfl, _⟩
      · exact key o0
      · exact key o1
      · exact key o2
      · exact key o3
      · exact key o4
      · exact key o5
  · have cel : ∀ (j : Nat) (x : V), ([.ow 1 1 n, .ow 1 2 n, .ow 1 3 n, .ow 1 i4 1, .nl, .ow 1 i5 1, .nl] : List V)[j]? = some x → ∃ y, w.cell? ⟨b, 0 + j, none⟩ = some y ∧ Rep w H ov y x := fun j x hx => by
      obtain ⟨b2, y, h1, h2, _, h3, _⟩ := hor.cell (j := j) hx
      rw [hbu] at h1; cases h1
      rw [Nat.zero_add]; exact ⟨y, h2, h3⟩
    have row : ∀ {k e2 : Nat} {cs : List V} {y : Value} {c : Nat}, s.ob k = some ⟨e2, 1, cs, true, false⟩ → (∀ v q, ov k = some v → blk v = some q → Hf q) → Rep w H ov y (.ow 1 k c) → Rep0 w Hf y (.l 1 cs) := fun {k e2 cs y c} ho hq hy => by
      have h := rd_rep (H' := Hf) hm (sz := 1) Nat.one_pos hy trivial (.inl (by simp [rd, ho, V.okArg])) e.hH (fun k' z v q h1 h2 h3 => by
        simp only [frz, ho, List.mem_singleton, Prod.mk.injEq] at h1
        obtain ⟨rfl, _⟩ := h1
        exact hq v q h2 h3)
      simpa [rd, ho] using h
    refine .ip _ 0 (fun j => (w.cell? ⟨b, 0 + j, none⟩).getD undef) b 0 (f1 0 _ u b List.mem_cons_self hu hbu) (fun j hj => ?_) (fun j x hx => ?_)
    · have hj' : j < 7 := hj
      obtain ⟨y, h1, _⟩ := cel j _ (List.getElem?_eq_getElem (show j < ([.ow 1 1 n, .ow 1 2 n, .ow 1 3 n, .ow 1 i4 1, .nl, .ow 1 i5 1, .nl] : List V).length from hj'))
      rw [h1]; rfl
    · match j, hx with
      | 0, hx => cases hx; obtain ⟨y, h1, h2⟩ := cel 0 _ rfl; rw [h1]; exact row o1 (fun v q h3 h4 => f1 1 _ v q (.tail _ (.head _)) h3 h4) h2
      | 1, hx => cases hx; obtain ⟨y, h1, h2⟩ := cel 1 _ rfl; rw [h1]; exact row o2 (fun v q h3 h4 => f1 2 _ v q (.tail _ (.tail _ (.head _))) h3 h4) h2
      | 2, hx => cases hx; obtain ⟨y, h1, h2⟩ := cel 2 _ rfl; rw [h1]; exact row o3 (fun v q h3 h4 => f1 3 _ v q (.tail _ (.tail _ (.tail _ (.head _)))) h3 h4) h2
      | 3, hx => cases hx; obtain ⟨y, h1, h2⟩ := cel 3 _ rfl; rw [h1]; exact row o4 (fun v q h3 h4 => f1 i4 _ v q (.tail _ (.tail _ (.tail _ (.tail _ (.head _))))) h3 h4) h2
      | 4, hx => cases hx; obtain ⟨y, h1, h2⟩ := cel 4 _ rfl; rw [h1, h2.inv_nl]; exact .l none 0 0 1 [] (fun _ => undef) 0 0 Nat.one_pos rfl (Nat.zero_le _) (Nat.le_refl _) (.inl rfl) (fun j hj => absurd hj (Nat.not_lt_zero j)) (fun j x hx => by simp at hx)
      | 5, hx => cases hx; obtain ⟨y, h1, h2⟩ := cel 5 _ rfl; rw [h1]; exact row o5 (fun v q h3 h4 => f1 i5 _ v q (.tail _ (.tail _ (.tail _ (.tail _ (.tail _ (.head _)))))) h3 h4) h2
      | 6, hx => cases hx; obtain ⟨y, h1, h2⟩ := cel 6 _ rfl; rw [h1, h2.inv_nl]; exact .l none 0 0 1 [] (fun _ => undef) 0 0 Nat.one_pos rfl (Nat.zero_le _) (Nat.le_refl _) (.inl rfl) (fun j hj => absurd hj (Nat.not_lt_zero j)) (fun j x hx => by simp at hx)
end Go.Proofs.Yteaiegppmbcibaa
