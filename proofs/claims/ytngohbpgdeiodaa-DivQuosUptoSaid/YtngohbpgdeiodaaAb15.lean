/-
  The abstract layer: the laws of the walk in two bundles.
-/
import Derived.Test.YtngohbpgdeiodaaAb14
namespace Go.Proofs.Ytngohbpgdeiodaa.Ab
set_option linter.unusedSimpArgs false
set_option linter.unusedVariables false
open Go Go.RowKit

theorem lk_eq (k : Nat) (v : V) (r : List (Nat × V)) (t : Nat) : lk ((k, v) :: r) t = if k = t then v else lk r t := rfl
theorem nil_app (l : List (Nat × Option Ob)) : [] ++ l = l := rfl
theorem cons_app (x : Nat × Option Ob) (l r : List (Nat × Option Ob)) : (x :: l) ++ r = x :: (l ++ r) := rfl
/-! ### readings -/
def rdo : Option Ob → V
  | some o => if o.isv then .any else .l o.sz o.cs
  | none => .any
def rds (off n : Nat) : Option Ob → V
  | some o => if o.isv then .any else .l o.sz ((o.cs.drop off).take (n * o.sz))
  | none => .any
def fro (id : Nat) : Option Ob → List (Nat × Option Ob)
  | some o => [(id, some { o with mu := false })]
  | none => []
def oks (off n : Nat) : Option Ob → Prop
  | some o => off + n * o.sz ≤ o.cs.length
  | none => False
section
variable {ob : Nat → Option Ob} {z : Nat}
theorem rdo_s {e sz : Nat} {cs : List V} {mu : Bool} : rdo (some ⟨e, sz, cs, mu, false⟩) = .l sz cs := rfl
theorem rds_s {off n e sz : Nat} {cs : List V} {mu : Bool} : rds off n (some ⟨e, sz, cs, mu, false⟩) = .l sz ((cs.drop off).take (n * sz)) := rfl
theorem fro_s {id e sz : Nat} {cs : List V} {mu v : Bool} : fro id (some ⟨e, sz, cs, mu, v⟩) = [(id, some ⟨e, sz, cs, false, v⟩)] := rfl
theorem oks_s {off n e sz : Nat} {cs : List V} {mu v : Bool} : oks off n (some ⟨e, sz, cs, mu, v⟩) = (off + n * sz ≤ cs.length) := rfl
theorem rd_i {k : IntKind} {n : Int} : rd ob z (.i k n) = .i k n := rfl
theorem rd_b {x : Bool} : rd ob z (.b x) = .b x := rfl
theorem rd_s {l : List UInt8} : rd ob z (.s l) = .s l := rfl
theorem rd_l {s : Nat} {cs : List V} : rd ob z (.l s cs) = .l s cs := rfl
theorem rd_g {cs : List V} : rd ob z (.g cs) = .g cs := rfl
theorem rd_t {cs : List V} : rd ob z (.t cs) = .t cs := rfl
theorem rd_ip {cs : List V} {k : Nat} : rd ob z (.ip cs k) = .ip cs k := rfl
theorem rd_c {v : Value} : rd ob z (.c v) = .c v := rfl
theorem rd_nl : rd ob z .nl = .l z [] := rfl
theorem rd_ow {s id n : Nat} : rd ob z (.ow s id n) = rdo (ob id) := by simp only [rd, rdo]; cases ob id <;> rfl
theorem rd_sl {s id off n : Nat} : rd ob z (.sl s id off n) = rds off n (ob id) := by simp only [rd, rds]; cases ob id <;> rfl
theorem okR_i {k : IntKind} {n : Int} : okR ob (.i k n) = True := rfl
theorem okR_b {x : Bool} : okR ob (.b x) = True := rfl
theorem okR_s {l : List UInt8} : okR ob (.s l) = True := rfl
theorem okR_l {s : Nat} {cs : List V} : okR ob (.l s cs) = True := rfl
theorem okR_g {cs : List V} : okR ob (.g cs) = True := rfl
theorem okR_t {cs : List V} : okR ob (.t cs) = True := rfl
theorem okR_ip {cs : List V} {k : Nat} : okR ob (.ip cs k) = True := rfl
theorem okR_c {v : Value} : okR ob (.c v) = True := rfl
theorem okR_nl : okR ob .nl = True := rfl
theorem okR_ow {s id n : Nat} : okR ob (.ow s id n) = True := rfl
theorem okR_sl {s id off n : Nat} : okR ob (.sl s id off n) = oks off n (ob id) := by simp only [okR, oks]; cases ob id <;> rfl
theorem okRs_nil : okRs ob [] = True := rfl
theorem okRs_cons {v : V} {r : List V} : okRs ob (v :: r) = (okR ob v ∧ okRs ob r) := rfl
theorem frz_i {k : IntKind} {n : Int} : frz ob (.i k n) = [] := rfl
theorem frz_b {x : Bool} : frz ob (.b x) = [] := rfl
theorem frz_str {l : List UInt8} : frz ob (.s l) = [] := rfl
theorem frz_l {s : Nat} {cs : List V} : frz ob (.l s cs) = [] := rfl
theorem frz_g {cs : List V} : frz ob (.g cs) = [] := rfl
theorem frz_t {cs : List V} : frz ob (.t cs) = [] := rfl
theorem frz_ip {cs : List V} {k : Nat} : frz ob (.ip cs k) = [] := rfl
theorem frz_c {v : Value} : frz ob (.c v) = [] := rfl
theorem frz_nl : frz ob .nl = [] := rfl
theorem frz_ow {s id n : Nat} : frz ob (.ow s id n) = fro id (ob id) := by simp only [frz, fro]; cases ob id <;> rfl
theorem frz_sl {s id off n : Nat} : frz ob (.sl s id off n) = fro id (ob id) := by simp only [frz, fro]; cases ob id <;> rfl
theorem okA_i {k : IntKind} {n : Int} : V.okArg (.i k n) = true := rfl
theorem okA_b {x : Bool} : V.okArg (.b x) = true := rfl
theorem okA_s {l : List UInt8} : V.okArg (.s l) = true := rfl
theorem okA_l {s : Nat} {cs : List V} : V.okArg (.l s cs) = true := rfl
theorem okA_g {cs : List V} : V.okArg (.g cs) = true := rfl
theorem okA_ip {cs : List V} {k : Nat} : V.okArg (.ip cs k) = true := rfl
theorem okA_c {v : Value} : V.okArg (.c v) = true := rfl
theorem cells_g {cs : List V} : V.cells (.g cs) = cs := rfl
theorem cells_i {k : IntKind} {n : Int} : V.cells (.i k n) = [.i k n] := rfl
theorem cells_b {x : Bool} : V.cells (.b x) = [.b x] := rfl
theorem cells_s {l : List UInt8} : V.cells (.s l) = [.s l] := rfl
theorem cells_l {s : Nat} {cs : List V} : V.cells (.l s cs) = [.l s cs] := rfl
theorem cells_c {v : Value} : V.cells (.c v) = [.c v] := rfl
theorem cell_i {k : IntKind} {n : Int} : V.cell (.i k n) = true := rfl
theorem cell_b {x : Bool} : V.cell (.b x) = true := rfl
theorem cell_s {l : List UInt8} : V.cell (.s l) = true := rfl
theorem cell_l {s : Nat} {cs : List V} : V.cell (.l s cs) = true := rfl
theorem sA_nil {cs : List V} {k : Nat} : setAt cs k [] = cs := rfl
theorem sA_cons {cs : List V} {k : Nat} {v : V} {r : List V} : setAt cs k (v :: r) = setAt (cs.set k v) (k + 1) r := rfl
theorem sAll_nil {cs : List V} : setAll cs [] = cs := rfl
theorem sAll_cons {cs : List V} {k : Nat} {vs : List V} {r : List (Nat × List V)} : setAll cs ((k, vs) :: r) = setAll (setAt cs k vs) r := rfl
theorem fA_nil {n : Nat} : fitAll n [] = true := rfl
theorem fA_cons {n k : Nat} {vs : List V} {r : List (Nat × List V)} : fitAll n ((k, vs) :: r) = (decide (k + vs.length ≤ n) && vs.all V.cell && fitAll n r) := rfl
theorem all_nil (p : V → Bool) : ([] : List V).all p = true := rfl
theorem all_cons (p : V → Bool) (v : V) (r : List V) : (v :: r).all p = (p v && r.all p) := rfl
theorem allq_nil (p : Nat × Option Ob → Bool) : ([] : List (Nat × Option Ob)).all p = true := rfl
theorem allq_cons (p : Nat × Option Ob → Bool) (v : Nat × Option Ob) (r : List (Nat × Option Ob)) : (v :: r).all p = (p v && r.all p) := rfl
theorem len_nil : ([] : List V).length = 0 := rfl
theorem len_cons (v : V) (r : List V) : (v :: r).length = r.length + 1 := rfl
theorem set_z (v u : V) (r : List V) : (v :: r).set 0 u = u :: r := rfl
theorem set_s (v u : V) (r : List V) (n : Nat) : (v :: r).set (n + 1) u = v :: r.set n u := rfl
theorem getD_z (v u : V) (r : List V) : (v :: r).getD 0 u = v := rfl
theorem getD_s (v u : V) (r : List V) (n : Nat) : (v :: r).getD (n + 1) u = r.getD n u := rfl
end
section
variable {F G : Nat → List V → V → Prop} {dr m : Bool} {d : Option Nat} {r : List AO} {s : St} {K : St → Prop}
theorem bld_eq {ob : Nat → Option Ob} {zero : List V} {ps : List (Nat × Nat × V)} : bldp F G dr m ob zero ps d r s K = chk (okRs ob (ps.map fun p => p.2.2) ∧ fitAll zero.length (ps.map fun p => (p.1, (rd ob 1 p.2.2).cells)) = true ∧ (ps.all fun p => (rd ob 1 p.2.2).cells.length == p.2.1) = true)
    (fin F G dr m d (.g (setAll zero (ps.map fun p => (p.1, (rd ob 1 p.2.2).cells)))) (ps.flatMap fun p => frz ob p.2.2) r s K) := rfl
theorem bsl_eq {ob : Nat → Option Ob} {e sz n : Nat} {zero : List V} {ps : List (Nat × V)} : bslp F G dr m ob e sz n zero ps d r s K = chk (okRs ob (ps.map fun p => p.2) ∧ fitAll zero.length (ps.map fun p => (p.1 * sz, (rd ob 1 p.2).cells)) = true ∧ (ps.all fun p => (rd ob 1 p.2).cells.length == sz) = true)
    (fin F G dr m d (.ow sz s.nx n) ((s.nx, some { e, sz, cs := setAll zero (ps.map fun p => (p.1 * sz, (rd ob 1 p.2).cells)), mu := true, isv := false }) :: ps.flatMap fun p => frz ob p.2) r s K) := rfl
end

/-! ### lists in a value -/
def V.nf : V → Bool
  | .i _ _ | .b _ | .s _ => false
  | _ => true
def anyNF : List V → Bool
  | [] => false
  | v :: r => v.nf || anyNF r
theorem anyNF_eq (cs : List V) : (cs.any fun x => match x with | .i _ _ | .b _ | .s _ => false | _ => true) = anyNF cs := by
  induction cs with
  | nil => rfl
  | cons v r ih => simp only [List.any_cons, anyNF, ih]; cases v <;> rfl
theorem hasL_t {cs : List V} : V.hasL (.t cs) = anyNF cs := anyNF_eq cs
theorem hasL_g {cs : List V} : V.hasL (.g cs) = anyNF cs := anyNF_eq cs
theorem hasL_o {e z : Nat} {cs : List V} : V.hasL (.o e z cs) = anyNF cs := anyNF_eq cs
theorem aNF_nil : anyNF [] = false := rfl
theorem aNF_cons {v : V} {r : List V} : anyNF (v :: r) = (v.nf || anyNF r) := rfl
theorem nf_i {k : IntKind} {n : Int} : V.nf (.i k n) = false := rfl
theorem nf_b {x : Bool} : V.nf (.b x) = false := rfl
theorem nf_s {l : List UInt8} : V.nf (.s l) = false := rfl
theorem nf_l {z : Nat} {cs : List V} : V.nf (.l z cs) = true := rfl
theorem nf_g {cs : List V} : V.nf (.g cs) = true := rfl
theorem nf_c {v : Value} : V.nf (.c v) = true := rfl
theorem or_f (x : Bool) : (false || x) = x := rfl
theorem or_t (x : Bool) : (true || x) = true := rfl

theorem rl_i {nx : Nat} {k : IntKind} {n : Int} : V.refLe nx (.i k n) = true := rfl
theorem rl_b {nx : Nat} {x : Bool} : V.refLe nx (.b x) = true := rfl
theorem rl_s {nx : Nat} {l : List UInt8} : V.refLe nx (.s l) = true := rfl
theorem rl_l {nx z : Nat} {cs : List V} : V.refLe nx (.l z cs) = true := rfl
theorem rl_g {nx : Nat} {cs : List V} : V.refLe nx (.g cs) = true := rfl
theorem rl_t {nx : Nat} {cs : List V} : V.refLe nx (.t cs) = true := rfl
theorem rl_ip {nx : Nat} {cs : List V} {k : Nat} : V.refLe nx (.ip cs k) = true := rfl
theorem rl_nl {nx : Nat} : V.refLe nx .nl = true := rfl
theorem rl_un {nx : Nat} : V.refLe nx .un = true := rfl
theorem rl_any {nx : Nat} : V.refLe nx .any = true := rfl
theorem rl_c {nx : Nat} {v : Value} : V.refLe nx (.c v) = true := rfl
theorem rl_ow {nx z j n : Nat} (h : j ≤ nx) : V.refLe nx (.ow z j n) = true := by simp [V.refLe, h]
theorem rl_sl {nx z j off n : Nat} (h : j ≤ nx) : V.refLe nx (.sl z j off n) = true := by simp [V.refLe, h]
theorem rl_pt {nx j off : Nat} (h : j ≤ nx) : V.refLe nx (.pt j off) = true := by simp [V.refLe, h]

/-- Operations, states. -/
theorem Sw : type_of% (And.intro (@hasL_t) (
  And.intro (@hasL_g) (
  And.intro (@hasL_o) (
  And.intro (@aNF_nil) (
  And.intro (@aNF_cons) (
  And.intro (@nf_i) (
  And.intro (@nf_b) (
  And.intro (@nf_s) (
  And.intro (@nf_l) (
  And.intro (@nf_g) (
  And.intro (@nf_c) (
  And.intro (@or_f) (
  And.intro (@or_t) (
  And.intro (@rl_i) (
  And.intro (@rl_b) (
  And.intro (@rl_s) (
  And.intro (@rl_l) (
  And.intro (@rl_g) (
  And.intro (@rl_t) (
  And.intro (@rl_ip) (
  And.intro (@rl_nl) (
  And.intro (@rl_un) (
  And.intro (@rl_any) (
  And.intro (@rl_c) (
  And.intro (@rl_ow) (
  And.intro (@rl_sl) (
  And.intro (@rl_pt) (
  And.intro (@rdo_s) (
  And.intro (@rds_s) (
  And.intro (@fro_s) (
  And.intro (@oks_s) (
  And.intro (@rd_i) (
  And.intro (@rd_b) (
  And.intro (@rd_s) (
  And.intro (@rd_l) (
  And.intro (@rd_g) (
  And.intro (@rd_t) (
  And.intro (@rd_ip) (
  And.intro (@rd_c) (
  And.intro (@rd_nl) (
  And.intro (@rd_ow) (
  And.intro (@rd_sl) (
  And.intro (@okR_i) (
  And.intro (@okR_b) (
  And.intro (@okR_s) (
  And.intro (@okR_l) (
  And.intro (@okR_g) (
  And.intro (@okR_t) (
  And.intro (@okR_ip) (
  And.intro (@okR_c) (
  And.intro (@okR_nl) (
  And.intro (@okR_ow) (
  And.intro (@okR_sl) (
  And.intro (@okRs_nil) (
  And.intro (@okRs_cons) (
  And.intro (@frz_i) (
  And.intro (@frz_b) (
  And.intro (@frz_str) (
  And.intro (@frz_l) (
  And.intro (@frz_g) (
  And.intro (@frz_t) (
  And.intro (@frz_ip) (
  And.intro (@frz_c) (
  And.intro (@frz_nl) (
  And.intro (@frz_ow) (
  And.intro (@frz_sl) (
  And.intro (@okA_i) (
  And.intro (@okA_b) (
  And.intro (@okA_s) (
  And.intro (@okA_l) (
  And.intro (@okA_g) (
  And.intro (@okA_ip) (
  And.intro (@okA_c) (
  And.intro (@cells_g) (
  And.intro (@cells_i) (
  And.intro (@cells_b) (
  And.intro (@cells_s) (
  And.intro (@cells_l) (
  And.intro (@cells_c) (
  And.intro (@cell_i) (
  And.intro (@cell_b) (
  And.intro (@cell_s) (
  And.intro (@cell_l) (
  And.intro (@sA_nil) (
  And.intro (@sA_cons) (
  And.intro (@sAll_nil) (
  And.intro (@sAll_cons) (
  And.intro (@fA_nil) (
  And.intro (@fA_cons) (
  And.intro (@all_nil) (
  And.intro (@all_cons) (
  And.intro (@allq_nil) (
  And.intro (@allq_cons) (
  And.intro (@len_nil) (
  And.intro (@len_cons) (
  And.intro (@set_z) (
  And.intro (@set_s) (
  And.intro (@getD_z) (
  And.intro (@getD_s) (
  And.intro (@bld_eq) (
  And.intro (@bsl_eq) (
  And.intro (@rg_nil) (
  And.intro (@rg_cons) (
  And.intro (@rg_consg) (
  And.intro (@gdo_tt) (
  And.intro (@gdo_ft) (
  And.intro (@gdo_tf) (
  And.intro (@gdo_ff) (
  And.intro (@gdo_un) (
  And.intro (@fin_f) (
  And.intro (@fin_t) (
  And.intro (@ldp_f) (
  And.intro (@ldp_t) (
  And.intro (@stp_s) (
  And.intro (@appq_s) (
  And.intro (@appp_nl) (
  And.intro (@appp_ow) (
  And.intro (@go_mv) (
  And.intro (@go_pick_t) (
  And.intro (@go_pick_f) (
  And.intro (@go_bin_add) (
  And.intro (@go_bin_sub) (
  And.intro (@go_bin_mul) (
  And.intro (@go_bin_and) (
  And.intro (@go_bin_or) (
  And.intro (@go_bin_xor) (
  And.intro (@go_bin_andNot) (
  And.intro (@go_bin_eql) (
  And.intro (@go_bin_neq) (
  And.intro (@go_bin_lss) (
  And.intro (@go_bin_leq) (
  And.intro (@go_bin_gtr) (
  And.intro (@go_bin_geq) (
  And.intro (@go_bin_quo) (
  And.intro (@go_bin_rem) (
  And.intro (@go_bin_shl) (
  And.intro (@go_bin_shr) (
  And.intro (@go_str_add) (
  And.intro (@go_str_eql) (
  And.intro (@go_str_neq) (
  And.intro (@go_eqb) (
  And.intro (@go_un_not) (
  And.intro (@go_un_neg) (
  And.intro (@go_un_xor) (
  And.intro (@go_cvt) (
  And.intro (@go_six) (
  And.intro (@go_idx_l) (
  And.intro (@go_idx_ow) (
  And.intro (@go_idx_sl) (
  And.intro (@go_ld_ip) (
  And.intro (@go_ldg_ip) (
  And.intro (@go_ld_pt) (
  And.intro (@go_st_pt) (
  And.intro (@go_fad_pt) (
  And.intro (@go_fad_ip) (
  And.intro (@go_fld) (
  And.intro (@go_fldg) (
  And.intro (@go_bld) (
  And.intro (@go_bsl) (
  And.intro (@go_mk) (
  And.intro (@go_sub_l0) (
  And.intro (@go_sub_l1) (
  And.intro (@go_sub_l2) (
  And.intro (@go_sub_l3) (
  And.intro (@go_sub_ow0) (
  And.intro (@go_sub_ow1) (
  And.intro (@go_sub_ow2) (
  And.intro (@go_sub_ow3) (
  And.intro (@go_sub_sl0) (
  And.intro (@go_sub_sl1) (
  And.intro (@go_sub_sl2) (
  And.intro (@go_sub_sl3) (
  And.intro (@go_sub_nl0) (
  And.intro (@go_sub_nl1) (
  And.intro (@go_sub_nl2) (
  And.intro (@go_sub_nl3) (
  And.intro (@go_ssub0) (
  And.intro (@go_ssub1) (
  And.intro (@go_ssub2) (
  And.intro (@go_ssub3) (
  And.intro (@go_slen) (
  And.intro (@go_len_l) (
  And.intro (@go_len_ow) (
  And.intro (@go_len_sl) (
  And.intro (@go_len_nl) (
  And.intro (@go_app) (
  And.intro (@go_al) (
  And.intro (@go_ext) (
  And.intro (@go_nc_pt) (
  And.intro (@go_nc_ip) (
  And.intro (@go_mm) (
  And.intro (@go_call) (
  And.intro (@go_xcall) (
  And.intro (@go_isn_nl) (
  And.intro (@go_isn_l) (
  And.intro (@go_isn_ow) (
  And.intro (@clr_o) (
  And.intro (@clr_i) (
  And.intro (@clr_b) (
  And.intro (@clr_s) (
  And.intro (@clr_l) (
  And.intro (@clr_t) (
  And.intro (@clr_g) (
  And.intro (@aft_s) (
  And.intro (@aft_n) (
  And.intro (@val_t) (
  And.intro (@val_k) (
  And.intro (@get_t) (
  And.intro (@ob_t) (
  And.intro (@nx_t) (
  And.intro (@lo_cons) (
  And.intro (@lo_nil) (
  And.intro (@chk_true) (
  And.intro (@chk_and) (
  And.intro (@lk_eq) (
  And.intro (@nil_app) (
  And.intro (@cons_app) (
  And.intro (@decide_true) (
  @decide_false))))))))))))))))))))))))))))))))))))))))))))))))))))))))))))))))))))))))))))))))))))))))))))))))))))))))))))))))))))))))))))))))))))))))))))))))))))))))))))))))))))))))))))))))))))))))))))))))))))))))))))))))))))))))))) :=
  And.intro (@hasL_t) (
  And.intro (@hasL_g) (
  And.intro (@hasL_o) (
  And.intro (@aNF_nil) (
  And.intro (@aNF_cons) (
  And.intro (@nf_i) (
  And.intro (@nf_b) (
  And.intro (@nf_s) (
  And.intro (@nf_l) (
  And.intro (@nf_g) (
  And.intro (@nf_c) (
  And.intro (@or_f) (
  And.intro (@or_t) (
  And.intro (@rl_i) (
  And.intro (@rl_b) (
  And.intro (@rl_s) (
  And.intro (@rl_l) (
  And.intro (@rl_g) (
  And.intro (@rl_t) (
  And.intro (@rl_ip) (
  And.intro (@rl_nl) (
  And.intro (@rl_un) (
  And.intro (@rl_any) (
  And.intro (@rl_c) (
  And.intro (@rl_ow) (
  And.intro (@rl_sl) (
  And.intro (@rl_pt) (
  And.intro (@rdo_s) (
  And.intro (@rds_s) (
  And.intro (@fro_s) (
  And.intro (@oks_s) (
  And.intro (@rd_i) (
  And.intro (@rd_b) (
  And.intro (@rd_s) (
  And.intro (@rd_l) (
  And.intro (@rd_g) (
  And.intro (@rd_t) (
  And.intro (@rd_ip) (
  And.intro (@rd_c) (
  And.intro (@rd_nl) (
  And.intro (@rd_ow) (
  And.intro (@rd_sl) (
  And.intro (@okR_i) (
  And.intro (@okR_b) (
  And.intro (@okR_s) (
  And.intro (@okR_l) (
  And.intro (@okR_g) (
  And.intro (@okR_t) (
  And.intro (@okR_ip) (
  And.intro (@okR_c) (
  And.intro (@okR_nl) (
  And.intro (@okR_ow) (
  And.intro (@okR_sl) (
  And.intro (@okRs_nil) (
  And.intro (@okRs_cons) (
  And.intro (@frz_i) (
  And.intro (@frz_b) (
  And.intro (@frz_str) (
  And.intro (@frz_l) (
  And.intro (@frz_g) (
  And.intro (@frz_t) (
  And.intro (@frz_ip) (
  And.intro (@frz_c) (
  And.intro (@frz_nl) (
  And.intro (@frz_ow) (
  And.intro (@frz_sl) (
  And.intro (@okA_i) (
  And.intro (@okA_b) (
  And.intro (@okA_s) (
  And.intro (@okA_l) (
  And.intro (@okA_g) (
  And.intro (@okA_ip) (
  And.intro (@okA_c) (
  And.intro (@cells_g) (
  And.intro (@cells_i) (
  And.intro (@cells_b) (
  And.intro (@cells_s) (
  And.intro (@cells_l) (
  And.intro (@cells_c) (
  And.intro (@cell_i) (
  And.intro (@cell_b) (
  And.intro (@cell_s) (
  And.intro (@cell_l) (
  And.intro (@sA_nil) (
  And.intro (@sA_cons) (
  And.intro (@sAll_nil) (
  And.intro (@sAll_cons) (
  And.intro (@fA_nil) (
  And.intro (@fA_cons) (
  And.intro (@all_nil) (
  And.intro (@all_cons) (
  And.intro (@allq_nil) (
  And.intro (@allq_cons) (
  And.intro (@len_nil) (
  And.intro (@len_cons) (
  And.intro (@set_z) (
  And.intro (@set_s) (
  And.intro (@getD_z) (
  And.intro (@getD_s) (
  And.intro (@bld_eq) (
  And.intro (@bsl_eq) (
  And.intro (@rg_nil) (
  And.intro (@rg_cons) (
  And.intro (@rg_consg) (
  And.intro (@gdo_tt) (
  And.intro (@gdo_ft) (
  And.intro (@gdo_tf) (
  And.intro (@gdo_ff) (
  And.intro (@gdo_un) (
  And.intro (@fin_f) (
  And.intro (@fin_t) (
  And.intro (@ldp_f) (
  And.intro (@ldp_t) (
  And.intro (@stp_s) (
  And.intro (@appq_s) (
  And.intro (@appp_nl) (
  And.intro (@appp_ow) (
  And.intro (@go_mv) (
  And.intro (@go_pick_t) (
  And.intro (@go_pick_f) (
  And.intro (@go_bin_add) (
  And.intro (@go_bin_sub) (
  And.intro (@go_bin_mul) (
  And.intro (@go_bin_and) (
  And.intro (@go_bin_or) (
  And.intro (@go_bin_xor) (
  And.intro (@go_bin_andNot) (
  And.intro (@go_bin_eql) (
  And.intro (@go_bin_neq) (
  And.intro (@go_bin_lss) (
  And.intro (@go_bin_leq) (
  And.intro (@go_bin_gtr) (
  And.intro (@go_bin_geq) (
  And.intro (@go_bin_quo) (
  And.intro (@go_bin_rem) (
  And.intro (@go_bin_shl) (
  And.intro (@go_bin_shr) (
  And.intro (@go_str_add) (
  And.intro (@go_str_eql) (
  And.intro (@go_str_neq) (
  And.intro (@go_eqb) (
  And.intro (@go_un_not) (
  And.intro (@go_un_neg) (
  And.intro (@go_un_xor) (
  And.intro (@go_cvt) (
  And.intro (@go_six) (
  And.intro (@go_idx_l) (
  And.intro (@go_idx_ow) (
  And.intro (@go_idx_sl) (
  And.intro (@go_ld_ip) (
  And.intro (@go_ldg_ip) (
  And.intro (@go_ld_pt) (
  And.intro (@go_st_pt) (
  And.intro (@go_fad_pt) (
  And.intro (@go_fad_ip) (
  And.intro (@go_fld) (
  And.intro (@go_fldg) (
  And.intro (@go_bld) (
  And.intro (@go_bsl) (
  And.intro (@go_mk) (
  And.intro (@go_sub_l0) (
  And.intro (@go_sub_l1) (
  And.intro (@go_sub_l2) (
  And.intro (@go_sub_l3) (
  And.intro (@go_sub_ow0) (
  And.intro (@go_sub_ow1) (
  And.intro (@go_sub_ow2) (
  And.intro (@go_sub_ow3) (
  And.intro (@go_sub_sl0) (
  And.intro (@go_sub_sl1) (
  And.intro (@go_sub_sl2) (
  And.intro (@go_sub_sl3) (
  And.intro (@go_sub_nl0) (
  And.intro (@go_sub_nl1) (
  And.intro (@go_sub_nl2) (
  And.intro (@go_sub_nl3) (
  And.intro (@go_ssub0) (
  And.intro (@go_ssub1) (
  And.intro (@go_ssub2) (
  And.intro (@go_ssub3) (
  And.intro (@go_slen) (
  And.intro (@go_len_l) (
  And.intro (@go_len_ow) (
  And.intro (@go_len_sl) (
  And.intro (@go_len_nl) (
  And.intro (@go_app) (
  And.intro (@go_al) (
  And.intro (@go_ext) (
  And.intro (@go_nc_pt) (
  And.intro (@go_nc_ip) (
  And.intro (@go_mm) (
  And.intro (@go_call) (
  And.intro (@go_xcall) (
  And.intro (@go_isn_nl) (
  And.intro (@go_isn_l) (
  And.intro (@go_isn_ow) (
  And.intro (@clr_o) (
  And.intro (@clr_i) (
  And.intro (@clr_b) (
  And.intro (@clr_s) (
  And.intro (@clr_l) (
  And.intro (@clr_t) (
  And.intro (@clr_g) (
  And.intro (@aft_s) (
  And.intro (@aft_n) (
  And.intro (@val_t) (
  And.intro (@val_k) (
  And.intro (@get_t) (
  And.intro (@ob_t) (
  And.intro (@nx_t) (
  And.intro (@lo_cons) (
  And.intro (@lo_nil) (
  And.intro (@chk_true) (
  And.intro (@chk_and) (
  And.intro (@lk_eq) (
  And.intro (@nil_app) (
  And.intro (@cons_app) (
  And.intro (@decide_true) (
  @decide_false))))))))))))))))))))))))))))))))))))))))))))))))))))))))))))))))))))))))))))))))))))))))))))))))))))))))))))))))))))))))))))))))))))))))))))))))))))))))))))))))))))))))))))))))))))))))))))))))))))))))))))))))))))))))))

/-! ### a round's end -/
section
variable {s : St} {r : List (Nat × Nat)} {nx t : Nat}
theorem le_mk {env : List (Nat × V)} {obs : List (Nat × Option Ob)} : s.le r ⟨env, obs, nx⟩ = (leE s r nx env ∧ leO s r nx obs ∧ leN r obs) := rfl
theorem leE_nil : leE s r nx [] = True := rfl
theorem leE_cons {v : V} {l : List (Nat × V)} : leE s r nx ((t, v) :: l) = (leV s r nx t v ∧ leE s r nx l) := rfl
theorem leO_nil : leO s r nx [] = True := rfl
theorem leO_cons {o : Option Ob} {l : List (Nat × Option Ob)} : leO s r nx ((t, o) :: l) = (t < nx ∧ s.ob (rn r t) = o ∧ leO s r nx l) := rfl
theorem leN_nil : leN r [] = True := rfl
theorem leN_cons {o : Option Ob} {l : List (Nat × Option Ob)} : leN r ((t, o) :: l) = ((l.all fun p => rn r p.1 != rn r t) = true ∧ leN r l) := rfl
theorem rn_nil : rn [] t = t := rfl
theorem rn_cons {k v : Nat} : rn ((k, v) :: r) t = if k = t then v else rn r t := rfl
theorem leV_any : leV s r nx t .any = True := rfl
theorem leV_i {k : IntKind} {n : Int} : leV s r nx t (.i k n) = (s.get t = .i k n) := rfl
theorem leV_b {x : Bool} : leV s r nx t (.b x) = (s.get t = .b x) := rfl
theorem leV_s {l : List UInt8} : leV s r nx t (.s l) = (s.get t = .s l) := rfl
theorem leV_l {z : Nat} {cs : List V} : leV s r nx t (.l z cs) = (s.get t = .l z cs) := rfl
theorem leV_g {cs : List V} : leV s r nx t (.g cs) = (s.get t = .g cs) := rfl
theorem leV_t {cs : List V} : leV s r nx t (.t cs) = (s.get t = .t cs) := rfl
theorem leV_nl : leV s r nx t .nl = (s.get t = .nl) := rfl
theorem leV_c {v : Value} : leV s r nx t (.c v) = (s.get t = .c v) := rfl
theorem leV_ow {z i n : Nat} : leV s r nx t (.ow z i n) = (i < nx ∧ s.get t = .ow z (rn r i) n) := rfl
theorem leV_sl {z i off n : Nat} : leV s r nx t (.sl z i off n) = (i < nx ∧ asSl (s.get t) = .sl z (rn r i) off n) := rfl
theorem leV_pt {i off : Nat} : leV s r nx t (.pt i off) = (i < nx ∧ s.get t = .pt (rn r i) off) := rfl
theorem mats_nil : St.mats [] s = s := rfl
theorem mats_cons {e z : Nat} {env : List (Nat × V)} {obs : List (Nat × Option Ob)} {l : List (Nat × Nat × Nat)} : St.mats ((t, e, z) :: l) ⟨env, obs, nx⟩ = St.mats l ⟨(t, .ow z nx 0) :: env, (nx, some { e, sz := z, cs := [], mu := true, isv := false }) :: obs, nx + 1⟩ := rfl
theorem matOk_nil : St.matOk [] s = True := rfl
theorem matOk_cons {e z : Nat} {env : List (Nat × V)} {obs : List (Nat × Option Ob)} {l : List (Nat × Nat × Nat)} : St.matOk ((t, e, z) :: l) ⟨env, obs, nx⟩ = (lk env t = .nl ∧ 0 < z ∧ St.matOk l ⟨(t, .ow z nx 0) :: env, (nx, some { e, sz := z, cs := [], mu := true, isv := false }) :: obs, nx + 1⟩) := rfl
theorem ow_eq {z i n z' i' n' : Nat} : (V.ow z i n = V.ow z' i' n') = (z = z' ∧ i = i' ∧ n = n') := by simp
theorem i_eq {k k' : IntKind} {n n' : Int} : (V.i k n = V.i k' n') = (k = k' ∧ n = n') := by simp
theorem b_eq {x y : Bool} : (V.b x = V.b y) = (x = y) := by simp
theorem l_eq {z z' : Nat} {cs cs' : List V} : (V.l z cs = V.l z' cs') = (z = z' ∧ cs = cs') := by simp
theorem o_eq {e e' z z' : Nat} {cs cs' : List V} {m m' v v' : Bool} : ((some ⟨e, z, cs, m, v⟩ : Option Ob) = some ⟨e', z', cs', m', v'⟩) = (e = e' ∧ z = z' ∧ cs = cs' ∧ m = m' ∧ v = v') := by simp
end

/-- Code. -/
theorem Sv : type_of% (And.intro (@vm_nil) (
  And.intro (@vm_b) (
  And.intro (@vm_seq) (
  And.intro (@vm_blk) (
  And.intro (@vm_skip) (
  And.intro (@vm_ret) (
  And.intro (@vm_exit) (
  And.intro (@vmx_nil) (
  And.intro (@vmx_b) (
  And.intro (@vmx_c) (
  And.intro (@vm_cond) (
  And.intro (@vmc_t) (
  And.intro (@vmc_f) (
  And.intro (@val_t) (
  And.intro (@val_k) (
  @lk_eq)))))))))))))))) :=
  And.intro (@vm_nil) (
  And.intro (@vm_b) (
  And.intro (@vm_seq) (
  And.intro (@vm_blk) (
  And.intro (@vm_skip) (
  And.intro (@vm_ret) (
  And.intro (@vm_exit) (
  And.intro (@vmx_nil) (
  And.intro (@vmx_b) (
  And.intro (@vmx_c) (
  And.intro (@vm_cond) (
  And.intro (@vmc_t) (
  And.intro (@vmc_f) (
  And.intro (@val_t) (
  And.intro (@val_k) (
  @lk_eq)))))))))))))))

/-- A round's end. -/
theorem Sl : type_of% (And.intro (@mats_nil) (
  And.intro (@mats_cons) (
  And.intro (@matOk_nil) (
  And.intro (@matOk_cons) (
  And.intro (@le_mk) (
  And.intro (@leE_nil) (
  And.intro (@leE_cons) (
  And.intro (@leO_nil) (
  And.intro (@leO_cons) (
  And.intro (@leN_nil) (
  And.intro (@leN_cons) (
  And.intro (@rn_nil) (
  And.intro (@rn_cons) (
  And.intro (@leV_any) (
  And.intro (@leV_i) (
  And.intro (@leV_b) (
  And.intro (@leV_s) (
  And.intro (@leV_l) (
  And.intro (@leV_g) (
  And.intro (@leV_t) (
  And.intro (@leV_nl) (
  And.intro (@leV_c) (
  And.intro (@leV_ow) (
  And.intro (@leV_sl) (
  And.intro (@leV_pt) (
  And.intro (@ow_eq) (
  And.intro (@i_eq) (
  And.intro (@b_eq) (
  And.intro (@l_eq) (
  @o_eq)))))))))))))))))))))))))))))) :=
  And.intro (@mats_nil) (
  And.intro (@mats_cons) (
  And.intro (@matOk_nil) (
  And.intro (@matOk_cons) (
  And.intro (@le_mk) (
  And.intro (@leE_nil) (
  And.intro (@leE_cons) (
  And.intro (@leO_nil) (
  And.intro (@leO_cons) (
  And.intro (@leN_nil) (
  And.intro (@leN_cons) (
  And.intro (@rn_nil) (
  And.intro (@rn_cons) (
  And.intro (@leV_any) (
  And.intro (@leV_i) (
  And.intro (@leV_b) (
  And.intro (@leV_s) (
  And.intro (@leV_l) (
  And.intro (@leV_g) (
  And.intro (@leV_t) (
  And.intro (@leV_nl) (
  And.intro (@leV_c) (
  And.intro (@leV_ow) (
  And.intro (@leV_sl) (
  And.intro (@leV_pt) (
  And.intro (@ow_eq) (
  And.intro (@i_eq) (
  And.intro (@b_eq) (
  And.intro (@l_eq) (
  @o_eq)))))))))))))))))))))))))))))
/-! ### loops whose objects find their numbers by themselves -/
def fRc (i : Nat) (v : V) (l : List (Nat × Nat)) : List (Nat × Nat) :=
  match v with
  | .ow _ j _ | .sl _ j _ _ | .pt j _ => (i, j) :: l
  | _ => l
def fR (s : St) : List (Nat × V) → List (Nat × Nat)
  | [] => []
  | (t, .ow _ i _) :: r | (t, .sl _ i _ _) :: r | (t, .pt i _) :: r => fRc i (s.get t) (fR s r)
  | _ :: r => fR s r
def St.leA (s s' : St) : Prop := s.le (fR s s'.env) s'
section
variable {F G : Nat → List V → V → Prop} {s : St} {Q : Ex → St → Prop} {k : List Fr}
theorem leA_mk {env env' : List (Nat × V)} {obs obs' : List (Nat × Option Ob)} {nx nx' : Nat} : St.leA ⟨env, obs, nx⟩ ⟨env', obs', nx'⟩ = St.le ⟨env, obs, nx⟩ (fR ⟨env, obs, nx⟩ env') ⟨env', obs', nx'⟩ := rfl
theorem fR_nil : fR s [] = [] := rfl
theorem fR_ow {t z i n : Nat} {r : List (Nat × V)} : fR s ((t, .ow z i n) :: r) = fRc i (s.get t) (fR s r) := rfl
theorem fR_sl {t z i o n : Nat} {r : List (Nat × V)} : fR s ((t, .sl z i o n) :: r) = fRc i (s.get t) (fR s r) := rfl
theorem fR_pt {t i o : Nat} {r : List (Nat × V)} : fR s ((t, .pt i o) :: r) = fRc i (s.get t) (fR s r) := rfl
theorem fR_i {t : Nat} {k : IntKind} {n : Int} {r : List (Nat × V)} : fR s ((t, .i k n) :: r) = fR s r := rfl
theorem fR_b {t : Nat} {x : Bool} {r : List (Nat × V)} : fR s ((t, .b x) :: r) = fR s r := rfl
theorem fR_s {t : Nat} {l : List UInt8} {r : List (Nat × V)} : fR s ((t, .s l) :: r) = fR s r := rfl
theorem fR_l {t z : Nat} {cs : List V} {r : List (Nat × V)} : fR s ((t, .l z cs) :: r) = fR s r := rfl
theorem fR_g {t : Nat} {cs : List V} {r : List (Nat × V)} : fR s ((t, .g cs) :: r) = fR s r := rfl
theorem fR_t {t : Nat} {cs : List V} {r : List (Nat × V)} : fR s ((t, .t cs) :: r) = fR s r := rfl
theorem fR_nl {t : Nat} {r : List (Nat × V)} : fR s ((t, .nl) :: r) = fR s r := rfl
theorem fR_c {t : Nat} {v : Value} {r : List (Nat × V)} : fR s ((t, .c v) :: r) = fR s r := rfl
theorem fR_any {t : Nat} {r : List (Nat × V)} : fR s ((t, .any) :: r) = fR s r := rfl
theorem fRc_ow {i z j n : Nat} {l : List (Nat × Nat)} : fRc i (.ow z j n) l = (i, j) :: l := rfl
theorem fRc_sl {i z j o n : Nat} {l : List (Nat × Nat)} : fRc i (.sl z j o n) l = (i, j) :: l := rfl
theorem asSl_ow {z i n : Nat} : asSl (.ow z i n) = .sl z i 0 n := rfl
theorem asSl_sl {z i o n : Nat} : asSl (.sl z i o n) = .sl z i o n := rfl
theorem sl_eq {z i o n z' i' o' n' : Nat} : (V.sl z i o n = V.sl z' i' o' n') = (z = z' ∧ i = i' ∧ o = o' ∧ n = n') := by simp
theorem fRc_pt {i j o : Nat} {l : List (Nat × Nat)} : fRc i (.pt j o) l = (i, j) :: l := rfl
theorem Sa : type_of% (And.intro (@leA_mk) (And.intro (@fR_nil) (And.intro (@fR_ow) (And.intro (@fR_sl) (And.intro (@fR_pt) (And.intro (@fR_i) (And.intro (@fR_b) (And.intro (@fR_s) (And.intro (@fR_l) (And.intro (@fR_g) (And.intro (@fR_t) (And.intro (@fR_nl) (And.intro (@fR_c) (And.intro (@fR_any) (And.intro (@fRc_ow) (And.intro (@fRc_sl) (And.intro (@fRc_pt) (And.intro (@asSl_ow) (And.intro (@asSl_sl) (@sl_eq)))))))))))))))))))) :=
  And.intro (@leA_mk) (And.intro (@fR_nil) (And.intro (@fR_ow) (And.intro (@fR_sl) (And.intro (@fR_pt) (And.intro (@fR_i) (And.intro (@fR_b) (And.intro (@fR_s) (And.intro (@fR_l) (And.intro (@fR_g) (And.intro (@fR_t) (And.intro (@fR_nl) (And.intro (@fR_c) (And.intro (@fR_any) (And.intro (@fRc_ow) (And.intro (@fRc_sl) (And.intro (@fRc_pt) (And.intro (@asSl_ow) (And.intro (@asSl_sl) (@sl_eq)))))))))))))))))))
theorem vm_loopA {c : AC} (ms : List (Nat × Nat × Nat)) (X : Type) (mk : X → St) (I : X → Prop) (μ : X → Nat) (x0 : X) (h0 : I x0) (hms : St.matOk ms s) (hle : (St.mats ms s).leA (mk x0))
    (round : ∀ x, I x → ∀ Q' : Ex → St → Prop, (∀ s' x', I x' → μ x' < μ x → s'.leA (mk x') → Q' .normal s') → (∀ i s', vm.vmx F G i k Q s' → Q' (.exit i) s') → (∀ s', Q .ret s' → Q' .ret s') → vm F G [.c c] Q' (mk x)) :
    vm F G (.c (.loop c) :: k) Q s :=
  vm_loopM ms X mk I μ x0 _ h0 hms hle fun x hx Q' hQ he hr => round x hx Q' (fun s' x' h1 h2 h3 => hQ s' x' _ h1 h2 h3) he hr
/-- Rows that became nil again are taken for own rows at a round's end, too. -/
theorem vm_loopN {c : AC} (ms : List (Nat × Nat × Nat)) (X : Type) (mk : X → St) (I : X → Prop) (μ : X → Nat) (x0 : X) (h0 : I x0) (hms : St.matOk ms s) (hle : (St.mats ms s).leA (mk x0))
    (round : ∀ x, I x → ∀ Q' : Ex → St → Prop, (∀ s' ms' x', I x' → μ x' < μ x → St.matOk ms' s' → (St.mats ms' s').leA (mk x') → Q' .normal s') → (∀ i s', vm.vmx F G i k Q s' → Q' (.exit i) s') → (∀ s', Q .ret s' → Q' .ret s') → vm F G [.c c] Q' (mk x)) :
    vm F G (.c (.loop c) :: k) Q s :=
  vm_loopM' ms X mk I μ x0 _ h0 hms hle fun x hx Q' hQ he hr => round x hx Q' (fun s' ms' x' h1 h2 h3 h4 => hQ s' ms' x' _ h1 h2 h3 h4) he hr
end

/-! ### values alone, boxes -/
section
variable {F G : Nat → List V → V → Prop} {dr m : Bool} {d : Option Nat} {r : List AO} {s : St} {K : St → Prop} {ob : Nat → Option Ob}
theorem bxp_eq {e : Nat} {v : V} {cs : List V} : bxp F G dr m ob e v cs d r s K = chk (okR ob v ∧ cs.all V.cell = true) (fin F G dr m d (.pt s.nx 0) ((s.nx, some { e, sz := cs.length, cs := cs, mu := true, isv := true }) :: frz ob v) r s K) := rfl
theorem purp_eq {p : PO} {vs us : List V} : purp F G dr m p vs us d r s K = chk (okRs s.ob vs) (purq F G dr m (pureV p us) d r s K) := rfl
end
theorem pure_eqs {neg : Bool} {ks : List Nat} {xs ys : List V} : pureV (.eqs neg ks) [.g xs, .g ys] = (eqcs ks xs ys).map fun t => .b (if neg then !t else t) := rfl
theorem pure_b2s {cs : List V} : pureV .b2s [.l 1 cs] = (bytesOf cs).map .s := rfl
theorem pure_s2b {e : Nat} {l : List UInt8} (h : l.length ≤ 9223372036854775807) : pureV (.s2b e) [.s l] = some (.l 1 (Bt l)) := by simp [pureV, h]
theorem eqcs_nil : eqcs [] [] [] = some true := rfl
theorem eqcs_cons {k : Nat} {ks : List Nat} {x y : V} {r q : List V} : eqcs (k :: ks) (x :: r) (y :: q) = both (eqc k x y) (eqcs ks r q) := rfl
theorem both_ss {a b : Bool} : both (some a) (some b) = some (a && b) := rfl
theorem eqc_i {k : IntKind} {a b : Int} : eqc 1 (.i k a) (.i k b) = some (decide (a = b)) := by simp [eqc]
theorem eqc_b {a b : Bool} : eqc 0 (.b a) (.b b) = some (a == b) := rfl
theorem eqc_s {a b : List UInt8} : eqc 2 (.s a) (.s b) = some (a == b) := rfl
theorem bytesOf_Bt (l : List UInt8) : bytesOf (Bt l) = some l := by
  induction l with
  | nil => rfl
  | cons c r ih =>
    have h1 : (c.toNat : Int) < 256 := by have := c.toNat_lt; omega
    show (match bytesOf (Bt r) with | some l => if 0 ≤ (c.toNat : Int) ∧ (c.toNat : Int) < 256 then some (UInt8.ofNat (c.toNat : Int).toNat :: l) else none | none => none) = _
    rw [ih]
    simp only []
    rw [if_pos ⟨by omega, h1⟩]
    simp
theorem Bt_nil : Bt [] = [] := rfl
theorem Bt_len (l : List UInt8) : (Bt l).length = l.length := by simp [Bt]
theorem Bt_get (l : List UInt8) (i : Nat) (h : i < l.length) : (Bt l).getD i .un = .i .u8 ((l.getD i 0).toNat : Int) := by simp [Bt, List.getD_eq_getElem?_getD, h]
theorem Bt_cell (l : List UInt8) : (Bt l).all V.cell = true := by simp [Bt, V.cell]
theorem Bt_nf (l : List UInt8) : anyNF (Bt l) = false := by
  induction l with
  | nil => rfl
  | cons x r ih => simpa [Bt, anyNF, V.nf] using ih
theorem Sx : type_of% (And.intro (@go_cpy) (And.intro (@cpyp_sl) (And.intro (@cpyq_s) (And.intro (@asSl_ow) (And.intro (@asSl_sl) (And.intro (@clr_fr) (And.intro (@go_bx) (And.intro (@go_pur) (And.intro (@bxp_eq) (And.intro (@purp_eq) (And.intro (@purq_s) (And.intro (@pure_eqs) (And.intro (@pure_b2s) (And.intro (@eqcs_nil) (And.intro (@eqcs_cons) (And.intro (@both_ss) (And.intro (@eqc_i) (And.intro (@eqc_b) (And.intro (@eqc_s) (And.intro bytesOf_Bt (And.intro Bt_len Bt_nf))))))))))))))))))))) :=
  And.intro (@go_cpy) (And.intro (@cpyp_sl) (And.intro (@cpyq_s) (And.intro (@asSl_ow) (And.intro (@asSl_sl) (And.intro (@clr_fr) (And.intro (@go_bx) (And.intro (@go_pur) (And.intro (@bxp_eq) (And.intro (@purp_eq) (And.intro (@purq_s) (And.intro (@pure_eqs) (And.intro (@pure_b2s) (And.intro (@eqcs_nil) (And.intro (@eqcs_cons) (And.intro (@both_ss) (And.intro (@eqc_i) (And.intro (@eqc_b) (And.intro (@eqc_s) (And.intro bytesOf_Bt (And.intro Bt_len Bt_nf))))))))))))))))))))

/-! ### plain laws, in a bundle; a call in one step -/
theorem Sb : (∀ {α β : Type} {f : α → β}, List.map f [] = []) ∧ (∀ {α β : Type} {f : α → β} {a : α} {l : List α}, List.map f (a :: l) = f a :: List.map f l) ∧
    (∀ {α β : Type} {f : α → β} {a : α}, Option.map f (some a) = some (f a)) ∧ (∀ {α β : Type} {f : α → β}, Option.map f none = none) ∧
    (∀ {α : Type} {p : α → Bool}, List.all [] p = true) ∧ (∀ {α : Type} {p : α → Bool} {a : α} {l : List α}, List.all (a :: l) p = (p a && List.all l p)) ∧
    (∀ {α β : Type} {f : α → List β}, List.flatMap f [] = []) ∧ (∀ {α β : Type} {f : α → List β} {a : α} {l : List α}, List.flatMap f (a :: l) = f a ++ List.flatMap f l) ∧
    (∀ b : Bool, (b && true) = b) ∧ (∀ b : Bool, (true && b) = b) ∧ (∀ b : Bool, (b && b) = b) ∧ (∀ {α : Type} {a : α}, List.replicate 0 a = []) ∧ (∀ {α : Type}, ([] : List (List α)).flatten = []) ∧
    (∀ p : Prop, (p ∧ True) = p) ∧ (∀ p : Prop, (True ∧ p) = p) ∧ ((!true) = false) ∧ ((!false) = true) ∧ ((¬ True) = False) ∧ ((¬ False) = True) ∧
    (∀ {α : Type} {a : List α}, a ++ [] = a) ∧ (∀ n : Nat, (n ≤ n) = True) ∧ (∀ a : Int, - -a = a) ∧
    (∀ {α : Type} {a : List α}, a.drop 0 = a) ∧ (∀ {α : Type} {a : α} {l : List α} {n : Nat}, (a :: l).drop (n + 1) = l.drop n) ∧ (∀ {α : Type} {n : Nat}, ([] : List α).drop n = []) ∧
    (∀ {α : Type} {a : List α}, a.take 0 = []) ∧ (∀ {α : Type} {a : α} {l : List α} {n : Nat}, (a :: l).take (n + 1) = a :: l.take n) ∧ (∀ {α : Type} {n : Nat}, ([] : List α).take n = []) :=
  ⟨List.map_nil, List.map_cons, Option.map_some _ _, Option.map_none _, List.all_nil, List.all_cons, List.flatMap_nil, List.flatMap_cons, Bool.and_true, Bool.true_and, Bool.and_self, List.replicate_zero, List.flatten_nil,
    and_true, true_and, Bool.not_true, Bool.not_false, not_true_eq_false, not_false_eq_true, List.append_nil _, fun n => eq_true (Nat.le_refl n), Int.neg_neg, List.drop_zero, List.drop_succ_cons, List.drop_nil, List.take_zero, List.take_succ_cons, List.take_nil⟩

section
variable {F G : Nat → List V → V → Prop} {dr m : Bool} {d : Option Nat} {r : List AO} {s : St} {K : St → Prop}
theorem clp_of {f : Nat} {args : List (Nat × V)} (res : V) (vs : List V) (hf : F f vs res) (hv : (args.map fun p => rd s.ob p.1 p.2) = vs)
    (hk : chk (okRs s.ob (args.map fun p => p.2)) (chk ((args.all fun p => (rd s.ob p.1 p.2).okArg) = true) (clr F G dr m args res d r s K))) : clp F G dr m f args d r s K :=
  clp_mk res vs hk.1 hk.2.1 hv hf hk.2.2
/-- The same, nil told. -/
theorem clp_ofn {f : Nat} {args : List (Nat × V)} (res : V) (vs : List V) (hf : F f vs res) (hv : (args.map fun p => rdb true s.ob p.1 p.2) = vs)
    (hk : chk (okRs s.ob (args.map fun p => p.2)) (chk ((args.all fun p => (rd s.ob p.1 p.2).okArg) = true) (clr F G dr m args res d r s K))) : clp F G dr m f args d r s K :=
  ⟨⟨hk.1, hk.2.1⟩, true, res, hv ▸ hf, hk.2.2⟩
end
/-! ### a call, its arguments read first; the bundle of all -/
section
variable (F G : Nat → List V → V → Prop) (dr m : Bool)
def clq (f : Nat) (vs : List V) (args : List (Nat × V)) (d : Option Nat) (r : List AO) (s : St) (K : St → Prop) : Prop :=
  ∃ res, F f vs res ∧ chk (okRs s.ob (args.map fun p => p.2)) (chk ((args.all fun p => (rd s.ob p.1 p.2).okArg) = true) (clr F G dr m args res d r s K))
end
section
variable {F G : Nat → List V → V → Prop} {dr m : Bool} {d : Option Nat} {r : List AO} {s : St} {K : St → Prop}
theorem clp_q {f : Nat} {args : List (Nat × V)} (h : clq F G dr m f (args.map fun p => rd s.ob p.1 p.2) args d r s K) : clp F G dr m f args d r s K :=
  let ⟨res, hf, hk⟩ := h
  clp_of res _ hf rfl hk
theorem clq_mk {f : Nat} {vs : List V} {res : V} {args : List (Nat × V)} (hf : F f vs res) (hk : chk (okRs s.ob (args.map fun p => p.2)) (chk ((args.all fun p => (rd s.ob p.1 p.2).okArg) = true) (clr F G dr m args res d r s K))) : clq F G dr m f vs args d r s K := ⟨res, hf, hk⟩
end
theorem init_eq {args : List V} : initS args = ⟨initE 0 args, [], 0⟩ := rfl
theorem S0 : type_of% (And.intro Sw (And.intro Sx (And.intro Sb (And.intro (@pure_s2b) (And.intro (@decide_eq_true_eq) (And.intro (@decide_true) (And.intro (@decide_false) (And.intro (@chk_of) (@Int.cast_ofNat_Int))))))))) :=
  And.intro Sw (And.intro Sx (And.intro Sb (And.intro (@pure_s2b) (And.intro (@decide_eq_true_eq) (And.intro (@decide_true) (And.intro (@decide_false) (And.intro (@chk_of) (@Int.cast_ofNat_Int))))))))
end Go.Proofs.Ytngohbpgdeiodaa.Ab
