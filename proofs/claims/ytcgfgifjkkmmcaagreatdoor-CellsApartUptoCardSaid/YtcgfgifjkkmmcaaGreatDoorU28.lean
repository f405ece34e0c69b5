import Derived.Maps.AppendAt
import Derived.LoopN
import Derived.Test.YtcgfgifjkkmmcaaGreatDoorCards
import Derived.Test.YtcgfgifjkkmmcaaGreatDoorTie
import Derived.Deep.DeepHandedRow
import Derived.Lib.LaidTab
import Derived.Test.YtcgfgifjkkmmcaaGreatDoorU27
set_option linter.all false
set_option maxHeartbeats 10000000
set_option maxRecDepth 2000000
namespace Go.Proofs.YtcgfgifjkkmmcaaGreatDoor
section
open Go Go.RowKit Go.Proofs Ab
variable {w0 w:World} {b:Nat} {rs:Rs} {vl vf vu:Value} {es:List Ro} {Us:List Value} {X:Nat→Prop}
def Zr(es:List Ro)(q:Nat):Prop:=∃e,e∈es∧q=e.1
theorem BN(h:NB w0 w b rs vl vf vu es Us X)(hr:∀e,e∈es→uu w e.1 e.2.2.length e.2.1∧e.2.2.length≤1000000000)(h0:0<es.length)(hm:es.length≤1000):
 Calls Tryz.prog 21 #[.pointer (some ⟨b,0,none⟩)] w (fun e w'=>e= .returned (.tuple #[])∧aI w (Zr es) w'∧∀e,e∈es→uu w' e.1 e.2.2.length e.2.1):=by
 have hb:=h.bn
 obtain⟨gU,lT,Zg⟩:=kT hb.rl (by simpa using h0)
 obtain⟨Jk,vfc,Zh⟩:=kT hb.rf (by simpa using h0)
 have nqb:∀e,e∈es→b≠e.1∧gU≠e.1∧Jk≠e.1:=fun e he=>⟨fun h2=>h.nq e he (.inl h2.symm),fun h2=>h.nq e he (.inr (.inl (by rw[Zg,h2];rfl))),fun h2=>h.nq e he (.inr (.inr (.inl (by rw[Zh,h2];rfl))))⟩
 obtain⟨bcap,hbox⟩:=hb.box
 have hb0:=hbox.cellAt 0 dc
 have hb1:=hbox.cellAt 1 dc
 rw[List.getElem?_cons_zero]at hb0
 rw[List.getElem?_cons_succ,List.getElem?_cons_zero]at hb1
 have hrl:=hb.rl
 have hrf:=hb.rf
 rw[Zg]at hrl
 rw[Zh]at hrf
 have hcl:=fun j=>hrl.cellAt j
 have hcf:=fun j=>hrf.cellAt j
 have ltb:b<w.heap.size:=hb.lt b (.inl rfl)
 have ltl:gU<w.heap.size:=hb.lt gU (.inr (.inl (by rw[Zg];rfl)))
 have ltf:Jk<w.heap.size:=hb.lt Jk (.inr (.inr (.inl (by rw[Zh];rfl))))
 have ltr:∀e,e∈es→e.1<w.heap.size:=fun e he=>(h.lt he).2
 have ds:=h.ds
 rw[Zg]at hb0
 rw[Zh]at hb1
 simp only[List.length_map]at hb0 hb1 hcl hcf
 clear hb hbox h Zg Zh hrl hrf
 refine dm (vs:=[.pointer (some ⟨b,0,none⟩)]) Tryz.func21 (c:=qf Tryz.f21) rfl (by show 1≤_;decide) fun a0 z0 e0 d0=>?_
 have e0:a0.tmps.getD 0 undef= .pointer (some ⟨b,0,none⟩):=e0 0 (by show 0<1;decide)
 change a0.tmps.size=56 at z0
 refine wp_seq_k fun K0 hK0=>?_
 have hk0:=PLift.up hK0
 clear hK0
 refine wp_region_lit ?_
 go_wp2
 refine hk0.down _ _ ?_
 clear hk0
 refine wp_block ?_
 refine wp_loop (fun a' wr=>∃k:Nat,k≤es.length∧a'.tmps.size=56∧a'.tmps.getD 0 undef= .pointer (some ⟨b,0,none⟩)∧a'.tmps.getD 2 undef= .int .i64 (k:Int)∧a'.defers=[]∧aI w (Zr es) wr∧∀e,e∈es→uu wr e.1 e.2.2.length e.2.1)
  (fun a' _=>es.length-(intOf (a'.tmps.getD 2 undef)).toNat) ?_ ?_
 ·refine⟨0,Nat.zero_le _,by simp[z0],?_,?_,by first|rfl|exact d0,aI.refl _ _,fun e he=>(hr e he).1⟩
  ·dsimp only;rw[ae dc];exact e0
  ·dsimp only;rw[aA (by simp[z0])];rfl
 ·rintro a' wr ⟨k,hk,hz,h0,h2,hd,hbel,hrow⟩;have blk0:∀q,q<w.heap.size→(∀e,e∈es→q≠e.1)→wr.heap[q]? =w.heap[q]? :=fun q hq h1=>hbel.block q hq (fun⟨e,he,h⟩=>h1 e he h)
  have f0:=(aN (i:=0) (blk0 b ltb fun e he=>(nqb e he).1)).trans hb0;have f1:=(aN (i:=1) (blk0 b ltb fun e he=>(nqb e he).1)).trans hb1;have f2:=(aN (i:=k) (blk0 gU ltl fun e he=>(nqb e he).2.1));have f3:=(aN (i:=k) (blk0 Jk ltf fun e he=>(nqb e he).2.2));have hsz:=hbel.size;refine wp_seq ?_;refine Rz hz h0 h2 f1 om (fun hlt a1 z1 g0 g2 d1=>?_) (fun hge a1 d1=>?_)
  ·have hlt':k<es.length:=om;have hck:=hcl k om;have hfk:=hcf k om;rw[List.getElem?_map,List.getElem?_eq_getElem hlt',Option.map_some]at hck hfk;have hmem:es[k]∈es:=List.getElem_mem hlt';have hall:∀j (hj:j<es.length),j≠k→es[j].1≠es[k].1:=fun j hj hne=>by
    rcases Nat.lt_or_gt_of_ne hne with h|h
    ·exact List.pairwise_iff_getElem.1 ds j k hj hlt' h
    ·exact fun e=>List.pairwise_iff_getElem.1 ds k j hlt' hj h e.symm
   have hoth:∀e,e∈es→e=es[k]∨e.1≠es[k].1:=fun e he=>by
    obtain⟨j,hj,rfl⟩:=List.getElem_of_mem he;by_cases hjk:j=k
    ·subst hjk;exact .inl rfl
    ·exact .inr (hall j hj hjk)
   generalize es[k]=x at hck hfk hmem hoth;obtain⟨n1,n2,n3⟩:=nqb x hmem;refine wp_seq ?_;refine RD z1 g0 g2 f0 f1 om om om om (f2.trans hck) (f3.trans hfk) (hr x hmem).2 (hrow x hmem) n1 n2 n3 om om om fun a2 w2 z2 j0 j2 d2 bel2 s1'=>?_
   refine Ry z2 j2 om fun a3 z3 s3 j3 d3=>?_
   refine⟨⟨k+1,om,z3,(s3 0 dc).trans j0,by rw[j3];rfl,d3.trans (d2.trans (d1.trans hd)),sH hbel bel2 (fun q hq=>⟨x,hmem,hq⟩),fun e he=>?_⟩,?_⟩
   ·rcases hoth e he with rfl|hne
    ·exact s1'
    ·exact(hrow e he).keep (bel2.block e.1 (by have:=ltr e he;omega) hne)
   ·rw[j3,h2];simp only[intOf];omega
  ·exact⟨d1.trans hd,_,aV (show bG Tryz.f21.results.toList=some []from rfl) _ _,rfl,hbel,hrow⟩
end
section
open Go Go.RowKit Go.Proofs Ab
variable {w0 w w':World} {γ:Gh} {N i c:Nat} {R:Nat→Option Δ} {Bx:Bs} {F:Nat→Prop} {P:Program}
def X9(P:Program)(ty:TypeId):Bool:=match P.underlying ty with
 |some (.slice _)=>true
 |_=>false
def slE(P:Program)(ty:TypeId)(s:Nat):Bool:=match P.underlying ty with
 |some (.slice e)=>(match P.info? e with
  |some ti=>Nat.beq ti.size s
  |none=>false)
 |_=>false
def cvB(P:Program)(src d:TypeId)(k:IntKind):Bool:=(P.underlying src).isSome&&(match P.underlying d with
 |some (.int k')=>decide (k'=k)
 |_=>false)
section
variable {dst:Option Tmp} {x y:Operand} {ty t:TypeId} {p:String} {e:Array Edge} {gd:Option (Nat×Bool)} {q k n m c' j s:Nat} {ad:Option Addr} {kk:IntKind} {z:Int} {d d2:Δ}
theorem Ui(hu:X9 P ty=true){n m:Nat}(w:World):(Builtin.len_ #[ty] t #[.slice ad n m]).run P w= .ok (.int .i64 (n:Int)) w:=by
 unfold X9 at hu;split at hu
 ·rename_i el hel;simp[Builtin.len_,run_underlying hel,goInt]
 ·cases hu
theorem Zi(h:bI R x (.k (.slice ad n m)))(hu:X9 P ty=true):Ok P w0 N ⟨dst,.call ⟨.builtin .len,#[x],#[ty]⟩,t,p,e,gd⟩ i R Bx (.k (.int .i64 (n:Int))) none:=
 mD fun γ w a hR _=>by
  have h2:a.eval x= .slice ad n m:=h.ev hR;exact⟨_,by simp[execOp,resolve,invoke,builtin,h2,Ui hu,Result.andThen],rfl⟩
theorem ok_ls(h:bI R x (.sl j n m))(hu:X9 P ty=true):Ok P w0 N ⟨dst,.call ⟨.builtin .len,#[x],#[ty]⟩,t,p,e,gd⟩ i R Bx (.k (.int .i64 (n:Int))) none:=
 mD fun γ w a hR _=>by
  obtain⟨b,_,h2⟩:=h.ev hR;exact⟨_,by simp[execOp,resolve,invoke,builtin,h2,Ui hu,Result.andThen],rfl⟩
theorem Zj(hu:slE P ty s=true){b n m:Nat}(hz:(decide (0≤z)&&decide (z<(n:Int)))=true)(w:World):(Instr.indexAt ty (.slice (some ⟨b,0,none⟩) n m) (.int kk z)).run P w= .ok (.pointer (some ⟨b,z.toNat*s,none⟩)) w:=by
 unfold slE at hu;simp only[Bool.and_eq_true,decide_eq_true_eq]at hz;split at hu
 ·rename_i el hel;split at hu
  ·rename_i ti hti;have hs:=Nat.eq_of_beq_eq_true hu;have he:P.elem ty=el:=by simp[Program.elem,hel]
   rw[run_indexAt_slice w ty ⟨b,0,none⟩ n m kk z (by rw[he];exact hel),if_pos hz,he];simp[sizeOf,typeInfo,hti,hs,Addr.add_lit]
  ·cases hu
 ·cases hu
theorem G7(h:bI R x (.sl j n m))(hy:bI R y (.k (.int kk z)))(hu:slE P ty s=true)(hz:(decide (0≤z)&&decide (z<(n:Int)))=true):Ok P w0 N ⟨dst,.indexAddr ty x y,t,p,e,gd⟩ i R Bx (.p j (z.toNat*s)) none:=
 mD fun γ w a hR _=>by
  obtain⟨b,h1,h2⟩:=h.ev hR;have h3:a.eval y= .int kk z:=hy.ev hR;exact⟨_,by simp[execOp,h2,h3,Zj hu hz,Result.andThen],b,h1,rfl⟩
theorem Zk{src:TypeId}{k1:IntKind}{r:Value}(h:bI R x (.k (.int k1 z)))(hu:cvB P src ty kk=true)(hr:Value.int kk (kk.wrap z)=r):Ok P w0 N ⟨dst,.convert src ty x,t,p,e,gd⟩ i R Bx (.k r) none:=
 mD fun γ w a hR _=>by
  have h2:a.eval x= .int k1 z:=h.ev hR;unfold cvB at hu;simp only[Bool.and_eq_true]at hu;obtain⟨h3,h4⟩:=hu;split at h4
  ·rename_i k' hk';have e1:k'=kk:=of_decide_eq_true h4;subst e1;have hi:P.intKind ty=k':=by simp[Program.intKind,hk']
   have:=run_convert_int (P:=P) w src ty k1 z h3 (by rw[hi];exact hk');rw[hi]at this;exact⟨_,by simp[execOp,h2,this,Result.andThen],hr⟩
  ·cases h4
theorem ok_np(h:bI R x (.p j k)):Ok P w0 N ⟨dst,.nilCheck x,t,p,e,gd⟩ i R Bx (.p j k) none:=
 mD fun γ w a hR _=>by
  obtain⟨b,h1,h2⟩:=h.ev hR;exact⟨_,by simp[execOp,h2],b,h1,rfl⟩
end
end
section
open Go Go.RowKit Go.Proofs Ab
variable {w0 w w':World} {γ:Gh} {N i c:Nat} {R:Nat→Option Δ} {Bx:Bs} {F:Nat→Prop}
def Δ.ws:Δ→Bool
 | .sl _ _ _=>true
 |d=>d.w
theorem s0.shs{d:Δ}{x:Value}(h:s0 w0 γ w d x)(hw:d.ws=true):∃a n c,x= .slice a n c:=by
 unfold Δ.ws at hw;split at hw
 ·obtain⟨b,_,rfl⟩:=h;exact⟨_,_,_,rfl⟩
 ·exact h.Tq hw
theorem LC{d:Δ}{x:Value}(h:s2 w0 γ w d x)(hw:d.ws=true):s0 w0 γ w d x:=by
 unfold Δ.ws at hw;split at hw
 ·exact h
 ·exact w_s0 h hw
theorem qK{s:Bool}{d:Δ}{x:Value}(h:s2 w0 γ w (.g [.k (.bool s),d]) x)(hw:d.ws=true):∃a n c,x= .agg #[.bool s,.slice a n c]∧s0 w0 γ w d (.slice a n c):=by
 obtain⟨xs,e,h⟩:=h;match xs,h with
 |[u,v],h=>
  obtain⟨a,n,c,rfl⟩:=h.2.1.shs hw;have:=h.1;subst this;exact⟨a,n,c,e,h.2.1⟩
theorem uf{s:Bool}{d d2:Δ}{x:Value}(h:s2 w0 γ w (.g [.k (.bool s),d,d2]) x)(hw:d.ws=true)(hw2:d2.ws=true):∃a n c a2 n2 c2,x= .agg #[.bool s,.slice a n c,.slice a2 n2 c2]∧s0 w0 γ w d (.slice a n c)∧s0 w0 γ w d2 (.slice a2 n2 c2):=by
 obtain⟨xs,e,h⟩:=h;match xs,h with
 |[u,v,z],h=>
  obtain⟨a,n,c,rfl⟩:=h.2.1.shs hw;obtain⟨a2,n2,c2,rfl⟩:=h.2.2.1.shs hw2;have:=h.1;subst this;exact⟨a,n,c,a2,n2,c2,e,h.2.1,h.2.2.1⟩
section
variable {dst:Option Tmp} {x y:Operand} {ty t:TypeId} {p:String} {e:Array Edge} {gd:Option (Nat×Bool)} {d:Δ} {z:Int}
theorem ok_bi1(hy:bI R y d)(hw:d.ws=true):Ok Tryz.prog w0 N ⟨dst,.build 25 #[(1,y)],t,p,e,gd⟩ i R Bx (.g [.k (.bool false),d]) none:=
 yF fun γ w a hR=>by
  have q2:=LC (hy.ev hR) hw;obtain⟨a2,n2,c2,e2⟩:=q2.shs hw;refine⟨#[.bool false,.slice a2 n2 c2],?_,[.bool false,.slice a2 n2 c2],rfl,rfl,e2▸q2,trivial⟩;simp only[List.map_toArray,List.map_cons,List.map_nil,e2];kernel_rfl
theorem ok_bq1(hy:bI R y d)(hw:d.ws=true):Ok Tryz.prog w0 N ⟨dst,.build 29 #[(1,y)],t,p,e,gd⟩ i R Bx (.g [.k (.bool false),.k (.slice none 0 0),d]) none:=
 yF fun γ w a hR=>by
  have q2:=LC (hy.ev hR) hw;obtain⟨a2,n2,c2,e2⟩:=q2.shs hw;refine⟨#[.bool false,.slice none 0 0,.slice a2 n2 c2],?_,[.bool false,.slice none 0 0,.slice a2 n2 c2],rfl,rfl,rfl,e2▸q2,trivial⟩;simp only[List.map_toArray,List.map_cons,List.map_nil,e2];kernel_rfl
theorem ok_bw(hy:bI R y (.k (.int .u64 z)))(hu:Tryz.prog.underlying ty=some (.slice 31):=by kernel_rfl):Ok Tryz.prog w0 N ⟨dst,.buildSlice ty 1 #[(0,y)],t,p,e,gd⟩ i R Bx (.sl i 1 1) (some (31,[.k (.int .u64 z)])):=
 yH fun γ w a hR=>by
  have e1:a.eval y= .int .u64 z:=hy.ev hR;refine⟨[.int .u64 z],_,.int .u64 0,hu,rfl,rfl,dc,dc,?_,rfl,trivial⟩;simp only[List.map_toArray,List.map_cons,List.map_nil,e1];kernel_rfl
theorem ok_i1{x0:Operand}{s0:Bool}{d0:Δ}(h0:bI R x0 (.g [.k (.bool s0),d0]))(v0:d0.ws=true)(hu:Tryz.prog.underlying ty=some (.slice 25):=by kernel_rfl):Ok Tryz.prog w0 N ⟨dst,.buildSlice ty 1 #[(0,x0)],t,p,e,gd⟩ i R Bx (.sl i 1 1) (some (25,[.k (.bool s0),d0])):=
 yH fun γ w a hR=>by
  obtain⟨a0,n0,c0,e0,q0⟩:=qK (h0.ev hR) v0;refine⟨[.bool s0,.slice a0 n0 c0],_,.agg #[.bool false,.slice none 0 0],hu,rfl,rfl,dc,dc,?_,rfl,q0,trivial⟩;simp only[List.map_toArray,List.map_cons,List.map_nil,e0];kernel_rfl
theorem ok_i6{x0 x1 x2 x3 x4 x5:Operand}{s0 s1 s2 s3 s4 s5:Bool}{d0 d1 d2 d3 d4 d5:Δ}(h0:bI R x0 (.g [.k (.bool s0),d0]))(v0:d0.ws=true)(h1:bI R x1 (.g [.k (.bool s1),d1]))(v1:d1.ws=true)(h2:bI R x2 (.g [.k (.bool s2),d2]))(v2:d2.ws=true)(h3:bI R x3 (.g [.k (.bool s3),d3]))(v3:d3.ws=true)(h4:bI R x4 (.g [.k (.bool s4),d4]))(v4:d4.ws=true)(h5:bI R x5 (.g [.k (.bool s5),d5]))(v5:d5.ws=true)(hu:Tryz.prog.underlying ty=some (.slice 25):=by kernel_rfl):Ok Tryz.prog w0 N ⟨dst,.buildSlice ty 6 #[(0,x0),(1,x1),(2,x2),(3,x3),(4,x4),(5,x5)],t,p,e,gd⟩ i R Bx (.sl i 6 6) (some (25,[.k (.bool s0),d0,.k (.bool s1),d1,.k (.bool s2),d2,.k (.bool s3),d3,.k (.bool s4),d4,.k (.bool s5),d5])):=
 yH fun γ w a hR=>by
  obtain⟨a0,n0,c0,e0,q0⟩:=qK (h0.ev hR) v0;obtain⟨a1,n1,c1,e1,q1⟩:=qK (h1.ev hR) v1;obtain⟨a2,n2,c2,e2,q2⟩:=qK (h2.ev hR) v2;obtain⟨a3,n3,c3,e3,q3⟩:=qK (h3.ev hR) v3;obtain⟨a4,n4,c4,e4,q4⟩:=qK (h4.ev hR) v4;obtain⟨a5,n5,c5,e5,q5⟩:=qK (h5.ev hR) v5;refine⟨[.bool s0,.slice a0 n0 c0,.bool s1,.slice a1 n1 c1,.bool s2,.slice a2 n2 c2,.bool s3,.slice a3 n3 c3,.bool s4,.slice a4 n4 c4,.bool s5,.slice a5 n5 c5],_,.agg #[.bool false,.slice none 0 0],hu,rfl,rfl,dc,dc,?_,rfl,q0,rfl,q1,rfl,q2,rfl,q3,rfl,q4,rfl,q5,trivial⟩;simp only[List.map_toArray,List.map_cons,List.map_nil,e0,e1,e2,e3,e4,e5];kernel_rfl
theorem ok_q1{x0:Operand}{s0:Bool}{d0 f0:Δ}(h0:bI R x0 (.g [.k (.bool s0),d0,f0]))(v0:d0.ws=true)(u0:f0.ws=true)(hu:Tryz.prog.underlying ty=some (.slice 29):=by kernel_rfl):Ok Tryz.prog w0 N ⟨dst,.buildSlice ty 1 #[(0,x0)],t,p,e,gd⟩ i R Bx (.sl i 1 1) (some (29,[.k (.bool s0),d0,f0])):=
 yH fun γ w a hR=>by
  obtain⟨a0,n0,c0,b0,m0,g0,e0,q0,r0⟩:=uf (h0.ev hR) v0 u0;refine⟨[.bool s0,.slice a0 n0 c0,.slice b0 m0 g0],_,.agg #[.bool false,.slice none 0 0,.slice none 0 0],hu,rfl,rfl,dc,dc,?_,rfl,q0,r0,trivial⟩;simp only[List.map_toArray,List.map_cons,List.map_nil,e0];kernel_rfl
theorem ok_q5{x0 x1 x2 x3 x4:Operand}{s0 s1 s2 s3 s4:Bool}{d0 f0 d1 f1 d2 f2 d3 f3 d4 f4:Δ}(h0:bI R x0 (.g [.k (.bool s0),d0,f0]))(v0:d0.ws=true)(u0:f0.ws=true)(h1:bI R x1 (.g [.k (.bool s1),d1,f1]))(v1:d1.ws=true)(u1:f1.ws=true)(h2:bI R x2 (.g [.k (.bool s2),d2,f2]))(v2:d2.ws=true)(u2:f2.ws=true)(h3:bI R x3 (.g [.k (.bool s3),d3,f3]))(v3:d3.ws=true)(u3:f3.ws=true)(h4:bI R x4 (.g [.k (.bool s4),d4,f4]))(v4:d4.ws=true)(u4:f4.ws=true)(hu:Tryz.prog.underlying ty=some (.slice 29):=by kernel_rfl):Ok Tryz.prog w0 N ⟨dst,.buildSlice ty 5 #[(0,x0),(1,x1),(2,x2),(3,x3),(4,x4)],t,p,e,gd⟩ i R Bx (.sl i 5 5) (some (29,[.k (.bool s0),d0,f0,.k (.bool s1),d1,f1,.k (.bool s2),d2,f2,.k (.bool s3),d3,f3,.k (.bool s4),d4,f4])):=
 yH fun γ w a hR=>by
  obtain⟨a0,n0,c0,b0,m0,g0,e0,q0,r0⟩:=uf (h0.ev hR) v0 u0;obtain⟨a1,n1,c1,b1,m1,g1,e1,q1,r1⟩:=uf (h1.ev hR) v1 u1;obtain⟨a2,n2,c2,b2,m2,g2,e2,q2,r2⟩:=uf (h2.ev hR) v2 u2;obtain⟨a3,n3,c3,b3,m3,g3,e3,q3,r3⟩:=uf (h3.ev hR) v3 u3;obtain⟨a4,n4,c4,b4,m4,g4,e4,q4,r4⟩:=uf (h4.ev hR) v4 u4;refine⟨[.bool s0,.slice a0 n0 c0,.slice b0 m0 g0,.bool s1,.slice a1 n1 c1,.slice b1 m1 g1,.bool s2,.slice a2 n2 c2,.slice b2 m2 g2,.bool s3,.slice a3 n3 c3,.slice b3 m3 g3,.bool s4,.slice a4 n4 c4,.slice b4 m4 g4],_,.agg #[.bool false,.slice none 0 0,.slice none 0 0],hu,rfl,rfl,dc,dc,?_,rfl,q0,r0,rfl,q1,r1,rfl,q2,r2,rfl,q3,r3,rfl,q4,r4,trivial⟩;simp only[List.map_toArray,List.map_cons,List.map_nil,e0,e1,e2,e3,e4];kernel_rfl
theorem Zl(hy:bI R y d)(hw:d.ws=true)(hu:Tryz.prog.underlying ty=some (.slice 62):=by kernel_rfl):Ok Tryz.prog w0 N ⟨dst,.buildSlice ty 1 #[(0,y)],t,p,e,gd⟩ i R Bx (.sl i 1 1) (some (62,[d])):=
 yH fun γ w a hR=>by
  have q2:=LC (hy.ev hR) hw;obtain⟨a2,n2,c2,e2⟩:=q2.shs hw;refine⟨[.slice a2 n2 c2],_,.slice none 0 0,hu,rfl,rfl,dc,dc,?_,e2▸q2,trivial⟩;simp only[List.map_toArray,List.map_cons,List.map_nil,e2];kernel_rfl
theorem Zm(hy:bI R y d)(hw:d.ws=true)(hu:Tryz.prog.underlying ty=some (.slice 64):=by kernel_rfl):Ok Tryz.prog w0 N ⟨dst,.buildSlice ty 1 #[(0,y)],t,p,e,gd⟩ i R Bx (.sl i 1 1) (some (64,[d])):=
 yH fun γ w a hR=>by
  have q2:=LC (hy.ev hR) hw;obtain⟨a2,n2,c2,e2⟩:=q2.shs hw;refine⟨[.slice a2 n2 c2],_,.slice none 0 0,hu,rfl,rfl,dc,dc,?_,e2▸q2,trivial⟩;simp only[List.map_toArray,List.map_cons,List.map_nil,e2];kernel_rfl
end
end
section
open Go Go.RowKit Go.Proofs Ab
variable {w0 w w':World} {γ:Gh} {N c:Nat} {E:En} {Bx:Bs} {a:Act} {P:Program}
def pS{α:Type}:List α→Nat→List α→List α
 |cs,_,[]=>cs
 |cs,o,v::vs=>pS (cs.set o v) (o+1) vs
theorem oC(b:Nat)(bt:TypeId):∀(vs:List Value) (o:Nat) (w:World) (cs:List Value),w.heap[b]? =some (.cells cs.toArray bt (0,0))→(w.setCells b o vs).heap[b]? =some (.cells (pS cs o vs).toArray bt (0,0))∧(∀k,k≠b→(w.setCells b o vs).heap[k]? =w.heap[k]?)∧(w.setCells b o vs).heap.size=w.heap.size∧(w.setCells b o vs).os=w.os∧(w.setCells b o vs).tape=w.tape∧(w.setCells b o vs).output=w.output
 |[],_,w,cs,h=>⟨h,fun _ _=>rfl,rfl,rfl,rfl,rfl⟩
 |v::vs,o,w,cs,h=>by
  have g:=heap_setCell_same w b o cs.toArray bt v h;have e:cs.toArray.setIfInBounds o v=(cs.set o v).toArray:=sy;rw[e]at g;obtain⟨h1,h2,h3,h4,h5,h6⟩:=oC b bt vs (o+1) (w.setCell ⟨b,o,none⟩ v) (cs.set o v) g;exact⟨h1,fun k hk=>(h2 k hk).trans (heap_setCell_other _ _ k v hk),h3.trans (World.size_setCell _ _ _),h4.trans rfl,h5.trans rfl,h6.trans rfl⟩
theorem l0.set:∀{ds:List Δ} {xs:List Value} {o:Nat} {d:Δ} {v:Value},l0 w0 γ w ds xs→s0 w0 γ w d v→l0 w0 γ w (ds.set o d) (xs.set o v)
 |[],[],_,_,_,h,_=>h
 |_::_,_::_,0,_,_,h,h2=>⟨h2,h.2⟩
 |_::_,_::_,_+1,_,_,h,h2=>⟨h.1,l0.set h.2 h2⟩
 |[],_::_,_,_,_,h,_=>h.elim
 |_::_,[],_,_,_,h,_=>h.elim
theorem l0.pss:∀{es:List Δ} {ys:List Value} {ds:List Δ} {xs:List Value} {o:Nat},l0 w0 γ w ds xs→l0 w0 γ w es ys→l0 w0 γ w (pS ds o es) (pS xs o ys)
 |[],[],_,_,_,h,_=>h
 |d::es,v::ys,ds,xs,o,h,h2=>l0.pss (es:=es) (ys:=ys) (ds:=ds.set o d) (xs:=xs.set o v) (o:=o+1) (h.set h2.1) h2.2
 |[],_::_,_,_,_,_,h=>h.elim
 |_::_,[],_,_,_,_,h=>h.elim
theorem ps_sn{ops:Array Oper}{rest:List Oper}{Q:Exit→Act→World→Prop}{dst:Option Tmp}{ty t:TypeId}{x y:Operand}{p:String}{e:Array Edge}{j o:Nat}{bt:TypeId}{ds es:List Δ}(S:PS w0 N c E Bx γ a w)(hx:bI (lk E) x (.p j o))(hb:lk Bx j=some (bt,ds))(hy:bI (lk E) y (.g es))(hi:(P.info? ty).map (·.size)=some es.length)(hl:Nat.ble (o+es.length) ds.length=true)(h1:es.all Δ.c1=true)(hd:dst=none)
 (next:∀a' w',PS w0 N c E ((j,bt,pS ds o es)::Bx) γ a' w'→wpList P ops Q rest a' w'):wpList P ops Q (⟨dst,.store ty x y,t,p,e,none⟩::rest) a w:=by
 obtain⟨q,hq,ex⟩:=hx.ev S.env
 obtain⟨q',xs,hq',hg,hds⟩:=S.box j _ hb
 obtain rfl:q=q':=Option.some.inj (hq.symm.trans hq')
 obtain⟨ys,ey,hys⟩:=hy.ev S.env
 have hlx:xs.length=ds.length:=hds.len
 have Hg:ys.length=es.length:=hys.len
 have hl:=Nat.le_of_ble_eq_true hl
 obtain⟨g1,ho,hsz,hos,htp,hou⟩:=oC q bt ys o w xs hg
 refine wpList_store_mid rfl ty x y rfl q o ys.toArray ex ey (fun k hk=>?_) (by rw[hi];simp[Hg]) (by have:=hys.one h1;simpa using this) ?_
 ·have hk':o+k<xs.length:=by simp at hk;omega
  exact⟨by rw[jM hg (List.getElem?_eq_getElem hk')];rfl,by simp[World.frozen?,hg]⟩
 subst hd
 show wpList P ops Q rest (a.put none undef) (w.setCells q o ys)
 have hnq:=S.W.bn j q hq
 generalize w.setCells q o ys=w2 at*
 refine next _ _ ?_
 have hs:St γ w γ w2:=⟨Nat.le_of_eq hsz.symm,fun k hk hn=>ho k fun e=>hn j (e▸hq),fun _ _ h=>h,fun _ _ h=>h,fun _ _ h=> .inl h⟩
 refine⟨S.W.Ep (w':=w2) ⟨hos,htp,hou,Nat.le_of_eq hsz.symm,fun k hk=>ho k om⟩,S.sz,S.df,fun t d h=>s2.up S.W hs (S.env t d h),fun i b h=>?_⟩
 rcases aG h with ⟨rfl,rfl⟩|⟨hne,h⟩
 ·exact⟨q,pS xs o ys,hq,g1,l0.up S.W hs (l0.pss hds hys)⟩
 ·exact(S.box i b h).up S.W hs fun k hk=>ho k fun e=>hne (S.W.bi i j q (e▸hk) hq).symm
end
section
open Go Go.RowKit Go.Proofs Ab
variable {w0 w w':World} {γ:Gh} {N c:Nat} {E:En} {Bx:Bs} {a:Act} {P:Program} {F:Nat→Prop}
theorem Uj{i g:Nat}(hW:Wi w0 γ w F)(hF:F i)(hb:Below w.heap.size w w')(hg:w.heap.size≤g)(hg':g<w'.heap.size):St γ w (γ.box i g) w'∧Wi w0 (γ.box i g) w' (fun k=>F k∧k≠i):=by
 have hn:=(hW.fr i hF).1;have hW':=hW.Ep (below_le hW hb);have hs:=hW.bel.size;refine⟨⟨hb.size,fun q h _=>hb.block q h,fun j b h=>?_,fun _ _ h=>h,fun j b h=>?_⟩,hW'.j,hW'.bel,fun j b h=>?_,fun j k b h1 h2=>?_,fun t q h=>⟨(hW'.kn t q h).1,(hW'.kn t q h).2.1,fun j hj=>?_⟩,hW'.ki,fun j hj=>⟨?_,(hW.fr j hj.1).2⟩⟩
 ·rw[sN γ _ (fun e=>by subst e;rw[hn]at h;cases h)];exact h
 ·rcases dY h with ⟨_,e⟩|⟨_,h⟩
  ·exact .inr om
  ·exact .inl h
 ·rcases dY h with ⟨_,e⟩|⟨_,h⟩
  ·omega
  ·exact hW'.bn j b h
 ·rcases dY h1 with ⟨e1,e2⟩|⟨_,h1⟩<;>rcases dY h2 with ⟨e3,e4⟩|⟨_,h2⟩
  ·omega
  ·have:=(hW.bn k b h2).2;omega
  ·have:=(hW.bn j b h1).2;omega
  ·exact hW.bi j k b h1 h2
 ·rcases dY hj with ⟨_,e⟩|⟨_,hj⟩
  ·have:=(hW.kn t q h).2.1;omega
  ·exact(hW.kn t q h).2.2 j hj
 ·rw[sN γ _ hj.2];exact(hW.fr j hj.1).1
theorem l0.app:∀{ds es:List Δ} {xs ys:List Value},l0 w0 γ w ds xs→l0 w0 γ w es ys→l0 w0 γ w (ds++es) (xs++ys)
 |[],_,[],_,_,h2=>h2
 |_::_,_,_::_,_,h,h2=>⟨h.1,l0.app h.2 h2⟩
 |[],_,_::_,_,h,_=>h.elim
 |_::_,_,[],_,h,_=>h.elim
theorem l0.k(gs:List Value):l0 w0 γ w (gs.map Δ.k) gs:=by
 induction gs with
 |nil=>exact trivial
 |cons g gs ih=>exact⟨rfl,ih⟩
def apB(P:Program)(ty et:TypeId)(sz:Nat):Bool:=match P.underlying ty,P.info? et with
 |some (.slice e),some ie=>Nat.beq e et&&Nat.beq ie.size sz&&Nat.ble ie.bytes 1000&&Nat.blt 0 sz&&(match ie.zero with
  |some z=>Nat.beq z.cells.size sz
  |none=>false)
 |_,_=>false
theorem wW{ty et:TypeId}{sz:Nat}(h:apB P ty et sz=true):∃ie z,P.underlying ty=some (.slice et)∧P.info? et=some ie∧ie.zero=some z∧ie.size=sz∧ie.bytes≤1000∧z.cells.size=sz∧0<sz:=by
 unfold apB at h;split at h
 ·rename_i e ie h1 h2;simp only[Bool.and_eq_true]at h;obtain⟨⟨⟨⟨h3,h4⟩,h5⟩,h6⟩,h7⟩:=h;split at h7
  ·rename_i z hz;have e1:=Nat.eq_of_beq_eq_true h3;subst e1;exact⟨ie,z,h1,h2,hz,Nat.eq_of_beq_eq_true h4,Nat.le_of_ble_eq_true h5,Nat.eq_of_beq_eq_true h7,Nat.blt_eq▸h6⟩
  ·cases h7
 ·cases h
theorem pX{q:Nat}{xs:List Value}{bt:TypeId}(hg:w.heap[q]? =some (.cells xs.toArray bt (0,0))){n:Nat}:∀j u,(xs.take n)[j]? =some u→w.cell? ((⟨q,0,none⟩:Addr).add j)=some u:=fun j u h=>by
 rw[Addr.add_mid,Nat.zero_add];rw[List.getElem?_take]at h;split at h
 ·exact jM hg h
 ·cases h
theorem Zn{ops:Array Oper}{rest:List Oper}{Q:Exit→Act→World→Prop}{k j m n sz:Nat}{x y:Operand}{ty t et X_:TypeId}{p:String}{e:Array Edge}{ds es:List Δ}(S:PS w0 N c E Bx γ a w)(hx:bI (lk E) x (.sl j n n))(hb:lk Bx j=some (et,ds))(hy:bI (lk E) y (.sl m 1 1))(hm:lk Bx m=some (X_,es))(hl:ds.length=n*sz)(hle:es.length=sz)(h1:es.all Δ.c1=true)(hn:Nat.ble n 1000000=true)(hB:apB P ty et sz=true)(hk:Nat.blt k N=true)
 (next:∀(cap:Nat) (gs:List Value) γ' a' w',n+1≤cap→cap≤maxLen→(ds++(es++gs.map Δ.k)).length=cap*sz→PS w0 N (c+1) ((k,.sl c (n+1) cap)::E) ((c,et,ds++(es++gs.map Δ.k))::Bx) γ' a' w'→wpList P ops Q rest a' w'):wpList P ops Q (⟨some k,.call ⟨.builtin .append,#[x,y],#[ty,ty]⟩,t,p,e,none⟩::rest) a w:=by
 obtain⟨ie,z,hu,hi,hz,hsz,hby,hzs,h0⟩:=wW hB
 obtain⟨q,hq,ex⟩:=hx.ev S.env
 obtain⟨q',xs,hq',hg,hds⟩:=S.box j _ hb
 obtain rfl:q=q':=Option.some.inj (hq.symm.trans hq')
 obtain⟨r,hr,ey⟩:=hy.ev S.env
 obtain⟨r',ys,hr',hgr,hes⟩:=S.box m _ hm
 obtain rfl:r=r':=Option.some.inj (hr.symm.trans hr')
 have hlx:xs.length=ds.length:=hds.len
 have Hg:ys.length=es.length:=hes.len
 have hn:=Nat.le_of_ble_eq_true hn
 have hk':k<a.tmps.size:=by rw[S.sz];exact Nat.blt_eq▸hk
 refine wpList_plain rfl fun K hK=>?_
 have hbb:(n+1)*ie.bytes≤140737488355328:=Nat.le_trans (Nat.mul_le_mul (show n+1≤1000001 by omega) hby) dc
 obtain⟨v',w',hrun,how,hgrow⟩:=run_append_arg_grows (P:=P) w ty t et ie z sz ie.bytes hu hi hz hsz rfl hzs h0 ⟨q,0,none⟩ n n xs om (fun j u h=>pX hg (n:=xs.length) j u (by rw[List.take_length];exact h)) ⟨r,0,none⟩ 1 1 ys om (fun j u h=>pX hgr (n:=ys.length) j u (by rw[List.take_length];exact h)) om (by unfold maxLen;omega) hbb
 unfold Oper.wp execOp
 simp only[resolve,invoke,builtin,Sem.run_bind,Sem.run_pure,Result.andThen_ok,List.map_toArray,List.map_cons,List.map_nil,ex,ey,hrun]
 refine hK _ _ ?_
 rcases how.2 with ⟨_,h⟩|⟨g,cap,cur,rfl,hbg,hgg,hnc,hcm,hcs,htk⟩
 ·omega
 have hbl:Below w.heap.size w w':=⟨hgrow.os,hgrow.tape,hgrow.output,hgrow.size,fun k hk=>hgrow.block k hk sy⟩
 have hlt:g<w'.heap.size:=(Array.getElem?_eq_some_iff.1 hgg).1
 obtain⟨hs,hW⟩:=Uj S.W (Nat.le_refl c) hbl hbg hlt
 have wX:cur.toList=xs++(ys++cur.toList.drop ((n+1)*sz)):=by
  rw[←List.append_assoc,←htk,List.take_append_drop]
 refine next cap (cur.toList.drop ((n+1)*sz)) (γ.box c g) _ w' hnc hcm ?_ ⟨hW.sub fun i hi=>⟨om,om⟩,by show(a.tmps.setIfInBounds k _).size=N;simp[S.sz],S.df,fun t d ht=>?_,fun i b h=>?_⟩
 ·have:=congrArg List.length wX;simp only[List.length_append,List.length_map,Array.length_toList]at this ⊢;omega
 ·rcases aG ht with ⟨rfl,rfl⟩|⟨hne,ht⟩
  ·rw[put_eq hk'];exact⟨g,kG _ _ _,rfl⟩
  ·rw[gG hne];exact s2.up S.W hs (S.env t d ht)
 ·rcases aG h with ⟨rfl,rfl⟩|⟨hne,h⟩
  ·refine⟨g,cur.toList,kG _ _ _,by simpa using hgg,?_⟩;have h9:=(l0.up S.W hs hds).app ((l0.up S.W hs hes).app (l0.k (w0:=w0) (γ:=γ.box c g) (w:=w') (cur.toList.drop ((n+1)*sz))));rw[←wX]at h9;exact h9
  ·exact(S.box i b h).up S.W hs fun q hq=>hbl.block q (S.W.bn i q hq).2
end
section
open Go Go.RowKit Go.Proofs Ab
variable {w0 w w':World} {γ γ':Gh} {N c:Nat} {E:En} {Bx:Bs} {a:Act} {P:Program} {F:Nat→Prop}
def Δ.m0(j:Nat):Δ→Bool
 | .k _| .ow _ _=>true
 | .p i _=>!Nat.beq i j
 | .sl i _ _=>!Nat.beq i j
 |_=>false
def Δ.mj(j:Nat):Δ→Bool
 | .g ds=>ds.all (Δ.m0 j)
 |d=>d.m0 j
theorem nbq{i j:Nat}(h:(!Nat.beq i j)=true):i≠j:=fun e=>by subst e;rw[Nat.beq_refl]at h;cases h
theorem s0.mv{j q:Nat}(hβ:∀i,i≠j→γ'.β i=γ.β i)(hκ:γ'.κ=γ.κ)(hW:Wi w0 γ w F)(hq:γ.β j=some q)(hb:∀k,k<w.heap.size→k≠q→w'.heap[k]? =w.heap[k]?):∀{d:Δ} {x:Value},s0 w0 γ w d x→d.m0 j=true→s0 w0 γ' w' d x
 | .k _,_,h,_=>h
 | .ow A t,x,⟨⟨m,hm,ho⟩,hk⟩,_=>⟨⟨m,hm,aP ho fun r hr=>by
    have:=hW.kn t r (by rw[hk,hr]);exact hb r this.2.1 fun e=>this.2.2 j (e▸hq)⟩,by rw[hκ];exact hk⟩
 | .p i o,x,⟨b,h1,h2⟩,h=>⟨b,(hβ i (nbq h)).trans h1,h2⟩
 | .sl i n c,x,⟨b,h1,h2⟩,h=>⟨b,(hβ i (nbq h)).trans h1,h2⟩
 | .rd _,_,_,h=>by cases h
 | .rz _ _,_,_,h=>by cases h
 | .f _,_,_,h=>by cases h
 | .g _,_,_,h=>by cases h
 | .t _,_,_,h=>by cases h
theorem l0.mv{j q:Nat}(hβ:∀i,i≠j→γ'.β i=γ.β i)(hκ:γ'.κ=γ.κ)(hW:Wi w0 γ w F)(hq:γ.β j=some q)(hb:∀k,k<w.heap.size→k≠q→w'.heap[k]? =w.heap[k]?):∀{ds:List Δ} {xs:List Value},l0 w0 γ w ds xs→ds.all (Δ.m0 j)=true→l0 w0 γ' w' ds xs
 |[],[],h,_=>h
 |_::_,_::_,h,h2=>by
  simp only[List.all_cons,Bool.and_eq_true]at h2;exact⟨s0.mv hβ hκ hW hq hb h.1 h2.1,l0.mv hβ hκ hW hq hb h.2 h2.2⟩
 |[],_::_,h,_=>h.elim
 |_::_,[],h,_=>h.elim
theorem s2.mv{j q:Nat}(hβ:∀i,i≠j→γ'.β i=γ.β i)(hκ:γ'.κ=γ.κ)(hW:Wi w0 γ w F)(hq:γ.β j=some q)(hb:∀k,k<w.heap.size→k≠q→w'.heap[k]? =w.heap[k]?):∀{d:Δ} {x:Value},s2 w0 γ w d x→d.mj j=true→s2 w0 γ' w' d x
 | .g _,_,⟨xs,e,h⟩,h2=>⟨xs,e,l0.mv hβ hκ hW hq hb h h2⟩
 | .k _,_,h,h2=>s0.mv (d:= .k _) hβ hκ hW hq hb h h2
 | .ow _ _,_,h,h2=>s0.mv (d:= .ow _ _) hβ hκ hW hq hb h h2
 | .p _ _,_,h,h2=>s0.mv (d:= .p _ _) hβ hκ hW hq hb h h2
 | .sl _ _ _,_,h,h2=>s0.mv (d:= .sl _ _ _) hβ hκ hW hq hb h h2
 | .rd _,_,_,h=>by cases h
 | .rz _ _,_,_,h=>by cases h
 | .f _,_,_,h=>by cases h
 | .t _,_,_,h=>by cases h
def BO{α:Type}(L:List (Nat×α)):List (Nat×α)→Prop
 |[]=>True
 |p::r=>lk L p.1=some p.2∧BO L r
theorem ug{α:Type}{L:List (Nat×α)}:∀{r:List (Nat×α)} {t:Nat} {d:α},BO L r→lk r t=some d→lk L t=some d∧(t,d)∈r
 |[],_,_,_,h=>by cases h
 |p::r,t,d,hs,h=>by
  rcases aG (i:=p.1) (x:=p.2) h with ⟨rfl,rfl⟩|⟨_,h⟩
  ·exact⟨hs.1,List.mem_cons_self⟩
  ·exact⟨(ug hs.2 h).1,List.mem_cons_of_mem _ (ug hs.2 h).2⟩
def okB(j:Nat):Bs→Prop
 |[]=>True
 |p::r=>(!Nat.beq p.1 j&&p.2.2.all (Δ.m0 j))=true∧okB j r
theorem LD{j:Nat}:∀{B:Bs} {p:Nat×TypeId×List Δ},okB j B→p∈B→(!Nat.beq p.1 j&&p.2.2.all (Δ.m0 j))=true
 |q::B,p,h,hp=>by
  rcases List.mem_cons.1 hp with rfl|hp
  ·exact h.1
  ·exact LD h.2 hp
theorem all_k{j:Nat}(gs:List Value):(gs.map Δ.k).all (Δ.m0 j)=true:=by
 rw[List.all_map,List.all_eq_true];exact fun _ _=>rfl
theorem ps_ap{ops:Array Oper}{rest:List Oper}{Q:Exit→Act→World→Prop}{k j m n sz cap:Nat}{x y:Operand}{ty t et X_:TypeId}{p:String}{e:Array Edge}{ds es:List Δ}(S:PS w0 N c E Bx γ a w)(hx:bI (lk E) x (.sl j n cap))(hb:lk Bx j=some (et,ds))(hy:bI (lk E) y (.sl m 1 1))(hm:lk Bx m=some (X_,es))(hnc:n≤cap)(hcm:cap≤maxLen)(hl:ds.length=cap*sz)(hle:es.length=sz)(h1:es.all Δ.c1=true)(hjs:es.all (Δ.m0 j)=true)(hjd:(ds.take (n*sz)).all (Δ.m0 j)=true)(hn:Nat.ble n 1000000=true)(hB:apB P ty et sz=true)(hk:Nat.blt k N=true)
 (E':En) (B':Bs) (hE:BO E E') (hEj:E'.all (fun p=>p.2.mj j)=true) (hB':BO Bx B') (hBj:okB j B')
 (next:∀(cap':Nat) (gs:List Value) γ' a' w',n+1≤cap'→cap'≤maxLen→(ds.take (n*sz)++(es++gs.map Δ.k)).length=cap'*sz→PS w0 N c ((k,.sl j (n+1) cap')::E') ((j,et,ds.take (n*sz)++(es++gs.map Δ.k))::B') γ' a' w'→wpList P ops Q rest a' w'):wpList P ops Q (⟨some k,.call ⟨.builtin .append,#[x,y],#[ty,ty]⟩,t,p,e,none⟩::rest) a w:=by
 obtain⟨ie,z,hu,hi,hz,hsz,hby,hzs,h0⟩:=wW hB
 obtain⟨q,hq,ex⟩:=hx.ev S.env
 obtain⟨q',xs,hq',hg,hds⟩:=S.box j _ hb
 obtain rfl:q=q':=Option.some.inj (hq.symm.trans hq')
 obtain⟨r,hr,ey⟩:=hy.ev S.env
 obtain⟨r',ys,hr',hgr,hes⟩:=S.box m _ hm
 obtain rfl:r=r':=Option.some.inj (hr.symm.trans hr')
 have hlx:xs.length=ds.length:=hds.len
 have Hg:ys.length=es.length:=hes.len
 have hn:=Nat.le_of_ble_eq_true hn
 have hk':k<a.tmps.size:=by rw[S.sz];exact Nat.blt_eq▸hk
 have hnz:n*sz≤cap*sz:=Nat.mul_le_mul_right _ hnc
 have hqb:=S.W.bn j q hq
 have hws:=S.W.bel.size
 have Uk:∀u,u∈ys→u.oneCell'=true:=fun u hu=>List.all_eq_true.1 (hes.one h1) u hu
 refine wpList_plain rfl fun K hK=>?_
 have hbb:(n+1)*ie.bytes≤140737488355328:=Nat.le_trans (Nat.mul_le_mul (show n+1≤1000001 by omega) hby) dc
 obtain⟨v',w',hrun,how,hgrow,_,hat⟩:=run_append_own_at (P:=P) w w0.heap.size ty t et ie z sz ie.bytes hu hi hz hsz rfl hzs h0 (.slice (some ⟨q,0,none⟩) n cap) n (xs.take (n*sz)) ⟨by rw[List.length_take];omega,.inr ⟨q,cap,xs.toArray,rfl,hqb.1,hg,hnc,hcm,by simp;omega,rfl⟩⟩ ⟨r,0,none⟩ 1 1 ys om (fun j u h=>pX hgr (n:=ys.length) j u (by rw[List.take_length];exact h)) Uk (by unfold maxLen;omega) hbb hws
 unfold Oper.wp execOp
 simp only[resolve,invoke,builtin,Sem.run_bind,Sem.run_pure,Result.andThen_ok,List.map_toArray,List.map_cons,List.map_nil,ex,ey,hrun]
 refine hK _ _ ?_
 rcases how.2 with ⟨_,h⟩|⟨g,cap',cur,rfl,hbg,hgg,hnc',hcm',hcs,htk⟩
 ·omega
 have hlt:g<w'.heap.size:=(Array.getElem?_eq_some_iff.1 hgg).1
 have hgq:g=q∨g=w.heap.size:=hat.imp (fun h=>by cases h;rfl) fun h=>by cases h;rfl
 have hbk:∀k,k<w.heap.size→k≠q→w'.heap[k]? =w.heap[k]? :=fun k hk hne=>hgrow.block k hk (fun h=>hne (by cases h;rfl))
 have wX:cur.toList=xs.take (n*sz)++(ys++cur.toList.drop ((n+1)*sz)):=by
  rw[←List.append_assoc,←htk,List.take_append_drop]
 have hjc:¬c≤j:=fun h=>by rw[(S.W.fr j h).1]at hq;cases hq
 have hβ:∀i,i≠j→(γ.box j g).β i=γ.β i:=fun i hi=>sN γ g hi
 have hsize:=hgrow.size
 refine next cap' (cur.toList.drop ((n+1)*sz)) (γ.box j g) _ w' hnc' hcm' ?_ ⟨⟨S.W.j,⟨hgrow.os.trans S.W.bel.os,hgrow.tape.trans S.W.bel.tape,hgrow.output.trans S.W.bel.output,Nat.le_trans hws hsize,fun k hk=>(hbk k om om).trans (S.W.bel.block k hk)⟩,fun i b h=>?_,fun i i2 b h h2=>?_,fun t r h=>?_,S.W.ki,fun i hi=>⟨?_,(S.W.fr i hi).2⟩⟩,by show(a.tmps.setIfInBounds k _).size=N;simp[S.sz],S.df,fun t d ht=>?_,fun i b h=>?_⟩
 ·have:=congrArg List.length wX;simp only[List.length_append,List.length_map,Array.length_toList,List.length_take]at this ⊢;omega
 ·rcases dY h with ⟨_,e⟩|⟨_,h⟩
  ·subst e;exact⟨hbg,hlt⟩
  ·have:=S.W.bn i b h;exact⟨this.1,om⟩
 ·rcases dY h with ⟨e1,e2⟩|⟨n1,k1⟩<;>rcases dY h2 with ⟨e3,e4⟩|⟨n2,k2⟩
  ·omega
  ·rcases hgq with e|e
   ·exact absurd (S.W.bi i2 j q (by rw[k2,e2,e]) hq) n2
   ·have:=(S.W.bn i2 b k2).2;omega
  ·rcases hgq with e|e
   ·exact absurd (S.W.bi i j q (by rw[k1,e4,e]) hq) n1
   ·have:=(S.W.bn i b k1).2;omega
  ·exact S.W.bi i i2 b k1 k2
 ·have hkn:=S.W.kn t r h;refine⟨hkn.1,om,fun i hi=>?_⟩;rcases dY hi with ⟨_,e⟩|⟨_,hi⟩
  ·subst e;rcases hgq with e|e
   ·exact hkn.2.2 j (e▸hq)
   ·omega
  ·exact hkn.2.2 i hi
 ·rw[hβ i (fun e=>hjc (e▸hi))];exact(S.W.fr i hi).1
 ·rcases aG ht with ⟨rfl,rfl⟩|⟨hne,ht⟩
  ·rw[put_eq hk'];exact⟨g,kG _ _ _,rfl⟩
  ·obtain⟨h2,h3⟩:=ug hE ht;rw[gG hne];exact s2.mv hβ rfl S.W hq hbk (S.env t d h2) (List.all_eq_true.1 hEj _ h3)
 ·rcases aG h with ⟨rfl,rfl⟩|⟨hne,h⟩
  ·refine⟨g,cur.toList,kG _ _ _,by simpa using hgg,?_⟩;have l1:l0 w0 (γ.box j g) w' (ds.take (n*sz)) (xs.take (n*sz)):=l0.mv hβ rfl S.W hq hbk (by simpa using hds.cut 0 (n*sz)) hjd;have h9:=l1.app ((l0.mv hβ rfl S.W hq hbk hes hjs).app (l0.k (w0:=w0) (γ:=γ.box j g) (w:=w') (cur.toList.drop ((n+1)*sz))));rw[←wX]at h9;exact h9
  ·obtain⟨h2,h3⟩:=ug hB' h;have h4:=LD hBj h3;simp only[Bool.and_eq_true]at h4;obtain⟨r,zs,h5,h6,h7⟩:=S.box i b h2;have hij:=nbq h4.1;exact⟨r,zs,(hβ i hij).trans h5,(hbk r (S.W.bn i r h5).2 fun e=>hij (S.W.bi i j r h5 (e▸hq))).trans h6,l0.mv hβ rfl S.W hq hbk h7 h4.2⟩
end
section
open Go Go.RowKit Go.Proofs Ab
variable {w0 w w':World} {γ γ':Gh} {N c:Nat} {E:En} {Bx:Bs} {a:Act} {P:Program} {F:Nat→Prop}
theorem Zo{ops:Array Oper}{rest:List Oper}{Q:Exit→Act→World→Prop}{k m sz:Nat}{x y:Operand}{ty t et X_:TypeId}{p:String}{e:Array Edge}{es:List Δ}(S:PS w0 N c E Bx γ a w)(hx:bI (lk E) x (.k (.slice none 0 0)))(hy:bI (lk E) y (.sl m 1 1))(hm:lk Bx m=some (X_,es))(hle:es.length=sz)(h1:es.all Δ.c1=true)(hB:apB P ty et sz=true)(hk:Nat.blt k N=true)
 (next:∀(cap:Nat) (gs:List Value) γ' a' w',1≤cap→cap≤maxLen→(es++gs.map Δ.k).length=cap*sz→PS w0 N (c+1) ((k,.sl c 1 cap)::E) ((c,et,es++gs.map Δ.k)::Bx) γ' a' w'→wpList P ops Q rest a' w'):wpList P ops Q (⟨some k,.call ⟨.builtin .append,#[x,y],#[ty,ty]⟩,t,p,e,none⟩::rest) a w:=by
 obtain⟨ie,z,hu,hi,hz,hsz,hby,hzs,h0⟩:=wW hB
 have ex:a.eval x= .slice none 0 0:=hx.ev S.env
 obtain⟨r,hr,ey⟩:=hy.ev S.env
 obtain⟨r',ys,hr',hgr,hes⟩:=S.box m _ hm
 obtain rfl:r=r':=Option.some.inj (hr.symm.trans hr')
 have Hg:ys.length=es.length:=hes.len
 have hk':k<a.tmps.size:=by rw[S.sz];exact Nat.blt_eq▸hk
 refine wpList_plain rfl fun K hK=>?_
 have Uk:∀u,u∈ys→u.oneCell'=true:=fun u hu=>List.all_eq_true.1 (hes.one h1) u hu
 obtain⟨v',w',hrun,how,hgrow,_,hat⟩:=run_append_own_at (P:=P) w w.heap.size ty t et ie z sz ie.bytes hu hi hz hsz rfl hzs h0 (.slice none 0 0) 0 [] (World.ownsRow_nil w _ et sz) ⟨r,0,none⟩ 1 1 ys om (fun j u h=>pX hgr (n:=ys.length) j u (by rw[List.take_length];exact h)) Uk (by unfold maxLen;omega) om (Nat.le_refl _)
 rw[Nat.zero_add,List.nil_append]at how
 unfold Oper.wp execOp
 simp only[resolve,invoke,builtin,Sem.run_bind,Sem.run_pure,Result.andThen_ok,List.map_toArray,List.map_cons,List.map_nil,ex,ey,hrun]
 refine hK _ _ ?_
 rcases how.2 with ⟨_,h⟩|⟨g,cap,cur,rfl,hbg,hgg,hnc,hcm,hcs,htk⟩
 ·omega
 have hbl:Below w.heap.size w w':=⟨hgrow.os,hgrow.tape,hgrow.output,hgrow.size,fun k hk=>hgrow.block k hk (by simp[Value.ownBlock])⟩
 have hlt:g<w'.heap.size:=(Array.getElem?_eq_some_iff.1 hgg).1
 obtain⟨hs,hW⟩:=Uj S.W (Nat.le_refl c) hbl hbg hlt
 have wX:cur.toList=ys++cur.toList.drop (1*sz):=by
  rw[←htk,List.take_append_drop]
 refine next cap (cur.toList.drop (1*sz)) (γ.box c g) _ w' hnc hcm ?_ ⟨hW.sub fun i hi=>⟨om,om⟩,by show(a.tmps.setIfInBounds k _).size=N;simp[S.sz],S.df,fun t d ht=>?_,fun i b h=>?_⟩
 ·have:=congrArg List.length wX;simp only[List.length_append,List.length_map,Array.length_toList]at this ⊢;omega
 ·rcases aG ht with ⟨rfl,rfl⟩|⟨hne,ht⟩
  ·rw[put_eq hk'];exact⟨g,kG _ _ _,rfl⟩
  ·rw[gG hne];exact s2.up S.W hs (S.env t d ht)
 ·rcases aG h with ⟨rfl,rfl⟩|⟨hne,h⟩
  ·refine⟨g,cur.toList,kG _ _ _,by simpa using hgg,?_⟩;have h9:=(l0.up S.W hs hes).app (l0.k (w0:=w0) (γ:=γ.box c g) (w:=w') (cur.toList.drop (1*sz)));rw[←wX]at h9;exact h9
  ·exact(S.box i b h).up S.W hs fun q hq=>hbl.block q (S.W.bn i q hq).2
theorem s0.rb{w1:World}(hs:w1.heap.size≤w0.heap.size):∀{d:Δ} {x:Value},s0 w0 γ w d x→s0 w1 γ w d x
 | .k _,_,h=>h
 | .ow A t,x,⟨⟨m,hm,ho⟩,hk⟩=>⟨⟨m,hm,dX ho hs⟩,hk⟩
 | .rd _,_,h=>h
 | .rz _ _,_,h=>h
 | .p _ _,_,h=>h
 | .sl _ _ _,_,h=>h
 | .f _,_,h=>h
 | .g _,_,h=>h
 | .t _,_,h=>h
theorem l0.rb{w1:World}(hs:w1.heap.size≤w0.heap.size):∀{ds:List Δ} {xs:List Value},l0 w0 γ w ds xs→l0 w1 γ w ds xs
 |[],[],h=>h
 |_::_,_::_,h=>⟨s0.rb (γ:=γ) (w:=w) hs h.1,l0.rb hs h.2⟩
 |[],_::_,h=>h.elim
 |_::_,[],h=>h.elim
theorem s1.rb{w1:World}(hs:w1.heap.size≤w0.heap.size):∀{d:Δ} {x:Value},s1 w0 γ w d x→s1 w1 γ w d x
 | .g _,_,⟨xs,e,h⟩=>⟨xs,e,l0.rb (γ:=γ) (w:=w) hs h⟩
 | .k _,_,h=>s0.rb (γ:=γ) (w:=w) (d:= .k _) hs h
 | .ow _ _,_,h=>s0.rb (γ:=γ) (w:=w) (d:= .ow _ _) hs h
 | .rd _,_,h=>s0.rb (γ:=γ) (w:=w) (d:= .rd _) hs h
 | .rz _ _,_,h=>s0.rb (γ:=γ) (w:=w) (d:= .rz _ _) hs h
 | .p _ _,_,h=>s0.rb (γ:=γ) (w:=w) (d:= .p _ _) hs h
 | .sl _ _ _,_,h=>s0.rb (γ:=γ) (w:=w) (d:= .sl _ _ _) hs h
 | .f _,_,h=>s0.rb (γ:=γ) (w:=w) (d:= .f _) hs h
 | .t _,_,h=>h
theorem l1.rb{w1:World}(hs:w1.heap.size≤w0.heap.size):∀{ds:List Δ} {xs:List Value},l1 w0 γ w ds xs→l1 w1 γ w ds xs
 |[],[],h=>h
 |_::_,_::_,h=>⟨s1.rb (γ:=γ) (w:=w) hs h.1,l1.rb hs h.2⟩
 |[],_::_,h=>h.elim
 |_::_,[],h=>h.elim
theorem s2.rb{w1:World}(hs:w1.heap.size≤w0.heap.size):∀{d:Δ} {x:Value},s2 w0 γ w d x→s2 w1 γ w d x
 | .t _,_,⟨xs,e,h⟩=>⟨xs,e,l1.rb (γ:=γ) (w:=w) hs h⟩
 | .g _,_,h=>s1.rb (γ:=γ) (w:=w) (d:= .g _) hs h
 | .k _,_,h=>s0.rb (γ:=γ) (w:=w) (d:= .k _) hs h
 | .ow _ _,_,h=>s0.rb (γ:=γ) (w:=w) (d:= .ow _ _) hs h
 | .rd _,_,h=>s0.rb (γ:=γ) (w:=w) (d:= .rd _) hs h
 | .rz _ _,_,h=>s0.rb (γ:=γ) (w:=w) (d:= .rz _ _) hs h
 | .p _ _,_,h=>s0.rb (γ:=γ) (w:=w) (d:= .p _ _) hs h
 | .sl _ _ _,_,h=>s0.rb (γ:=γ) (w:=w) (d:= .sl _ _ _) hs h
 | .f _,_,h=>s0.rb (γ:=γ) (w:=w) (d:= .f _) hs h
theorem PS.rb{w1:World}(S:PS w0 N c E Bx γ a w)(hs:w1.heap.size≤w0.heap.size)(hj:Jw w1)(hb:Below w1.heap.size w1 w):PS w1 N c E Bx γ a w:=
 ⟨⟨hj,hb,fun i b h=>⟨Nat.le_trans hs (S.W.bn i b h).1,(S.W.bn i b h).2⟩,S.W.bi,fun t q h=>⟨Nat.le_trans hs (S.W.kn t q h).1,(S.W.kn t q h).2⟩,S.W.ki,S.W.fr⟩,S.sz,S.df,fun t d h=>s2.rb hs (S.env t d h),fun i b h=>by
   obtain⟨q,xs,h1,h2,h3⟩:=S.box i b h;exact⟨q,xs,h1,h2,l0.rb hs h3⟩⟩
def Δ.ka:Δ→Bool
 | .k _| .ow _ _| .p _ _| .sl _ _ _=>true
 |_=>false
theorem s0.ka{i g:Nat}(hn:γ.β i=none):∀{d:Δ} {x:Value},s0 w0 γ w d x→d.ka=true→s0 w0 (γ.box i g) w d x
 | .k _,_,h,_=>h
 | .ow A t,x,h,_=>h
 | .p j o,x,⟨b,h1,h2⟩,_=>⟨b,(sN γ g (fun e=>by subst e;rw[hn]at h1;cases h1)).trans h1,h2⟩
 | .sl j n m,x,⟨b,h1,h2⟩,_=>⟨b,(sN γ g (fun e=>by subst e;rw[hn]at h1;cases h1)).trans h1,h2⟩
 | .rd _,_,_,h=>by cases h
 | .rz _ _,_,_,h=>by cases h
 | .f _,_,_,h=>by cases h
 | .g _,_,_,h=>by cases h
 | .t _,_,_,h=>by cases h
theorem l0.ka{i g:Nat}(hn:γ.β i=none):∀{ds:List Δ} {xs:List Value},l0 w0 γ w ds xs→ds.all Δ.ka=true→l0 w0 (γ.box i g) w ds xs
 |[],[],h,_=>h
 |_::_,_::_,h,h2=>by
  simp only[List.all_cons,Bool.and_eq_true]at h2;exact⟨s0.ka hn h.1 h2.1,l0.ka hn h.2 h2.2⟩
 |[],_::_,h,_=>h.elim
 |_::_,[],h,_=>h.elim
end
section
open Go Go.RowKit Go.Proofs Ab
variable {w0 w w':World} {γ γ':Gh} {N c:Nat} {E:En} {Bx:Bs} {a:Act} {P:Program} {F:Nat→Prop}
theorem qY{w:World}{b o:Nat}{ty:TypeId}{v:Value}(hc:(w.cell? ⟨b,o,none⟩).isSome=true)(hf:w.frozen? ⟨b,o,none⟩=false)(hi:(P.info? ty).map (·.size)=some 1)(h1:v.oneCell'=true):(storeVar ty ⟨b,o,none⟩ v).run P w= .ok () (w.setCells b o [v]):=by
 have:=run_storeCells_cells (P:=P) b o [v] 0 w (fun j hj=>by obtain rfl:j=0:=(by simpa using hj);simpa using hc) (fun j hj=>by obtain rfl:j=0:=(by simpa using hj);simpa using hf) (fun x hx=>by simp at hx;subst hx;exact h1);have hcs:v.cells=#[v]:=by cases v<;>first|rfl|cases h1
 cases hq:P.info? ty with
 |none=>simp[hq]at hi
 |some i=>
  have hs:i.size=1:=by simpa[hq]using hi
  simp only[Nat.add_zero]at this;simp[storeVar,sizeOf,typeInfo,hq,hcs,hs,this]
theorem Zp{ops:Array Oper}{rest:List Oper}{Q:Exit→Act→World→Prop}{dst:Option Tmp}{ty t:TypeId}{x y:Operand}{p:String}{e:Array Edge}{j o:Nat}{bt:TypeId}{ds:List Δ}{d:Δ}(S:PS w0 N c E Bx γ a w)(hx:bI (lk E) x (.p j o))(hb:lk Bx j=some (bt,ds))(hy:bI (lk E) y d)(hi:(P.info? ty).map (·.size)=some 1)(hl:Nat.blt o ds.length=true)(h1:d.c1=true)(hg:d.ka=true)(hd:dst=none)
 (next:∀a' w',PS w0 N c E ((j,bt,ds.set o d)::Bx) γ a' w'→wpList P ops Q rest a' w'):wpList P ops Q (⟨dst,.store ty x y,t,p,e,none⟩::rest) a w:=by
 obtain⟨q,hq,ex⟩:=hx.ev S.env
 obtain⟨q',xs,hq',hg',hds⟩:=S.box j _ hb
 obtain rfl:q=q':=Option.some.inj (hq.symm.trans hq')
 have hv:s0 w0 γ w d (a.eval y):=by
  have h2:=hy.ev S.env;cases d<;>first|exact h2|cases hg
 have hlx:xs.length=ds.length:=hds.len
 have hl:o<ds.length:=Nat.blt_eq▸hl
 have hv1:=hv.one h1
 obtain⟨g1,ho,hsz,hos,htp,hou⟩:=oC q bt [a.eval y] o w xs hg'
 refine wpList_plain rfl fun K hK=>?_
 unfold Oper.wp execOp
 simp only[ex,Instr.storeAt,Instr.sureAddr,Sem.run_bind,Sem.run_pure,Result.andThen_ok,qY (P:=P) (w:=w) (b:=q) (o:=o) (ty:=ty) (by rw[jM hg' (List.getElem?_eq_getElem om)];rfl) (by simp[World.frozen?,hg']) hi hv1]
 refine hK _ _ ?_
 subst hd
 show wpList P ops Q rest (a.put none undef) (w.setCells q o [a.eval y])
 have hnq:=S.W.bn j q hq
 generalize w.setCells q o [a.eval y]=w2 at*
 refine next _ _ ?_
 have hs:St γ w γ w2:=⟨Nat.le_of_eq hsz.symm,fun k hk hn=>ho k fun e=>hn j (e▸hq),fun _ _ h=>h,fun _ _ h=>h,fun _ _ h=> .inl h⟩
 refine⟨S.W.Ep (w':=w2) ⟨hos,htp,hou,Nat.le_of_eq hsz.symm,fun k hk=>ho k om⟩,S.sz,S.df,fun t d h=>s2.up S.W hs (S.env t d h),fun i b h=>?_⟩
 rcases aG h with ⟨rfl,rfl⟩|⟨hne,h⟩
 ·exact⟨q,pS xs o [a.eval y],hq,g1,l0.up S.W hs (hds.set hv)⟩
 ·exact(S.box i b h).up S.W hs fun k hk=>ho k fun e=>hne (S.W.bi i j q (e▸hk) hq).symm
def Δ.kf:Δ→Bool
 | .k _| .p _ _| .sl _ _ _=>true
 |_=>false
theorem s0.kf{w1:World}:∀{d:Δ} {x:Value},s0 w0 γ w d x→d.kf=true→s0 w0 γ w1 d x
 | .k _,_,h,_=>h
 | .p _ _,_,h,_=>h
 | .sl _ _ _,_,h,_=>h
 | .ow _ _,_,_,h=>by cases h
 | .rd _,_,_,h=>by cases h
 | .rz _ _,_,_,h=>by cases h
 | .f _,_,_,h=>by cases h
 | .g _,_,_,h=>by cases h
 | .t _,_,_,h=>by cases h
theorem l0.kf{w1:World}:∀{ds:List Δ} {xs:List Value},l0 w0 γ w ds xs→ds.all Δ.kf=true→l0 w0 γ w1 ds xs
 |[],[],h,_=>h
 |_::_,_::_,h,h2=>by
  simp only[List.all_cons,Bool.and_eq_true]at h2;exact⟨s0.kf h.1 h2.1,l0.kf h.2 h2.2⟩
 |[],_::_,h,_=>h.elim
 |_::_,[],h,_=>h.elim
end
section
open Go Go.RowKit Go.Proofs Ab
variable {w0 w w':World} {γ:Gh} {N i c:Nat} {R:Nat→Option Δ} {Bx:Bs}
variable {dst:Option Tmp} {x y:Operand} {t bt:TypeId} {p:String} {e:Array Edge} {gd:Option (Nat×Bool)} {k n m j:Nat} {kk:IntKind} {z:Int} {d:Δ} {ds:List Δ}
theorem fa_p0(h:bI R x (.p j k)):Ok Tryz.prog w0 N ⟨dst,.fieldAddr 41 x 0,t,p,e,gd⟩ i R Bx (.p j (k+0)) none:=uC h kf
theorem fa_p1(h:bI R x (.p j k)):Ok Tryz.prog w0 N ⟨dst,.fieldAddr 41 x 1,t,p,e,gd⟩ i R Bx (.p j (k+3)) none:=uC h kf
theorem fa_p2(h:bI R x (.p j k)):Ok Tryz.prog w0 N ⟨dst,.fieldAddr 41 x 2,t,p,e,gd⟩ i R Bx (.p j (k+4)) none:=uC h kf
theorem ld_s(h:bI R x (.p j k))(hb:lk Bx j=some (bt,ds))(hd:ds[k]? =some d):Ok Tryz.prog w0 N ⟨dst,.load 38 x,t,p,e,gd⟩ i R Bx d none:=yE h hb kf kf hd
theorem ld_t(h:bI R x (.p j k))(hb:lk Bx j=some (bt,ds))(hd:ds[k]? =some d):Ok Tryz.prog w0 N ⟨dst,.load 39 x,t,p,e,gd⟩ i R Bx d none:=yE h hb kf kf hd
theorem ld_u(h:bI R x (.p j k))(hb:lk Bx j=some (bt,ds))(hd:ds[k]? =some d):Ok Tryz.prog w0 N ⟨dst,.load 62 x,t,p,e,gd⟩ i R Bx d none:=yE h hb kf kf hd
theorem ld_v(h:bI R x (.p j k))(hb:lk Bx j=some (bt,ds))(hd:ds[k]? =some d):Ok Tryz.prog w0 N ⟨dst,.load 64 x,t,p,e,gd⟩ i R Bx d none:=yE h hb kf kf hd
theorem ld_w(h:bI R x (.p j k))(hb:lk Bx j=some (bt,ds))(hd:ds[k]? =some d):Ok Tryz.prog w0 N ⟨dst,.load 31 x,t,p,e,gd⟩ i R Bx d none:=yE h hb kf kf hd
theorem ix_s(h:bI R x (.sl j n m))(hy:bI R y (.k (.int kk z)))(hz:(decide (0≤z)&&decide (z<(n:Int)))=true):Ok Tryz.prog w0 N ⟨dst,.indexAddr 38 x y,t,p,e,gd⟩ i R Bx (.p j (z.toNat*1)) none:=G7 h hy kf hz
theorem ix_t(h:bI R x (.sl j n m))(hy:bI R y (.k (.int kk z)))(hz:(decide (0≤z)&&decide (z<(n:Int)))=true):Ok Tryz.prog w0 N ⟨dst,.indexAddr 39 x y,t,p,e,gd⟩ i R Bx (.p j (z.toNat*1)) none:=G7 h hy kf hz
theorem ix_u(h:bI R x (.sl j n m))(hy:bI R y (.k (.int kk z)))(hz:(decide (0≤z)&&decide (z<(n:Int)))=true):Ok Tryz.prog w0 N ⟨dst,.indexAddr 62 x y,t,p,e,gd⟩ i R Bx (.p j (z.toNat*2)) none:=G7 h hy kf hz
theorem ix_v(h:bI R x (.sl j n m))(hy:bI R y (.k (.int kk z)))(hz:(decide (0≤z)&&decide (z<(n:Int)))=true):Ok Tryz.prog w0 N ⟨dst,.indexAddr 64 x y,t,p,e,gd⟩ i R Bx (.p j (z.toNat*3)) none:=G7 h hy kf hz
theorem ix_w(h:bI R x (.sl j n m))(hy:bI R y (.k (.int kk z)))(hz:(decide (0≤z)&&decide (z<(n:Int)))=true):Ok Tryz.prog w0 N ⟨dst,.indexAddr 23 x y,t,p,e,gd⟩ i R Bx (.p j (z.toNat*1)) none:=G7 h hy kf hz
theorem cv_w(h:bI R x (.k (.int .i64 z))):Ok Tryz.prog w0 N ⟨dst,.convert 3 31 x,t,p,e,gd⟩ i R Bx (.k (.int .u64 (IntKind.u64.wrap z))) none:=Zk h kf rfl
theorem bs_s(hy:bI R y d)(hw:d.ws=true):Ok Tryz.prog w0 N ⟨dst,.buildSlice 38 1 #[(0,y)],t,p,e,gd⟩ i R Bx (.sl i 1 1) (some (62,[d])):=Zl hy hw kf
theorem bs_t(hy:bI R y d)(hw:d.ws=true):Ok Tryz.prog w0 N ⟨dst,.buildSlice 39 1 #[(0,y)],t,p,e,gd⟩ i R Bx (.sl i 1 1) (some (64,[d])):=Zm hy hw kf
theorem pxl{p:Prop}(h:p:=by first
 |exact kU rfl|exact GI rfl|exact ok_np rfl
 |exact fa_p1 rfl|exact fa_p2 rfl|exact Y4 rfl|exact Y5 rfl|exact fa_p0 rfl
 |exact ld_s rfl rfl rfl|exact ld_t rfl rfl rfl|exact ld_u rfl rfl rfl|exact ld_v rfl rfl rfl|exact ld_n rfl rfl rfl|exact ld_w rfl rfl rfl
 |exact ok_ls rfl kf|exact Zi rfl kf
 |exact ix_s rfl rfl rfl|exact ix_t rfl rfl rfl|exact ix_u rfl rfl rfl|exact ix_v rfl rfl rfl|exact ix_w rfl rfl rfl
 |exact uD rfl rfl rfl rfl|exact cv_w rfl|exact ok_bw rfl kf|exact ok_bi1 rfl rfl|exact ok_bq1 rfl rfl|exact ok_i1 rfl rfl kf|exact ok_q1 rfl rfl rfl kf|exact bs_s rfl rfl|exact bs_t rfl rfl
 |exact qV rfl rfl rfl):p:=h
theorem PS.kq{E:En}{a:Act}(S:PS w0 N c E Bx γ a w)(c':Nat)(E':En)(B':Bs)(hc:c=c')(hE:BO E E')(hB:BO Bx B'):PS w0 N c' E' B' γ a w:=by
 subst hc;exact⟨S.W,S.sz,S.df,fun t d h=>S.env t d (ug hE h).1,fun i b h=>S.box i b (ug hB h).1⟩
theorem st_sN{P:Program}{N o:Nat}{E:En}{Bx:Bs}{ops:Array Oper}{dst:Option Tmp}{ty t bt:TypeId}{x y:Operand}{p:String}{e:Array Edge}{j:Nat}{ds es:List Δ}(hx:bI (lk E) x (.p j o))(hb:lk Bx j=some (bt,ds))(hy:bI (lk E) y (.g es))(hi:(P.info? ty).map (·.size)=some es.length)(hl:Nat.ble (o+es.length) ds.length=true)(h1:es.all Δ.c1=true)(hd:dst=none):Stp P w0 N c E Bx ops ⟨dst,.store ty x y,t,p,e,none⟩ c E ((j,bt,pS ds o es)::Bx):=⟨fun _ _ γ _ _ S kk=>ps_sn S hx hb hy hi hl h1 hd fun a' w' S'=>kk γ a' w' S'⟩
theorem goL{p:Prop}(h:p:=by first|exact GK pxl|exact KZ pxl rfl rfl rfl rfl|exact K_ rfl rfl rfl rfl|exact st_sN rfl rfl rfl kf rfl rfl rfl):p:=h
theorem dw{p q:Prop}(k:q)(h:PLift q→p:=by
 intro hq;(repeat (first|(show wpList _ _ _ (_::_) _ _;refine XM S goL ?_;intro x1 x2 x3 S)|refine wsr ?_|refine wsq ?_|refine b_ ?_));first|(revert x1 x2 x3;exact hq.down)|exact hq.down):p:=h ⟨k⟩
theorem PS.kr{E:En}{a:Act}(S:PS w0 N c E Bx γ a w)(c':Nat)(E':En)(B':Bs)(hc:c=c':=by rfl)(hE:BO E E':=by(repeat (first|exact trivial|refine⟨rfl,?_⟩)))(hB:BO Bx B':=by(repeat (first|exact trivial|refine⟨rfl,?_⟩))):PS w0 N c' E' B' γ a w:=S.kq c' E' B' hc hE hB
theorem yM{ops:Array Oper}{rest:List Oper}{Q:Exit→Act→World→Prop}{k j m n sz cap:Nat}{E:En}{a:Act}{P:Program}{x y:Operand}{ty t et X_:TypeId}{p:String}{e:Array Edge}{ds es:List Δ}(S:PS w0 N c E Bx γ a w)(hx:bI (lk E) x (.sl j n cap))(hb:lk Bx j=some (et,ds))(hy:bI (lk E) y (.sl m 1 1))(hm:lk Bx m=some (X_,es))(hnc:n≤cap)(hcm:cap≤maxLen)(hl:ds.length=cap*sz)(hle:es.length=sz)(h1:es.all Δ.c1=true)(hjs:es.all (Δ.m0 j)=true)(hjd:(ds.take (n*sz)).all (Δ.m0 j)=true)(hn:Nat.ble n 1000000=true)(hB:apB P ty et sz=true)(hk:Nat.blt k N=true)
 (E':En) (B':Bs)
 (next:∀(cap':Nat) (gs:List Value) γ' a' w',n+1≤cap'→cap'≤maxLen→(ds.take (n*sz)++(es++gs.map Δ.k)).length=cap'*sz→PS w0 N c ((k,.sl j (n+1) cap')::E') ((j,et,ds.take (n*sz)++(es++gs.map Δ.k))::B') γ' a' w'→wpList P ops Q rest a' w') (hE:BO E E':=by(repeat (first|exact trivial|refine⟨rfl,?_⟩))) (hEj:E'.all (fun p=>p.2.mj j)=true:=by rfl) (hB':BO Bx B':=by(repeat (first|exact trivial|refine⟨rfl,?_⟩))) (hBj:okB j B':=by(repeat (first|exact trivial|refine⟨rfl,?_⟩|refine⟨all_k _,?_⟩))):wpList P ops Q (⟨some k,.call ⟨.builtin .append,#[x,y],#[ty,ty]⟩,t,p,e,none⟩::rest) a w:=ps_ap S hx hb hy hm hnc hcm hl hle h1 hjs hjd hn hB hk E' B' hE hEj hB' hBj next
end
section
open Go Go.RowKit Go.Proofs Ab
variable {w0:World}
def w7(n:Nat):Nat×TypeId×List Δ:=(n,31,[.k (.int .u64 7)])
def nB:Δ:= .k (.bool false)
def nS:Δ:= .k (.slice none 0 0)
def lbx0(vl vf vu:Value)(c1 c2:Nat)(z0 z1:Value)(g0 g1 g2:List Value)(x0 x1 x2 x3 x4 x5 x6 x7 x8 x9 x10 x11 y0 y1 y2 y3 y4 y5 y6 y7 y8 y9 UN UO UQ y13 UR:Value):Bs:=[(0,41,.k vl:: .k vf:: .k vu:: .sl 1 1 c1:: .sl 2 1 c2:: .k z0:: .k z1::g0.map Δ.k),(1,62,.sl 3 6 6::g1.map Δ.k),(2,64,.sl 4 5 5::g2.map Δ.k),(3,25,[.k x0,.k x1,.k x2,.k x3,.k x4,.k x5,.k x6,.k x7,.k x8,.k x9,.k x10,.k x11]),(4,29,[.k y0,.k y1,.k y2,.k y3,.k y4,.k y5,.k y6,.k y7,.k y8,.k y9,.k UN,.k UO,.k UQ,.k y13,.k UR])]
def lbx1(vl vf vu:Value)(c1 c2:Nat)(z0 z1:Value)(g0 g1 g2:List Value):Bs:=[(0,41,.k vl:: .k vf:: .k vu:: .sl 1 1 c1:: .sl 2 1 c2:: .k z0:: .k z1::g0.map Δ.k),(1,62,.sl 3 6 6::g1.map Δ.k),(2,64,.sl 4 5 5::g2.map Δ.k),(3,25,[nB,.sl 37 1 1,nB,.sl 64 1 1,nB,.sl 91 1 1,nB,.sl 118 1 1,nB,.sl 145 1 1,nB,.sl 172 1 1]),(4,29,[nB,nS,.sl 228 1 1,nB,nS,.sl 255 1 1,nB,nS,.sl 282 1 1,nB,nS,.sl 309 1 1,nB,nS,.sl 336 1 1]),w7 37,w7 64,w7 91,w7 118,w7 145,w7 172,w7 228,w7 255,w7 282,w7 309,w7 336]
theorem Ya{γ:Gh}{ac:Act}{w:World}{Q:Exit→Act→World→Prop}{c1 c2:Nat}{vl vf vu z0 z1:Value}{g0 g1 g2:List Value}{x0 x1 x2 x3 x4 x5 x6 x7 x8 x9 x10 x11 y0 y1 y2 y3 y4 y5 y6 y7 y8 y9 UN UO UQ y13 UR:Value}
 (S:PS w0 278 5 [(0,.p 0 0)] (lbx0 vl vf vu c1 c2 z0 z1 g0 g1 g2 x0 x1 x2 x3 x4 x5 x6 x7 x8 x9 x10 x11 y0 y1 y2 y3 y4 y5 y6 y7 y8 y9 UN UO UQ y13 UR) γ ac w)
 (kk:∀γ a w,PS w0 278 362 [(0,.p 0 0),(3,.k (.slice none 0 0)),(4,.k (.slice none 0 0))] (lbx1 vl vf vu c1 c2 z0 z1 g0 g1 g2) γ a w→(qd 6 (qf Tryz.f27)).wp Tryz.prog Q a w):
 (qd 2 (qf Tryz.f27)).wp Tryz.prog Q ac w:=by
 refine dw ?_
 clear S
 intro _ _ _ S
 refine wp_block ?_
 refine wp_loop_rounds 2 (dw ?_)
 clear S
 intro _ _ _ S
 refine aW S rfl (rfl) ?_
 refine wp_skip ?_
 refine wp_seq ?_
 refine wp_block (dw ?_)
 clear S
 intro _ _ _ S
 refine wp_block ?_
 refine wp_loop_rounds 7 (dw ?_)
 clear S
 intro _ _ _ S
 refine aW S rfl (rfl) ?_
 refine wp_skip ?_
 refine wp_seq ?_
 refine wp_block ?_
 refine wp_region_lit (dw ?_)
 clear S
 intro _ _ _ S
 refine wp_region_lit (dw ?_)
 clear S
 intro _ _ _ S
 replace S:=S.kr 53 [(0,.p 0 0),(3,.k (.slice none 0 0)),(4,.k (.slice none 0 0)),(5,.k (.int .i64 0)),(6,.k (.int .i64 1)),(42,.k (.bool true))] [(0,_),(1,_),(2,_),(3,_),(4,_),(37,_)]
 refine aW S rfl (rfl) ?_
 refine wp_skip ?_
 refine wp_seq ?_
 refine wp_block ?_
 refine wp_region_lit (dw ?_)
 clear S
 intro _ _ _ S
 refine wp_region_lit (dw ?_)
 clear S
 intro _ _ _ S
 replace S:=S.kr 80 [(0,.p 0 0),(3,.k (.slice none 0 0)),(4,.k (.slice none 0 0)),(5,.k (.int .i64 0)),(6,.k (.int .i64 2)),(42,.k (.bool true))] [(0,_),(1,_),(2,_),(3,_),(4,_),(37,_),(64,_)]
 refine aW S rfl (rfl) ?_
 refine wp_skip ?_
 refine wp_seq ?_
 refine wp_block ?_
 refine wp_region_lit (dw ?_)
 clear S
 intro _ _ _ S
 refine wp_region_lit (dw ?_)
 clear S
 intro _ _ _ S
 replace S:=S.kr 107 [(0,.p 0 0),(3,.k (.slice none 0 0)),(4,.k (.slice none 0 0)),(5,.k (.int .i64 0)),(6,.k (.int .i64 3)),(42,.k (.bool true))] [(0,_),(1,_),(2,_),(3,_),(4,_),(37,_),(64,_),(91,_)]
 refine aW S rfl (rfl) ?_
 refine wp_skip ?_
 refine wp_seq ?_
 refine wp_block ?_
 refine wp_region_lit (dw ?_)
 clear S
 intro _ _ _ S
 refine wp_region_lit (dw ?_)
 clear S
 intro _ _ _ S
 replace S:=S.kr 134 [(0,.p 0 0),(3,.k (.slice none 0 0)),(4,.k (.slice none 0 0)),(5,.k (.int .i64 0)),(6,.k (.int .i64 4)),(42,.k (.bool true))] [(0,_),(1,_),(2,_),(3,_),(4,_),(37,_),(64,_),(91,_),(118,_)]
 refine aW S rfl (rfl) ?_
 refine wp_skip ?_
 refine wp_seq ?_
 refine wp_block ?_
 refine wp_region_lit (dw ?_)
 clear S
 intro _ _ _ S
 refine wp_region_lit (dw ?_)
 clear S
 intro _ _ _ S
 replace S:=S.kr 161 [(0,.p 0 0),(3,.k (.slice none 0 0)),(4,.k (.slice none 0 0)),(5,.k (.int .i64 0)),(6,.k (.int .i64 5)),(42,.k (.bool true))] [(0,_),(1,_),(2,_),(3,_),(4,_),(37,_),(64,_),(91,_),(118,_),(145,_)]
 refine aW S rfl (rfl) ?_
 refine wp_skip ?_
 refine wp_seq ?_
 refine wp_block ?_
 refine wp_region_lit (dw ?_)
 clear S
 intro _ _ _ S
 refine wp_region_lit (dw ?_)
 clear S
 intro _ _ _ S
 replace S:=S.kr 188 [(0,.p 0 0),(3,.k (.slice none 0 0)),(4,.k (.slice none 0 0)),(5,.k (.int .i64 0)),(6,.k (.int .i64 6)),(42,.k (.bool false))] [(0,_),(1,_),(2,_),(3,_),(4,_),(37,_),(64,_),(91,_),(118,_),(145,_),(172,_)]
 refine aK S rfl rfl (wp_exit ?_)
 refine wp_region_lit (dw ?_)
 clear S
 intro _ _ _ S
 replace S:=S.kr 198 [(0,.p 0 0),(3,.k (.slice none 0 0)),(4,.k (.slice none 0 0)),(30,.k (.bool false))] [(0,_),(1,_),(2,_),(3,_),(4,_),(37,_),(64,_),(91,_),(118,_),(145,_),(172,_)]
 refine aK S rfl rfl (wp_exit (dw ?_))
 clear S
 intro _ _ _ S
 refine wp_block ?_
 refine wp_loop_rounds 2 (dw ?_)
 clear S
 intro _ _ _ S
 refine aW S rfl (rfl) ?_
 refine wp_skip ?_
 refine wp_seq ?_
 refine wp_block (dw ?_)
 clear S
 intro _ _ _ S
 refine wp_block ?_
 refine wp_loop_rounds 6 (dw ?_)
 clear S
 intro _ _ _ S
 refine aW S rfl (rfl) ?_
 refine wp_skip ?_
 refine wp_seq ?_
 refine wp_block ?_
 refine wp_region_lit (dw ?_)
 clear S
 intro _ _ _ S
 refine wp_region_lit (dw ?_)
 clear S
 intro _ _ _ S
 replace S:=S.kr 244 [(0,.p 0 0),(3,.k (.slice none 0 0)),(4,.k (.slice none 0 0)),(7,.k (.int .i64 0)),(8,.k (.int .i64 1)),(77,.k (.bool true))] [(0,_),(1,_),(2,_),(3,_),(4,_),(37,_),(64,_),(91,_),(118,_),(145,_),(172,_),(228,_)]
 refine aW S rfl (rfl) ?_
 refine wp_skip ?_
 refine wp_seq ?_
 refine wp_block ?_
 refine wp_region_lit (dw ?_)
 clear S
 intro _ _ _ S
 refine wp_region_lit (dw ?_)
 clear S
 intro _ _ _ S
 replace S:=S.kr 271 [(0,.p 0 0),(3,.k (.slice none 0 0)),(4,.k (.slice none 0 0)),(7,.k (.int .i64 0)),(8,.k (.int .i64 2)),(77,.k (.bool true))] [(0,_),(1,_),(2,_),(3,_),(4,_),(37,_),(64,_),(91,_),(118,_),(145,_),(172,_),(228,_),(255,_)]
 refine aW S rfl (rfl) ?_
 refine wp_skip ?_
 refine wp_seq ?_
 refine wp_block ?_
 refine wp_region_lit (dw ?_)
 clear S
 intro _ _ _ S
 refine wp_region_lit (dw ?_)
 clear S
 intro _ _ _ S
 replace S:=S.kr 298 [(0,.p 0 0),(3,.k (.slice none 0 0)),(4,.k (.slice none 0 0)),(7,.k (.int .i64 0)),(8,.k (.int .i64 3)),(77,.k (.bool true))] [(0,_),(1,_),(2,_),(3,_),(4,_),(37,_),(64,_),(91,_),(118,_),(145,_),(172,_),(228,_),(255,_),(282,_)]
 refine aW S rfl (rfl) ?_
 refine wp_skip ?_
 refine wp_seq ?_
 refine wp_block ?_
 refine wp_region_lit (dw ?_)
 clear S
 intro _ _ _ S
 refine wp_region_lit (dw ?_)
 clear S
 intro _ _ _ S
 replace S:=S.kr 325 [(0,.p 0 0),(3,.k (.slice none 0 0)),(4,.k (.slice none 0 0)),(7,.k (.int .i64 0)),(8,.k (.int .i64 4)),(77,.k (.bool true))] [(0,_),(1,_),(2,_),(3,_),(4,_),(37,_),(64,_),(91,_),(118,_),(145,_),(172,_),(228,_),(255,_),(282,_),(309,_)]
 refine aW S rfl (rfl) ?_
 refine wp_skip ?_
 refine wp_seq ?_
 refine wp_block ?_
 refine wp_region_lit (dw ?_)
 clear S
 intro _ _ _ S
 refine wp_region_lit (dw ?_)
 clear S
 intro _ _ _ S
 replace S:=S.kr 352 [(0,.p 0 0),(3,.k (.slice none 0 0)),(4,.k (.slice none 0 0)),(7,.k (.int .i64 0)),(8,.k (.int .i64 5)),(77,.k (.bool false))] [(0,_),(1,_),(2,_),(3,_),(4,_),(37,_),(64,_),(91,_),(118,_),(145,_),(172,_),(228,_),(255,_),(282,_),(309,_),(336,_)]
 refine aK S rfl rfl (wp_exit ?_)
 refine wp_region_lit (dw ?_)
 clear S
 intro _ _ _ S
 replace S:=S.kr 362 [(0,.p 0 0),(3,.k (.slice none 0 0)),(4,.k (.slice none 0 0)),(65,.k (.bool false))] [(0,_),(1,_),(2,_),(3,_),(4,_),(37,_),(64,_),(91,_),(118,_),(145,_),(172,_),(228,_),(255,_),(282,_),(309,_),(336,_)]
 replace S:=S.kr 362 [(0,.p 0 0),(3,.k (.slice none 0 0)),(4,.k (.slice none 0 0)),(65,.k (.bool false))] [(0,_),(1,_),(2,_),(3,_),(4,_),(37,_),(64,_),(91,_),(118,_),(145,_),(172,_),(228,_),(255,_),(282,_),(309,_),(336,_)]
 refine aK S rfl rfl (wp_exit ?_)
 refine kk _ _ _ (S.kr 362 [(0,.p 0 0),(3,.k (.slice none 0 0)),(4,.k (.slice none 0 0))] [(0,_),(1,_),(2,_),(3,_),(4,_),(37,_),(64,_),(91,_),(118,_),(145,_),(172,_),(228,_),(255,_),(282,_),(309,_),(336,_)])
end
section
open Go Go.RowKit Go.Proofs Ab
variable {w0:World}
def lbx2(vl vf vu:Value)(c1 c2:Nat)(z0 z1:Value)(g0 g1 g2 JV:List Value)(Hl:Nat)(gz:List Value):Bs:=[(0,41,.k vl:: .k vf:: .k vu:: .sl 1 1 c1:: .sl 2 1 c2:: .k z0:: .k z1::g0.map Δ.k),(1,62,.sl 3 6 6::g1.map Δ.k),(2,64,.sl 4 5 5::g2.map Δ.k),(3,25,[nB,.sl 37 1 1,nB,.sl 64 1 1,nB,.sl 91 1 1,nB,.sl 118 1 1,nB,.sl 145 1 1,nB,.sl 172 1 1]),(4,29,[nB,nS,.sl 228 1 1,nB,nS,.sl 255 1 1,nB,nS,.sl 282 1 1,nB,nS,.sl 309 1 1,nB,nS,.sl 336 1 1]),w7 37,w7 64,w7 91,w7 118,w7 145,w7 172,w7 228,w7 255,w7 282,w7 309,w7 336,w7 385,(388,25,nB:: .sl 37 1 1::nB:: .sl 64 1 1::nB:: .sl 91 1 1::nB:: .sl 118 1 1::nB:: .sl 145 1 1::nB:: .sl 172 1 1::nB:: .sl 385 1 1::nB:: .sl 399 1 1::nB:: .sl 412 1 1::nB:: .sl 425 1 1::nB:: .sl 438 1 1::JV.map Δ.k),w7 399,w7 412,w7 425,w7 438,(450,62,.sl 388 11 Hl::gz.map Δ.k)]
theorem Yb{γ:Gh}{ac:Act}{w:World}{Q:Exit→Act→World→Prop}{c1 c2:Nat}{vl vf vu z0 z1:Value}{g0 g1 g2:List Value}
 (S:PS w0 278 362 [(0,.p 0 0),(3,.k (.slice none 0 0)),(4,.k (.slice none 0 0))] (lbx1 vl vf vu c1 c2 z0 z1 g0 g1 g2) γ ac w)
 (kk:∀(Hl:Nat) (JV:List Value) (cz:Nat) (gz:List Value) γ a w,PS w0 278 462 [(0,.p 0 0),(3,.sl 450 1 cz),(4,.k (.slice none 0 0))] (lbx2 vl vf vu c1 c2 z0 z1 g0 g1 g2 JV Hl gz) γ a w→(qd 7 (qf Tryz.f27)).wp Tryz.prog Q a w):
 (qd 6 (qf Tryz.f27)).wp Tryz.prog Q ac w:=by
 refine dw ?_
 clear S
 intro _ _ _ S
 refine wp_block ?_
 refine wp_loop_rounds 2 (dw ?_)
 clear S
 intro _ _ _ S
 refine aW S rfl (rfl) ?_
 refine wp_skip ?_
 refine wp_seq ?_
 refine wp_block (dw ?_)
 clear S
 intro _ _ _ S
 refine wp_block ?_
 refine wp_loop_rounds 6 (dw ?_)
 clear S
 intro _ _ _ S
 refine aW S rfl (rfl) ?_
 refine wp_skip ?_
 refine wp_seq ?_
 refine wp_block ?_
 refine wp_region_lit (dw ?_)
 clear S
 intro _ _ _ S
 refine Zn (sz:=2) S rfl rfl rfl rfl rfl rfl rfl rfl kf rfl ?_
 clear S
 intro ca0 ga0 _ _ _ hc0 hm0 hl0 S
 refine dw ?_
 clear S
 intro _ _ _ S
 refine wp_region_lit (dw ?_)
 clear S
 intro _ _ _ S
 replace S:=S.kr 395 [(0,.p 0 0),(3,.k (.slice none 0 0)),(4,.k (.slice none 0 0)),(9,.k (.int .i64 0)),(10,.sl 388 7 ca0),(11,.k (.int .i64 1)),(111,.k (.bool true))] [(0,_),(1,_),(2,_),(3,_),(4,_),(37,_),(64,_),(91,_),(118,_),(145,_),(172,_),(228,_),(255,_),(282,_),(309,_),(336,_),(385,_),(388,_)]
 refine aW S rfl (rfl) ?_
 refine wp_skip ?_
 refine wp_seq ?_
 refine wp_block ?_
 refine wp_region_lit (dw ?_)
 clear S
 intro _ _ _ S
 refine yM (sz:=2) S rfl rfl rfl rfl hc0 hm0 hl0 rfl rfl rfl rfl rfl kf rfl [(0,.p 0 0),(3,.k (.slice none 0 0)),(4,.k (.slice none 0 0)),(9,.k (.int .i64 0)),(11,.k (.int .i64 1))] [(0,_),(1,_),(2,_),(3,_),(4,_),(37,_),(64,_),(91,_),(118,_),(145,_),(172,_),(228,_),(255,_),(282,_),(309,_),(336,_),(385,_),(399,_)] ?_
 clear S
 intro ca1 ga1 _ _ _ hc1 hm1 hl1 S
 refine dw ?_
 clear S
 intro _ _ _ S
 refine wp_region_lit (dw ?_)
 clear S
 intro _ _ _ S
 replace S:=S.kr 408 [(0,.p 0 0),(3,.k (.slice none 0 0)),(4,.k (.slice none 0 0)),(9,.k (.int .i64 0)),(10,.sl 388 8 ca1),(11,.k (.int .i64 2)),(111,.k (.bool true))] [(0,_),(1,_),(2,_),(3,_),(4,_),(37,_),(64,_),(91,_),(118,_),(145,_),(172,_),(228,_),(255,_),(282,_),(309,_),(336,_),(385,_),(388,_),(399,_)]
 refine aW S rfl (rfl) ?_
 refine wp_skip ?_
 refine wp_seq ?_
 refine wp_block ?_
 refine wp_region_lit (dw ?_)
 clear S
 intro _ _ _ S
 refine yM (sz:=2) S rfl rfl rfl rfl hc1 hm1 hl1 rfl rfl rfl rfl rfl kf rfl [(0,.p 0 0),(3,.k (.slice none 0 0)),(4,.k (.slice none 0 0)),(9,.k (.int .i64 0)),(11,.k (.int .i64 2))] [(0,_),(1,_),(2,_),(3,_),(4,_),(37,_),(64,_),(91,_),(118,_),(145,_),(172,_),(228,_),(255,_),(282,_),(309,_),(336,_),(385,_),(399,_),(412,_)] ?_
 clear S
 intro ca2 ga2 _ _ _ hc2 hm2 hl2 S
 refine dw ?_
 clear S
 intro _ _ _ S
 refine wp_region_lit (dw ?_)
 clear S
 intro _ _ _ S
 replace S:=S.kr 421 [(0,.p 0 0),(3,.k (.slice none 0 0)),(4,.k (.slice none 0 0)),(9,.k (.int .i64 0)),(10,.sl 388 9 ca2),(11,.k (.int .i64 3)),(111,.k (.bool true))] [(0,_),(1,_),(2,_),(3,_),(4,_),(37,_),(64,_),(91,_),(118,_),(145,_),(172,_),(228,_),(255,_),(282,_),(309,_),(336,_),(385,_),(388,_),(399,_),(412,_)]
 refine aW S rfl (rfl) ?_
 refine wp_skip ?_
 refine wp_seq ?_
 refine wp_block ?_
 refine wp_region_lit (dw ?_)
 clear S
 intro _ _ _ S
 refine yM (sz:=2) S rfl rfl rfl rfl hc2 hm2 hl2 rfl rfl rfl rfl rfl kf rfl [(0,.p 0 0),(3,.k (.slice none 0 0)),(4,.k (.slice none 0 0)),(9,.k (.int .i64 0)),(11,.k (.int .i64 3))] [(0,_),(1,_),(2,_),(3,_),(4,_),(37,_),(64,_),(91,_),(118,_),(145,_),(172,_),(228,_),(255,_),(282,_),(309,_),(336,_),(385,_),(399,_),(412,_),(425,_)] ?_
 clear S
 intro ca3 ga3 _ _ _ hc3 Yw hl3 S
 refine dw ?_
 clear S
 intro _ _ _ S
 refine wp_region_lit (dw ?_)
 clear S
 intro _ _ _ S
 replace S:=S.kr 434 [(0,.p 0 0),(3,.k (.slice none 0 0)),(4,.k (.slice none 0 0)),(9,.k (.int .i64 0)),(10,.sl 388 10 ca3),(11,.k (.int .i64 4)),(111,.k (.bool true))] [(0,_),(1,_),(2,_),(3,_),(4,_),(37,_),(64,_),(91,_),(118,_),(145,_),(172,_),(228,_),(255,_),(282,_),(309,_),(336,_),(385,_),(388,_),(399,_),(412,_),(425,_)]
 refine aW S rfl (rfl) ?_
 refine wp_skip ?_
 refine wp_seq ?_
 refine wp_block ?_
 refine wp_region_lit (dw ?_)
 clear S
 intro _ _ _ S
 refine yM (sz:=2) S rfl rfl rfl rfl hc3 Yw hl3 rfl rfl rfl rfl rfl kf rfl [(0,.p 0 0),(3,.k (.slice none 0 0)),(4,.k (.slice none 0 0)),(9,.k (.int .i64 0)),(11,.k (.int .i64 4))] [(0,_),(1,_),(2,_),(3,_),(4,_),(37,_),(64,_),(91,_),(118,_),(145,_),(172,_),(228,_),(255,_),(282,_),(309,_),(336,_),(385,_),(399,_),(412,_),(425,_),(438,_)] ?_
 clear S
 intro Hl JV _ _ _ hc4 hm4 hl4 S
 refine dw ?_
 clear S
 intro _ _ _ S
 refine wp_region_lit (dw ?_)
 clear S
 intro _ _ _ S
 replace S:=S.kr 447 [(0,.p 0 0),(3,.k (.slice none 0 0)),(4,.k (.slice none 0 0)),(9,.k (.int .i64 0)),(10,.sl 388 11 Hl),(11,.k (.int .i64 5)),(111,.k (.bool false))] [(0,_),(1,_),(2,_),(3,_),(4,_),(37,_),(64,_),(91,_),(118,_),(145,_),(172,_),(228,_),(255,_),(282,_),(309,_),(336,_),(385,_),(388,_),(399,_),(412,_),(425,_),(438,_)]
 refine aK S rfl rfl (wp_exit ?_)
 refine wp_region_lit (dw ?_)
 clear S
 intro _ _ _ S
 refine Zo (sz:=1) (et:=62) S rfl rfl rfl rfl rfl kf rfl ?_
 clear S
 intro cz gz _ _ _ _ _ _ S
 refine dw ?_
 clear S
 intro _ _ _ S
 refine wp_region_lit (dw ?_)
 clear S
 intro _ _ _ S
 replace S:=S.kr 462 [(0,.p 0 0),(3,.sl 450 1 cz),(4,.k (.slice none 0 0)),(100,.k (.bool false))] [(0,_),(1,_),(2,_),(3,_),(4,_),(37,_),(64,_),(91,_),(118,_),(145,_),(172,_),(228,_),(255,_),(282,_),(309,_),(336,_),(385,_),(388,_),(399,_),(412,_),(425,_),(438,_),(450,_)]
 refine aK S rfl rfl (wp_exit ?_)
 refine kk _ _ _ _ _ _ _ (S.kr 462 [(0,.p 0 0),(3,.sl 450 1 cz),(4,.k (.slice none 0 0))] [(0,_),(1,_),(2,_),(3,_),(4,_),(37,_),(64,_),(91,_),(118,_),(145,_),(172,_),(228,_),(255,_),(282,_),(309,_),(336,_),(385,_),(388,_),(399,_),(412,_),(425,_),(438,_),(450,_)])
end
section
open Go Go.RowKit Go.Proofs Ab
variable {w0:World}
def Ul(vl vf vu:Value)(c1 c2:Nat)(z0 z1:Value)(g0 g1 g2 JV:List Value)(Hl:Nat)(gz UT:List Value)(Um:Nat)(gy:List Value):Bs:=[(0,41,.k vl:: .k vf:: .k vu:: .sl 1 1 c1:: .sl 2 1 c2:: .k z0:: .k z1::g0.map Δ.k),(1,62,.sl 3 6 6::g1.map Δ.k),(2,64,.sl 4 5 5::g2.map Δ.k),(3,25,[nB,.sl 37 1 1,nB,.sl 64 1 1,nB,.sl 91 1 1,nB,.sl 118 1 1,nB,.sl 145 1 1,nB,.sl 172 1 1]),(4,29,[nB,nS,.sl 228 1 1,nB,nS,.sl 255 1 1,nB,nS,.sl 282 1 1,nB,nS,.sl 309 1 1,nB,nS,.sl 336 1 1]),w7 37,w7 64,w7 91,w7 118,w7 145,w7 172,w7 228,w7 255,w7 282,w7 309,w7 336,w7 385,(388,25,nB:: .sl 37 1 1::nB:: .sl 64 1 1::nB:: .sl 91 1 1::nB:: .sl 118 1 1::nB:: .sl 145 1 1::nB:: .sl 172 1 1::nB:: .sl 385 1 1::nB:: .sl 399 1 1::nB:: .sl 412 1 1::nB:: .sl 425 1 1::nB:: .sl 438 1 1::JV.map Δ.k),w7 399,w7 412,w7 425,w7 438,(450,62,.sl 388 11 Hl::gz.map Δ.k),w7 485,(488,29,nB::nS:: .sl 228 1 1::nB::nS:: .sl 255 1 1::nB::nS:: .sl 282 1 1::nB::nS:: .sl 309 1 1::nB::nS:: .sl 336 1 1::nB::nS:: .sl 485 1 1::nB::nS:: .sl 499 1 1::nB::nS:: .sl 512 1 1::nB::nS:: .sl 525 1 1::nB::nS:: .sl 538 1 1::UT.map Δ.k),w7 499,w7 512,w7 525,w7 538,(550,64,.sl 488 10 Um::gy.map Δ.k)]
theorem Yc{γ:Gh}{ac:Act}{w:World}{Q:Exit→Act→World→Prop}{c1 c2:Nat}{vl vf vu z0 z1:Value}{g0 g1 g2:List Value}{Hl cz:Nat}{JV gz:List Value}
 (S:PS w0 278 462 [(0,.p 0 0),(3,.sl 450 1 cz),(4,.k (.slice none 0 0))] (lbx2 vl vf vu c1 c2 z0 z1 g0 g1 g2 JV Hl gz) γ ac w)
 (kk:∀(Um:Nat) (UT:List Value) (cy:Nat) (gy:List Value) γ a w,PS w0 278 562 [(0,.p 0 0),(3,.sl 450 1 cz),(4,.sl 550 1 cy)] (Ul vl vf vu c1 c2 z0 z1 g0 g1 g2 JV Hl gz UT Um gy) γ a w→(qd 8 (qf Tryz.f27)).wp Tryz.prog Q a w):
 (qd 7 (qf Tryz.f27)).wp Tryz.prog Q ac w:=by
 refine dw ?_
 clear S
 intro _ _ _ S
 refine wp_block ?_
 refine wp_loop_rounds 2 (dw ?_)
 clear S
 intro _ _ _ S
 refine aW S rfl (rfl) ?_
 refine wp_skip ?_
 refine wp_seq ?_
 refine wp_block (dw ?_)
 clear S
 intro _ _ _ S
 refine wp_block ?_
 refine wp_loop_rounds 6 (dw ?_)
 clear S
 intro _ _ _ S
 refine aW S rfl (rfl) ?_
 refine wp_skip ?_
 refine wp_seq ?_
 refine wp_block ?_
 refine wp_region_lit (dw ?_)
 clear S
 intro _ _ _ S
 refine Zn (sz:=3) S rfl rfl rfl rfl rfl rfl rfl rfl kf rfl ?_
 clear S
 intro cb0 gb0 _ _ _ hc0 hm0 hl0 S
 refine dw ?_
 clear S
 intro _ _ _ S
 refine wp_region_lit (dw ?_)
 clear S
 intro _ _ _ S
 replace S:=S.kr 495 [(0,.p 0 0),(3,.sl 450 1 cz),(4,.k (.slice none 0 0)),(12,.k (.int .i64 0)),(13,.sl 488 6 cb0),(14,.k (.int .i64 1)),(143,.k (.bool true))] [(0,_),(1,_),(2,_),(3,_),(4,_),(37,_),(64,_),(91,_),(118,_),(145,_),(172,_),(228,_),(255,_),(282,_),(309,_),(336,_),(385,_),(388,_),(399,_),(412,_),(425,_),(438,_),(450,_),(485,_),(488,_)]
 refine aW S rfl (rfl) ?_
 refine wp_skip ?_
 refine wp_seq ?_
 refine wp_block ?_
 refine wp_region_lit (dw ?_)
 clear S
 intro _ _ _ S
 refine yM (sz:=3) S rfl rfl rfl rfl hc0 hm0 hl0 rfl rfl rfl rfl rfl kf rfl [(0,.p 0 0),(3,.sl 450 1 cz),(4,.k (.slice none 0 0)),(12,.k (.int .i64 0)),(14,.k (.int .i64 1))] [(0,_),(1,_),(2,_),(3,_),(4,_),(37,_),(64,_),(91,_),(118,_),(145,_),(172,_),(228,_),(255,_),(282,_),(309,_),(336,_),(385,_),(388,_),(399,_),(412,_),(425,_),(438,_),(450,_),(485,_),(499,_)] ?_
 clear S
 intro cb1 gb1 _ _ _ hc1 hm1 hl1 S
 refine dw ?_
 clear S
 intro _ _ _ S
 refine wp_region_lit (dw ?_)
 clear S
 intro _ _ _ S
 replace S:=S.kr 508 [(0,.p 0 0),(3,.sl 450 1 cz),(4,.k (.slice none 0 0)),(12,.k (.int .i64 0)),(13,.sl 488 7 cb1),(14,.k (.int .i64 2)),(143,.k (.bool true))] [(0,_),(1,_),(2,_),(3,_),(4,_),(37,_),(64,_),(91,_),(118,_),(145,_),(172,_),(228,_),(255,_),(282,_),(309,_),(336,_),(385,_),(388,_),(399,_),(412,_),(425,_),(438,_),(450,_),(485,_),(488,_),(499,_)]
 refine aW S rfl (rfl) ?_
 refine wp_skip ?_
 refine wp_seq ?_
 refine wp_block ?_
 refine wp_region_lit (dw ?_)
 clear S
 intro _ _ _ S
 refine yM (sz:=3) S rfl rfl rfl rfl hc1 hm1 hl1 rfl rfl rfl rfl rfl kf rfl [(0,.p 0 0),(3,.sl 450 1 cz),(4,.k (.slice none 0 0)),(12,.k (.int .i64 0)),(14,.k (.int .i64 2))] [(0,_),(1,_),(2,_),(3,_),(4,_),(37,_),(64,_),(91,_),(118,_),(145,_),(172,_),(228,_),(255,_),(282,_),(309,_),(336,_),(385,_),(388,_),(399,_),(412,_),(425,_),(438,_),(450,_),(485,_),(499,_),(512,_)] ?_
 clear S
 intro cb2 gb2 _ _ _ hc2 hm2 hl2 S
 refine dw ?_
 clear S
 intro _ _ _ S
 refine wp_region_lit (dw ?_)
 clear S
 intro _ _ _ S
 replace S:=S.kr 521 [(0,.p 0 0),(3,.sl 450 1 cz),(4,.k (.slice none 0 0)),(12,.k (.int .i64 0)),(13,.sl 488 8 cb2),(14,.k (.int .i64 3)),(143,.k (.bool true))] [(0,_),(1,_),(2,_),(3,_),(4,_),(37,_),(64,_),(91,_),(118,_),(145,_),(172,_),(228,_),(255,_),(282,_),(309,_),(336,_),(385,_),(388,_),(399,_),(412,_),(425,_),(438,_),(450,_),(485,_),(488,_),(499,_),(512,_)]
 refine aW S rfl (rfl) ?_
 refine wp_skip ?_
 refine wp_seq ?_
 refine wp_block ?_
 refine wp_region_lit (dw ?_)
 clear S
 intro _ _ _ S
 refine yM (sz:=3) S rfl rfl rfl rfl hc2 hm2 hl2 rfl rfl rfl rfl rfl kf rfl [(0,.p 0 0),(3,.sl 450 1 cz),(4,.k (.slice none 0 0)),(12,.k (.int .i64 0)),(14,.k (.int .i64 3))] [(0,_),(1,_),(2,_),(3,_),(4,_),(37,_),(64,_),(91,_),(118,_),(145,_),(172,_),(228,_),(255,_),(282,_),(309,_),(336,_),(385,_),(388,_),(399,_),(412,_),(425,_),(438,_),(450,_),(485,_),(499,_),(512,_),(525,_)] ?_
 clear S
 intro cb3 gb3 _ _ _ hc3 Yw hl3 S
 refine dw ?_
 clear S
 intro _ _ _ S
 refine wp_region_lit (dw ?_)
 clear S
 intro _ _ _ S
 replace S:=S.kr 534 [(0,.p 0 0),(3,.sl 450 1 cz),(4,.k (.slice none 0 0)),(12,.k (.int .i64 0)),(13,.sl 488 9 cb3),(14,.k (.int .i64 4)),(143,.k (.bool true))] [(0,_),(1,_),(2,_),(3,_),(4,_),(37,_),(64,_),(91,_),(118,_),(145,_),(172,_),(228,_),(255,_),(282,_),(309,_),(336,_),(385,_),(388,_),(399,_),(412,_),(425,_),(438,_),(450,_),(485,_),(488,_),(499,_),(512,_),(525,_)]
 refine aW S rfl (rfl) ?_
 refine wp_skip ?_
 refine wp_seq ?_
 refine wp_block ?_
 refine wp_region_lit (dw ?_)
 clear S
 intro _ _ _ S
 refine yM (sz:=3) S rfl rfl rfl rfl hc3 Yw hl3 rfl rfl rfl rfl rfl kf rfl [(0,.p 0 0),(3,.sl 450 1 cz),(4,.k (.slice none 0 0)),(12,.k (.int .i64 0)),(14,.k (.int .i64 4))] [(0,_),(1,_),(2,_),(3,_),(4,_),(37,_),(64,_),(91,_),(118,_),(145,_),(172,_),(228,_),(255,_),(282,_),(309,_),(336,_),(385,_),(388,_),(399,_),(412,_),(425,_),(438,_),(450,_),(485,_),(499,_),(512,_),(525,_),(538,_)] ?_
 clear S
 intro Um UT _ _ _ hc4 hm4 hl4 S
 refine dw ?_
 clear S
 intro _ _ _ S
 refine wp_region_lit (dw ?_)
 clear S
 intro _ _ _ S
 replace S:=S.kr 547 [(0,.p 0 0),(3,.sl 450 1 cz),(4,.k (.slice none 0 0)),(12,.k (.int .i64 0)),(13,.sl 488 10 Um),(14,.k (.int .i64 5)),(143,.k (.bool false))] [(0,_),(1,_),(2,_),(3,_),(4,_),(37,_),(64,_),(91,_),(118,_),(145,_),(172,_),(228,_),(255,_),(282,_),(309,_),(336,_),(385,_),(388,_),(399,_),(412,_),(425,_),(438,_),(450,_),(485,_),(488,_),(499,_),(512,_),(525,_),(538,_)]
 refine aK S rfl rfl (wp_exit ?_)
 refine wp_region_lit (dw ?_)
 clear S
 intro _ _ _ S
 refine Zo (sz:=1) (et:=64) S rfl rfl rfl rfl rfl kf rfl ?_
 clear S
 intro cy gy _ _ _ _ _ _ S
 refine dw ?_
 clear S
 intro _ _ _ S
 refine wp_region_lit (dw ?_)
 clear S
 intro _ _ _ S
 replace S:=S.kr 562 [(0,.p 0 0),(3,.sl 450 1 cz),(4,.sl 550 1 cy),(132,.k (.bool false))] [(0,_),(1,_),(2,_),(3,_),(4,_),(37,_),(64,_),(91,_),(118,_),(145,_),(172,_),(228,_),(255,_),(282,_),(309,_),(336,_),(385,_),(388,_),(399,_),(412,_),(425,_),(438,_),(450,_),(485,_),(488,_),(499,_),(512,_),(525,_),(538,_),(550,_)]
 refine aK S rfl rfl (wp_exit ?_)
 refine kk _ _ _ _ _ _ _ (S.kr 562 [(0,.p 0 0),(3,.sl 450 1 cz),(4,.sl 550 1 cy)] [(0,_),(1,_),(2,_),(3,_),(4,_),(37,_),(64,_),(91,_),(118,_),(145,_),(172,_),(228,_),(255,_),(282,_),(309,_),(336,_),(385,_),(388,_),(399,_),(412,_),(425,_),(438,_),(450,_),(485,_),(488,_),(499,_),(512,_),(525,_),(538,_),(550,_)])
end
section
open Go Go.RowKit Go.Proofs Ab
variable {w0:World}
theorem Yd{γ:Gh}{ac:Act}{w:World}{Q:Exit→Act→World→Prop}{c1 c2:Nat}{vl vf vu z0 z1:Value}{g0 g1 g2:List Value}{Hl cz Um cy:Nat}{JV gz UT gy:List Value}
 (S:PS w0 278 562 [(0,.p 0 0),(3,.sl 450 1 cz),(4,.sl 550 1 cy)] (Ul vl vf vu c1 c2 z0 z1 g0 g1 g2 JV Hl gz UT Um gy) γ ac w)
 (kk:∀γ a w,PS w0 278 1187 [(0,.p 0 0),(3,.sl 450 1 cz),(4,.sl 550 1 cy)] (Ul vl vf vu c1 c2 z0 z1 g0 g1 g2 JV Hl gz UT Um gy) γ a w→(qd 9 (qf Tryz.f27)).wp Tryz.prog Q a w):
 (qd 8 (qf Tryz.f27)).wp Tryz.prog Q ac w:=by
 refine dw ?_
 clear S
 intro _ _ _ S
 refine wp_block ?_
 refine wp_loop_rounds 2 (dw ?_)
 clear S
 intro _ _ _ S
 refine aW S rfl (rfl) ?_
 refine wp_skip ?_
 refine wp_seq ?_
 refine wp_block (dw ?_)
 clear S
 intro _ _ _ S
 refine wp_block ?_
 refine wp_loop_rounds 12 (dw ?_)
 clear S
 intro _ _ _ S
 refine aW S rfl (rfl) ?_
 refine wp_skip ?_
 refine wp_seq ?_
 refine wp_block (dw ?_)
 clear S
 intro _ _ _ S
 refine aK S rfl rfl (wp_skip ?_)
 refine wp_region_lit (dw ?_)
 clear S
 intro _ _ _ S
 replace S:=S.kr 630 [(0,.p 0 0),(3,.sl 450 1 cz),(4,.sl 550 1 cy),(15,.k (.int .i64 0)),(16,.k (.int .i64 1)),(170,.k (.bool true))] [(0,_),(1,_),(2,_),(3,_),(4,_),(37,_),(64,_),(91,_),(118,_),(145,_),(172,_),(228,_),(255,_),(282,_),(309,_),(336,_),(385,_),(388,_),(399,_),(412,_),(425,_),(438,_),(450,_),(485,_),(488,_),(499,_),(512,_),(525,_),(538,_),(550,_)]
 refine aW S rfl (rfl) ?_
 refine wp_skip ?_
 refine wp_seq ?_
 refine wp_block (dw ?_)
 clear S
 intro _ _ _ S
 refine aK S rfl rfl (wp_skip ?_)
 refine wp_region_lit (dw ?_)
 clear S
 intro _ _ _ S
 replace S:=S.kr 685 [(0,.p 0 0),(3,.sl 450 1 cz),(4,.sl 550 1 cy),(15,.k (.int .i64 0)),(16,.k (.int .i64 2)),(170,.k (.bool true))] [(0,_),(1,_),(2,_),(3,_),(4,_),(37,_),(64,_),(91,_),(118,_),(145,_),(172,_),(228,_),(255,_),(282,_),(309,_),(336,_),(385,_),(388,_),(399,_),(412,_),(425,_),(438,_),(450,_),(485,_),(488,_),(499,_),(512,_),(525,_),(538,_),(550,_)]
 refine aW S rfl (rfl) ?_
 refine wp_skip ?_
 refine wp_seq ?_
 refine wp_block (dw ?_)
 clear S
 intro _ _ _ S
 refine aK S rfl rfl (wp_skip ?_)
 refine wp_region_lit (dw ?_)
 clear S
 intro _ _ _ S
 replace S:=S.kr 740 [(0,.p 0 0),(3,.sl 450 1 cz),(4,.sl 550 1 cy),(15,.k (.int .i64 0)),(16,.k (.int .i64 3)),(170,.k (.bool true))] [(0,_),(1,_),(2,_),(3,_),(4,_),(37,_),(64,_),(91,_),(118,_),(145,_),(172,_),(228,_),(255,_),(282,_),(309,_),(336,_),(385,_),(388,_),(399,_),(412,_),(425,_),(438,_),(450,_),(485,_),(488,_),(499,_),(512,_),(525,_),(538,_),(550,_)]
 refine aW S rfl (rfl) ?_
 refine wp_skip ?_
 refine wp_seq ?_
 refine wp_block (dw ?_)
 clear S
 intro _ _ _ S
 refine aK S rfl rfl (wp_skip ?_)
 refine wp_region_lit (dw ?_)
 clear S
 intro _ _ _ S
 replace S:=S.kr 795 [(0,.p 0 0),(3,.sl 450 1 cz),(4,.sl 550 1 cy),(15,.k (.int .i64 0)),(16,.k (.int .i64 4)),(170,.k (.bool true))] [(0,_),(1,_),(2,_),(3,_),(4,_),(37,_),(64,_),(91,_),(118,_),(145,_),(172,_),(228,_),(255,_),(282,_),(309,_),(336,_),(385,_),(388,_),(399,_),(412,_),(425,_),(438,_),(450,_),(485,_),(488,_),(499,_),(512,_),(525,_),(538,_),(550,_)]
 refine aW S rfl (rfl) ?_
 refine wp_skip ?_
 refine wp_seq ?_
 refine wp_block (dw ?_)
 clear S
 intro _ _ _ S
 refine aK S rfl rfl (wp_skip ?_)
 refine wp_region_lit (dw ?_)
 clear S
 intro _ _ _ S
 replace S:=S.kr 850 [(0,.p 0 0),(3,.sl 450 1 cz),(4,.sl 550 1 cy),(15,.k (.int .i64 0)),(16,.k (.int .i64 5)),(170,.k (.bool true))] [(0,_),(1,_),(2,_),(3,_),(4,_),(37,_),(64,_),(91,_),(118,_),(145,_),(172,_),(228,_),(255,_),(282,_),(309,_),(336,_),(385,_),(388,_),(399,_),(412,_),(425,_),(438,_),(450,_),(485,_),(488,_),(499,_),(512,_),(525,_),(538,_),(550,_)]
 refine aW S rfl (rfl) ?_
 refine wp_skip ?_
 refine wp_seq ?_
 refine wp_block (dw ?_)
 clear S
 intro _ _ _ S
 refine aK S rfl rfl (wp_skip ?_)
 refine wp_region_lit (dw ?_)
 clear S
 intro _ _ _ S
 replace S:=S.kr 905 [(0,.p 0 0),(3,.sl 450 1 cz),(4,.sl 550 1 cy),(15,.k (.int .i64 0)),(16,.k (.int .i64 6)),(170,.k (.bool true))] [(0,_),(1,_),(2,_),(3,_),(4,_),(37,_),(64,_),(91,_),(118,_),(145,_),(172,_),(228,_),(255,_),(282,_),(309,_),(336,_),(385,_),(388,_),(399,_),(412,_),(425,_),(438,_),(450,_),(485,_),(488,_),(499,_),(512,_),(525,_),(538,_),(550,_)]
 refine aW S rfl (rfl) ?_
 refine wp_skip ?_
 refine wp_seq ?_
 refine wp_block (dw ?_)
 clear S
 intro _ _ _ S
 refine aK S rfl rfl (wp_skip ?_)
 refine wp_region_lit (dw ?_)
 clear S
 intro _ _ _ S
 replace S:=S.kr 960 [(0,.p 0 0),(3,.sl 450 1 cz),(4,.sl 550 1 cy),(15,.k (.int .i64 0)),(16,.k (.int .i64 7)),(170,.k (.bool true))] [(0,_),(1,_),(2,_),(3,_),(4,_),(37,_),(64,_),(91,_),(118,_),(145,_),(172,_),(228,_),(255,_),(282,_),(309,_),(336,_),(385,_),(388,_),(399,_),(412,_),(425,_),(438,_),(450,_),(485,_),(488,_),(499,_),(512,_),(525,_),(538,_),(550,_)]
 refine aW S rfl (rfl) ?_
 refine wp_skip ?_
 refine wp_seq ?_
 refine wp_block (dw ?_)
 clear S
 intro _ _ _ S
 refine aK S rfl rfl (wp_skip ?_)
 refine wp_region_lit (dw ?_)
 clear S
 intro _ _ _ S
 replace S:=S.kr 1015 [(0,.p 0 0),(3,.sl 450 1 cz),(4,.sl 550 1 cy),(15,.k (.int .i64 0)),(16,.k (.int .i64 8)),(170,.k (.bool true))] [(0,_),(1,_),(2,_),(3,_),(4,_),(37,_),(64,_),(91,_),(118,_),(145,_),(172,_),(228,_),(255,_),(282,_),(309,_),(336,_),(385,_),(388,_),(399,_),(412,_),(425,_),(438,_),(450,_),(485,_),(488,_),(499,_),(512,_),(525,_),(538,_),(550,_)]
 refine aW S rfl (rfl) ?_
 refine wp_skip ?_
 refine wp_seq ?_
 refine wp_block (dw ?_)
 clear S
 intro _ _ _ S
 refine aK S rfl rfl (wp_skip ?_)
 refine wp_region_lit (dw ?_)
 clear S
 intro _ _ _ S
 replace S:=S.kr 1070 [(0,.p 0 0),(3,.sl 450 1 cz),(4,.sl 550 1 cy),(15,.k (.int .i64 0)),(16,.k (.int .i64 9)),(170,.k (.bool true))] [(0,_),(1,_),(2,_),(3,_),(4,_),(37,_),(64,_),(91,_),(118,_),(145,_),(172,_),(228,_),(255,_),(282,_),(309,_),(336,_),(385,_),(388,_),(399,_),(412,_),(425,_),(438,_),(450,_),(485,_),(488,_),(499,_),(512,_),(525,_),(538,_),(550,_)]
 refine aW S rfl (rfl) ?_
 refine wp_skip ?_
 refine wp_seq ?_
 refine wp_block (dw ?_)
 clear S
 intro _ _ _ S
 refine aK S rfl rfl (wp_skip ?_)
 refine wp_region_lit (dw ?_)
 clear S
 intro _ _ _ S
 replace S:=S.kr 1125 [(0,.p 0 0),(3,.sl 450 1 cz),(4,.sl 550 1 cy),(15,.k (.int .i64 0)),(16,.k (.int .i64 10)),(170,.k (.bool true))] [(0,_),(1,_),(2,_),(3,_),(4,_),(37,_),(64,_),(91,_),(118,_),(145,_),(172,_),(228,_),(255,_),(282,_),(309,_),(336,_),(385,_),(388,_),(399,_),(412,_),(425,_),(438,_),(450,_),(485,_),(488,_),(499,_),(512,_),(525,_),(538,_),(550,_)]
 refine aW S rfl (rfl) ?_
 refine wp_skip ?_
 refine wp_seq ?_
 refine wp_block (dw ?_)
 clear S
 intro _ _ _ S
 refine aK S rfl rfl (wp_skip ?_)
 refine wp_region_lit (dw ?_)
 clear S
 intro _ _ _ S
 replace S:=S.kr 1180 [(0,.p 0 0),(3,.sl 450 1 cz),(4,.sl 550 1 cy),(15,.k (.int .i64 0)),(16,.k (.int .i64 11)),(170,.k (.bool false))] [(0,_),(1,_),(2,_),(3,_),(4,_),(37,_),(64,_),(91,_),(118,_),(145,_),(172,_),(228,_),(255,_),(282,_),(309,_),(336,_),(385,_),(388,_),(399,_),(412,_),(425,_),(438,_),(450,_),(485,_),(488,_),(499,_),(512,_),(525,_),(538,_),(550,_)]
 refine aK S rfl rfl (wp_exit ?_)
 refine wp_region_lit (dw ?_)
 clear S
 intro _ _ _ S
 replace S:=S.kr 1187 [(0,.p 0 0),(3,.sl 450 1 cz),(4,.sl 550 1 cy),(161,.k (.bool false))] [(0,_),(1,_),(2,_),(3,_),(4,_),(37,_),(64,_),(91,_),(118,_),(145,_),(172,_),(228,_),(255,_),(282,_),(309,_),(336,_),(385,_),(388,_),(399,_),(412,_),(425,_),(438,_),(450,_),(485,_),(488,_),(499,_),(512,_),(525,_),(538,_),(550,_)]
 refine aK S rfl rfl (wp_exit ?_)
 refine kk _ _ _ (S.kr 1187 [(0,.p 0 0),(3,.sl 450 1 cz),(4,.sl 550 1 cy)] [(0,_),(1,_),(2,_),(3,_),(4,_),(37,_),(64,_),(91,_),(118,_),(145,_),(172,_),(228,_),(255,_),(282,_),(309,_),(336,_),(385,_),(388,_),(399,_),(412,_),(425,_),(438,_),(450,_),(485,_),(488,_),(499,_),(512,_),(525,_),(538,_),(550,_)])
end
section
open Go Go.RowKit Go.Proofs Ab
variable {w0:World}
theorem Ye{γ:Gh}{ac:Act}{w:World}{Q:Exit→Act→World→Prop}{c1 c2:Nat}{vl vf vu z0 z1:Value}{g0 g1 g2:List Value}{Hl cz Um cy:Nat}{JV gz UT gy:List Value}
 (S:PS w0 278 1187 [(0,.p 0 0),(3,.sl 450 1 cz),(4,.sl 550 1 cy)] (Ul vl vf vu c1 c2 z0 z1 g0 g1 g2 JV Hl gz UT Um gy) γ ac w)
 (kk:∀γ a w,PS w0 278 1757 [(0,.p 0 0),(3,.sl 450 1 cz),(4,.sl 550 1 cy)] (Ul vl vf vu c1 c2 z0 z1 g0 g1 g2 JV Hl gz UT Um gy) γ a w→(qd 10 (qf Tryz.f27)).wp Tryz.prog Q a w):
 (qd 9 (qf Tryz.f27)).wp Tryz.prog Q ac w:=by
 refine dw ?_
 clear S
 intro _ _ _ S
 refine wp_block ?_
 refine wp_loop_rounds 2 (dw ?_)
 clear S
 intro _ _ _ S
 refine aW S rfl (rfl) ?_
 refine wp_skip ?_
 refine wp_seq ?_
 refine wp_block (dw ?_)
 clear S
 intro _ _ _ S
 refine wp_block ?_
 refine wp_loop_rounds 11 (dw ?_)
 clear S
 intro _ _ _ S
 refine aW S rfl (rfl) ?_
 refine wp_skip ?_
 refine wp_seq ?_
 refine wp_block (dw ?_)
 clear S
 intro _ _ _ S
 refine aK S rfl rfl (wp_skip ?_)
 refine wp_region_lit (dw ?_)
 clear S
 intro _ _ _ S
 replace S:=S.kr 1255 [(0,.p 0 0),(3,.sl 450 1 cz),(4,.sl 550 1 cy),(17,.k (.int .i64 0)),(18,.k (.int .i64 1)),(230,.k (.bool true))] [(0,_),(1,_),(2,_),(3,_),(4,_),(37,_),(64,_),(91,_),(118,_),(145,_),(172,_),(228,_),(255,_),(282,_),(309,_),(336,_),(385,_),(388,_),(399,_),(412,_),(425,_),(438,_),(450,_),(485,_),(488,_),(499,_),(512,_),(525,_),(538,_),(550,_)]
 refine aW S rfl (rfl) ?_
 refine wp_skip ?_
 refine wp_seq ?_
 refine wp_block (dw ?_)
 clear S
 intro _ _ _ S
 refine aK S rfl rfl (wp_skip ?_)
 refine wp_region_lit (dw ?_)
 clear S
 intro _ _ _ S
 replace S:=S.kr 1310 [(0,.p 0 0),(3,.sl 450 1 cz),(4,.sl 550 1 cy),(17,.k (.int .i64 0)),(18,.k (.int .i64 2)),(230,.k (.bool true))] [(0,_),(1,_),(2,_),(3,_),(4,_),(37,_),(64,_),(91,_),(118,_),(145,_),(172,_),(228,_),(255,_),(282,_),(309,_),(336,_),(385,_),(388,_),(399,_),(412,_),(425,_),(438,_),(450,_),(485,_),(488,_),(499,_),(512,_),(525,_),(538,_),(550,_)]
 refine aW S rfl (rfl) ?_
 refine wp_skip ?_
 refine wp_seq ?_
 refine wp_block (dw ?_)
 clear S
 intro _ _ _ S
 refine aK S rfl rfl (wp_skip ?_)
 refine wp_region_lit (dw ?_)
 clear S
 intro _ _ _ S
 replace S:=S.kr 1365 [(0,.p 0 0),(3,.sl 450 1 cz),(4,.sl 550 1 cy),(17,.k (.int .i64 0)),(18,.k (.int .i64 3)),(230,.k (.bool true))] [(0,_),(1,_),(2,_),(3,_),(4,_),(37,_),(64,_),(91,_),(118,_),(145,_),(172,_),(228,_),(255,_),(282,_),(309,_),(336,_),(385,_),(388,_),(399,_),(412,_),(425,_),(438,_),(450,_),(485,_),(488,_),(499,_),(512,_),(525,_),(538,_),(550,_)]
 refine aW S rfl (rfl) ?_
 refine wp_skip ?_
 refine wp_seq ?_
 refine wp_block (dw ?_)
 clear S
 intro _ _ _ S
 refine aK S rfl rfl (wp_skip ?_)
 refine wp_region_lit (dw ?_)
 clear S
 intro _ _ _ S
 replace S:=S.kr 1420 [(0,.p 0 0),(3,.sl 450 1 cz),(4,.sl 550 1 cy),(17,.k (.int .i64 0)),(18,.k (.int .i64 4)),(230,.k (.bool true))] [(0,_),(1,_),(2,_),(3,_),(4,_),(37,_),(64,_),(91,_),(118,_),(145,_),(172,_),(228,_),(255,_),(282,_),(309,_),(336,_),(385,_),(388,_),(399,_),(412,_),(425,_),(438,_),(450,_),(485,_),(488,_),(499,_),(512,_),(525,_),(538,_),(550,_)]
 refine aW S rfl (rfl) ?_
 refine wp_skip ?_
 refine wp_seq ?_
 refine wp_block (dw ?_)
 clear S
 intro _ _ _ S
 refine aK S rfl rfl (wp_skip ?_)
 refine wp_region_lit (dw ?_)
 clear S
 intro _ _ _ S
 replace S:=S.kr 1475 [(0,.p 0 0),(3,.sl 450 1 cz),(4,.sl 550 1 cy),(17,.k (.int .i64 0)),(18,.k (.int .i64 5)),(230,.k (.bool true))] [(0,_),(1,_),(2,_),(3,_),(4,_),(37,_),(64,_),(91,_),(118,_),(145,_),(172,_),(228,_),(255,_),(282,_),(309,_),(336,_),(385,_),(388,_),(399,_),(412,_),(425,_),(438,_),(450,_),(485,_),(488,_),(499,_),(512,_),(525,_),(538,_),(550,_)]
 refine aW S rfl (rfl) ?_
 refine wp_skip ?_
 refine wp_seq ?_
 refine wp_block (dw ?_)
 clear S
 intro _ _ _ S
 refine aK S rfl rfl (wp_skip ?_)
 refine wp_region_lit (dw ?_)
 clear S
 intro _ _ _ S
 replace S:=S.kr 1530 [(0,.p 0 0),(3,.sl 450 1 cz),(4,.sl 550 1 cy),(17,.k (.int .i64 0)),(18,.k (.int .i64 6)),(230,.k (.bool true))] [(0,_),(1,_),(2,_),(3,_),(4,_),(37,_),(64,_),(91,_),(118,_),(145,_),(172,_),(228,_),(255,_),(282,_),(309,_),(336,_),(385,_),(388,_),(399,_),(412,_),(425,_),(438,_),(450,_),(485,_),(488,_),(499,_),(512,_),(525,_),(538,_),(550,_)]
 refine aW S rfl (rfl) ?_
 refine wp_skip ?_
 refine wp_seq ?_
 refine wp_block (dw ?_)
 clear S
 intro _ _ _ S
 refine aK S rfl rfl (wp_skip ?_)
 refine wp_region_lit (dw ?_)
 clear S
 intro _ _ _ S
 replace S:=S.kr 1585 [(0,.p 0 0),(3,.sl 450 1 cz),(4,.sl 550 1 cy),(17,.k (.int .i64 0)),(18,.k (.int .i64 7)),(230,.k (.bool true))] [(0,_),(1,_),(2,_),(3,_),(4,_),(37,_),(64,_),(91,_),(118,_),(145,_),(172,_),(228,_),(255,_),(282,_),(309,_),(336,_),(385,_),(388,_),(399,_),(412,_),(425,_),(438,_),(450,_),(485,_),(488,_),(499,_),(512,_),(525,_),(538,_),(550,_)]
 refine aW S rfl (rfl) ?_
 refine wp_skip ?_
 refine wp_seq ?_
 refine wp_block (dw ?_)
 clear S
 intro _ _ _ S
 refine aK S rfl rfl (wp_skip ?_)
 refine wp_region_lit (dw ?_)
 clear S
 intro _ _ _ S
 replace S:=S.kr 1640 [(0,.p 0 0),(3,.sl 450 1 cz),(4,.sl 550 1 cy),(17,.k (.int .i64 0)),(18,.k (.int .i64 8)),(230,.k (.bool true))] [(0,_),(1,_),(2,_),(3,_),(4,_),(37,_),(64,_),(91,_),(118,_),(145,_),(172,_),(228,_),(255,_),(282,_),(309,_),(336,_),(385,_),(388,_),(399,_),(412,_),(425,_),(438,_),(450,_),(485,_),(488,_),(499,_),(512,_),(525,_),(538,_),(550,_)]
 refine aW S rfl (rfl) ?_
 refine wp_skip ?_
 refine wp_seq ?_
 refine wp_block (dw ?_)
 clear S
 intro _ _ _ S
 refine aK S rfl rfl (wp_skip ?_)
 refine wp_region_lit (dw ?_)
 clear S
 intro _ _ _ S
 replace S:=S.kr 1695 [(0,.p 0 0),(3,.sl 450 1 cz),(4,.sl 550 1 cy),(17,.k (.int .i64 0)),(18,.k (.int .i64 9)),(230,.k (.bool true))] [(0,_),(1,_),(2,_),(3,_),(4,_),(37,_),(64,_),(91,_),(118,_),(145,_),(172,_),(228,_),(255,_),(282,_),(309,_),(336,_),(385,_),(388,_),(399,_),(412,_),(425,_),(438,_),(450,_),(485,_),(488,_),(499,_),(512,_),(525,_),(538,_),(550,_)]
 refine aW S rfl (rfl) ?_
 refine wp_skip ?_
 refine wp_seq ?_
 refine wp_block (dw ?_)
 clear S
 intro _ _ _ S
 refine aK S rfl rfl (wp_skip ?_)
 refine wp_region_lit (dw ?_)
 clear S
 intro _ _ _ S
 replace S:=S.kr 1750 [(0,.p 0 0),(3,.sl 450 1 cz),(4,.sl 550 1 cy),(17,.k (.int .i64 0)),(18,.k (.int .i64 10)),(230,.k (.bool false))] [(0,_),(1,_),(2,_),(3,_),(4,_),(37,_),(64,_),(91,_),(118,_),(145,_),(172,_),(228,_),(255,_),(282,_),(309,_),(336,_),(385,_),(388,_),(399,_),(412,_),(425,_),(438,_),(450,_),(485,_),(488,_),(499,_),(512,_),(525,_),(538,_),(550,_)]
 refine aK S rfl rfl (wp_exit ?_)
 refine wp_region_lit (dw ?_)
 clear S
 intro _ _ _ S
 replace S:=S.kr 1757 [(0,.p 0 0),(3,.sl 450 1 cz),(4,.sl 550 1 cy),(221,.k (.bool false))] [(0,_),(1,_),(2,_),(3,_),(4,_),(37,_),(64,_),(91,_),(118,_),(145,_),(172,_),(228,_),(255,_),(282,_),(309,_),(336,_),(385,_),(388,_),(399,_),(412,_),(425,_),(438,_),(450,_),(485,_),(488,_),(499,_),(512,_),(525,_),(538,_),(550,_)]
 refine aK S rfl rfl (wp_exit ?_)
 refine kk _ _ _ (S.kr 1757 [(0,.p 0 0),(3,.sl 450 1 cz),(4,.sl 550 1 cy)] [(0,_),(1,_),(2,_),(3,_),(4,_),(37,_),(64,_),(91,_),(118,_),(145,_),(172,_),(228,_),(255,_),(282,_),(309,_),(336,_),(385,_),(388,_),(399,_),(412,_),(425,_),(438,_),(450,_),(485,_),(488,_),(499,_),(512,_),(525,_),(538,_),(550,_)])
end
section
open Go Go.RowKit Go.Proofs Ab
variable {w0:World}
theorem Ol{γ:Gh}{ac:Act}{w:World}{Q:Exit→Act→World→Prop}{c1 c2:Nat}{vl vf vu z0 z1:Value}{g0 g1 g2:List Value}{x0 x1 x2 x3 x4 x5 x6 x7 x8 x9 x10 x11 y0 y1 y2 y3 y4 y5 y6 y7 y8 y9 UN UO UQ y13 UR:Value}
 (S:PS w0 278 5 [(0,.p 0 0)] (lbx0 vl vf vu c1 c2 z0 z1 g0 g1 g2 x0 x1 x2 x3 x4 x5 x6 x7 x8 x9 x10 x11 y0 y1 y2 y3 y4 y5 y6 y7 y8 y9 UN UO UQ y13 UR) γ ac w)
 (kk:∀γ a w,PS w0 278 1758 [(2,.k (.bool true))] [] γ a w→Q .ret a w):
 (qd 2 (qf Tryz.f27)).wp Tryz.prog Q ac w:=by
 refine Ya S fun _ _ _ S=>Yb S fun _ _ _ _ _ _ _ S=>Yc S fun _ _ _ _ _ _ _ S=>Yd S fun _ _ _ S=>Ye S fun _ _ _ S=>?_
 refine dw ?_
 clear S
 intro _ _ _ S
 exact wp_ret (kk _ _ _ (S.kq 1758 [(2,.k (.bool true))] [] rfl ⟨rfl,trivial⟩ trivial))
end
section
open Go Go.RowKit Ab
theorem laid_var{P:Program}{w:World}{n:String}{d:DataW Unit}:∀{l:List (String×DataW Unit)} {ps:List MemPlace},DataW.LaidVars P w l ps→(n,d)∈l→
 ∃g t cs fuel p,P.globalNamed n=some g∧(P.globals[g]?).map (·.type)=some t∧w.var? P n=some cs∧DataW.trod (fun _=>()) P w 0 (fun _=>true) false fuel t cs.toList=some (d,p)
 |[],ps,_,h=>by cases h
 |(m,e)::r,ps,h,hm=>by
  obtain⟨g,t,cs,fuel,p,q,h1,h2,h3,h4,h5,_⟩:=h;rcases List.mem_cons.1 hm with e1|hm
  ·cases e1;exact⟨g,t,cs,fuel,p,h1,h2,h3,h4⟩
  ·exact laid_var h5 hm
theorem laid_tab{P:Program}{W:World}{name:String}{k:IntKind}{zs:List Int}{l:List (String×DataW Unit)}{g:Nat}{t e:TypeId}{n:Nat}
 (hg:P.globalNamed name=some g) (hty:(P.globals[g]?).map (·.type)=some t) (ht:P.underlying t=some (.array n e)) (he:P.underlying e=some (.int k)) (hce:P.cellsOf e=1) (hct:P.cellsOf t=n)
 (h:laidMet P l W) (hm:(name,Lib.tabData k zs)∈l) (hz:zs≠[]):
 g<W.heap.size∧∀(j:Nat) (x:V),(zs.map fun n=>V.i k n)[j]? =some x→∃v,W.cell? ⟨g,j,none⟩=some v∧Rep0 W (fun b=>b<W.heap.size) v x:=by
 obtain⟨ps,h1,_⟩:=h
 obtain⟨g',t',cs,fuel,p,hg',ht',hvar,hd⟩:=laid_var h1 hm
 obtain rfl:=Option.some.inj (hg.symm.trans hg')
 obtain rfl:=Option.some.inj (hty.symm.trans ht')
 have hcs:=Lib.cells_of_tab ht he hce hct hd
 have htab:Lib.TabIs P W name k zs:=by
  unfold Lib.TabIs;rw[hvar,←hcs]
 refine⟨?_,fun j x hx=>?_⟩
 ·have h0:=htab.cell hg 0 (List.length_pos_iff.2 hz);rcases Nat.lt_or_ge g W.heap.size with h3|h3
  ·exact h3
  ·have h5:W.heap[g]? =none:=by simp[h3]
   simp[World.cell?,h5]at h0
 ·simp only[List.getElem?_map,Option.map_eq_some_iff]at hx;obtain⟨z,hz',rfl⟩:=hx;have hj:j<zs.length:=(List.getElem?_eq_some_iff.1 hz').1;refine⟨_,htab.cell hg j hj,?_⟩;rw[List.getD_eq_getElem?_getD,hz'];exact .i _ _
end
