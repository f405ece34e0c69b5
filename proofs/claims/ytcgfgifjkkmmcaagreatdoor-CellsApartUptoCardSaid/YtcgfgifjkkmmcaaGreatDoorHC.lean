import Derived.Test.YtcgfgifjkkmmcaaGreatDoorHB
set_option linter.all false
set_option maxHeartbeats 10000000
set_option maxRecDepth 2000000
namespace Go.Proofs.YtcgfgifjkkmmcaaGreatDoor
open Go Go.RowKit Go.Proofs Ab
theorem WU{a:Act}{w:World}{R:Exit→Act→World→Prop}{i:Nat}(hz:a.tmps.size=162)(h8:a.tmps.getD 8 undef= .int .i64 (i:Int))(hi:i≤5)
 (kt:i<5→∀a':Act,a'.tmps.size=162→(∀t,t<64→a'.tmps.getD t undef=a.tmps.getD t undef)→a'.defers=a.defers→R .normal a' w)
 (kf:i=5→∀a':Act,a'.tmps.size=162→(∀t,t<64→a'.tmps.getD t undef=a.tmps.getD t undef)→a'.defers=a.defers→R (.exit 6) a' w):(q1 (apF1 Tryz.f61)).wp Tryz.prog R a w:=by
 have g8:=gI hz h8 dc
 have hA:=PLift.up (And.intro kt kf)
 clear kt kf
 by_cases hlt:(i:Int)<5
 ·refine wp_seq_k fun K0 hK0=>?_
  have hk0:=PLift.up hK0;clear hK0;refine wp_region_lit ?_;go_wp2;refine hk0.down _ _ ?_;refine wp_cond_true (by rw[ak];dsimp only;rw[aA (by simp[hz])]) ?_;go_wp2;refine hA.down.1 om _ (by simp[hz]) (fun t ht=>?_) rfl;dsimp only;rw[ae om,ae om]
 ·refine wp_seq_k fun K0 hK0=>?_
  have hk0:=PLift.up hK0;clear hK0;refine wp_region_lit ?_;go_wp2;refine hk0.down _ _ ?_;refine wp_cond_false (by rw[ak];dsimp only;rw[aA (by simp[hz])]) ?_;go_wp2;refine hA.down.2 om _ (by simp[hz]) (fun t ht=>?_) rfl;dsimp only;rw[ae om,ae om]
theorem WV{a:Act}{w:World}{R:Exit→Act→World→Prop}{i:Nat}(hz:a.tmps.size=162)(h8:a.tmps.getD 8 undef= .int .i64 (i:Int))(hi:i≤5)
 (kk:∀a':Act,a'.tmps.size=162→(∀t,t<64→t≠8→a'.tmps.getD t undef=a.tmps.getD t undef)→a'.tmps.getD 8 undef= .int .i64 ((i:Int)+1)→a'.defers=a.defers→R .normal a' w):(q2 (q2 (apF1 Tryz.f61))).wp Tryz.prog R a w:=by
 have g8:=gI hz h8 dc
 have jH:=PLift.up kk
 clear kk
 refine wp_region_lit ?_
 go_wp2
 refine jH.down _ (by simp[hz]) (fun t ht hne=>?_) ?_ rfl
 ·dsimp only;rw[ae om,ae om,ae om]
 ·dsimp only;rw[aA (by simp[hz])]
def Rel(w0:World)(v g:Value)(n m:Nat):Prop:=(∃a cap,v= .slice a n cap∧g= .slice a m cap)∨∀q,g.ownBlock=some q→w0.heap.size≤q
theorem pM{w0 wr w1 w':World}{E:Nat→Prop}{o:Option Nat}(h:aI w0 E wr)(hb:Below wr.heap.size wr w1)(hg:w1.grownBy w' o)(ho:∀q,o=some q→E q∨w0.heap.size≤q):aI w0 E w':=by
 have s0:=h.size;have s1:=hb.size;have s2:=hg.size;refine⟨hg.os.trans (hb.os.trans h.os),hg.tape.trans (hb.tape.trans h.tape),hg.output.trans (hb.output.trans h.output),om,fun x hx hne=>?_⟩;exact(hg.block x om (fun e=>by rcases ho x e.symm with h'|h';exact hne h';omega)).trans ((hb.block x om).trans (h.block x hx hne))
theorem grow_step{w0 wr w1 w':World}{v g g':Value}{n m r:Nat}{u:Value}(hv0:∀q,v.ownBlock=some q→q<w0.heap.size)(hbel:aI w0 (fun x=>v.ownBlock=some x) wr)(hvr:wr.ownsRow 0 31 1 v n (List.replicate n u))(hrel:Rel w0 v g n m)(hnm:n≤m)(hb:Below wr.heap.size wr w1)(ho:w'.ownsRow 0 31 1 g' (m+r) (List.replicate (m+r) u))(hg:Gr w1 w' g g' m r):
 aI w0 (fun x=>v.ownBlock=some x) w'∧w'.ownsRow 0 31 1 v n (List.replicate n u)∧Rel w0 v g' n (m+r):=by
 have s0:=hbel.size
 have s1:=hb.size
 rcases hg with ⟨q,cap,rfl,rfl,hg⟩|⟨hfr,hg⟩
 ·rcases hrel with ⟨a,cap',rfl,he⟩|hrel
  ·cases he;refine⟨pM hbel hb hg fun x hx=> .inl hx,?_,.inl ⟨_,cap,rfl,rfl⟩⟩;have:=RF ho (m:=n) om;rwa[List.take_replicate,Nat.min_eq_left om]at this
  ·have hq:=hrel q rfl;refine⟨pM hbel hb hg fun x hx=> .inr (by cases hx;exact hq),aP hvr fun x hx=>?_,.inr fun x hx=>by cases hx;exact hq⟩;have:=hv0 x hx;exact(hg.block x om (fun e=>by cases e;omega)).trans (hb.block x om)
 ·refine⟨pM hbel hb hg fun x hx=>(by cases hx),aP hvr fun x hx=>?_,.inr fun x hx=>by have:=hfr x hx;omega⟩;have:=hv0 x hx;exact(hg.block x om sy).trans (hb.block x om)
theorem WW{a:Act}{w:World}{R:Exit→Act→World→Prop}{k n:Nat}{v:Value}(hz:a.tmps.size=162)(h6:a.tmps.getD 6 undef= .int .i64 (k:Int))(h7:a.tmps.getD 7 undef=v)(hk:k≤1000)(ho:w.ownsRow 0 31 1 v n (List.replicate n (mark k)))(hn:n≤1000000000)
 (kk:∀(a':Act) (w':World) (g:Value),a'.tmps.size=162→(∀t,t<64→t≠7→t≠8→a'.tmps.getD t undef=a.tmps.getD t undef)→a'.tmps.getD 7 undef=g→a'.defers=a.defers→aI w (fun x=>v.ownBlock=some x) w'→w'.ownsRow 0 31 1 v n (List.replicate n (mark k))→w'.ownsRow 0 31 1 g (n+5) (List.replicate (n+5) (mark k))→Rel w v g n (n+5)→R .normal a' w'):(apE1 Tryz.f61).wp Tryz.prog R a w:=by
 have hv0:∀q,v.ownBlock=some q→q<w.heap.size:=fun q hq=>(ho.lt q hq).2
 refine wp_seq_k fun K0 hK0=>?_
 have hk0:=PLift.up hK0
 clear hK0
 have jH:=PLift.up kk
 clear kk
 refine wp_region_lit ?_
 go_wp2
 refine hk0.down _ _ ?_
 clear hk0
 refine wp_block ?_
 refine wp_loop (fun a' wr=>∃(i:Nat) (g:Value),i≤5∧a'.tmps.size=162∧(∀t,t<64→t≠7→t≠8→a'.tmps.getD t undef=a.tmps.getD t undef)∧a'.tmps.getD 7 undef=g∧a'.tmps.getD 8 undef= .int .i64 (i:Int)∧a'.defers=a.defers∧aI w (fun x=>v.ownBlock=some x) wr∧wr.ownsRow 0 31 1 v n (List.replicate n (mark k))∧wr.ownsRow 0 31 1 g (n+i) (List.replicate (n+i) (mark k))∧Rel w v g n (n+i))
  (fun a' _=>5-(intOf (a'.tmps.getD 8 undef)).toNat) ?_ ?_
 ·refine⟨0,v,om,by simp[hz],fun t ht h1 h2=>?_,?_,?_,rfl,aI.refl _ _,ho,ho,?_⟩
  ·dsimp only;rw[ae om]
  ·dsimp only;rw[ae om];exact h7
  ·dsimp only;rw[aA (by simp[hz])];rfl
  ·obtain⟨va,vc,rfl⟩:=aT ho;exact .inl ⟨va,vc,rfl,rfl⟩
 ·rintro a' wr ⟨i,g,hi,hz,hs,h7,h8,hd,hbel,hvr,hgr,hrel⟩;refine wp_seq ?_;refine WU hz h8 hi (fun hlt a1 z1 s1 d1=>?_) (fun hge a1 z1 s1 d1=>?_)
  ·refine wp_seq ?_;refine wp_block ?_;refine ag_app z1 ((s1 6 dc).trans ((hs 6 dc dc dc).trans h6)) ((s1 7 dc).trans h7) hk hgr om fun a2 w1 w2 g' z2 s2 e2 d2 hb ho2 hG=>?_
   refine WV z2 ((s2 8 dc dc).trans ((s1 8 dc).trans h8)) hi fun a3 z3 s3 j3 d3=>?_
   have hrep:List.replicate (n+i) (mark k)++[mark k]=List.replicate (n+(i+1)) (mark k):=by rw[←Nat.add_assoc,List.replicate_succ']
   rw[hrep]at ho2;obtain⟨x1,x2,x3⟩:=grow_step hv0 hbel hvr hrel om hb ho2 hG;refine⟨⟨i+1,g',hlt,z3,fun t ht e7 e8=>(s3 t ht e8).trans ((s2 t om e7).trans ((s1 t ht).trans (hs t ht e7 e8))),(s3 7 dc dc).trans e2,by rw[j3];rfl,d3.trans (d2.trans (d1.trans hd)),x1,x2,ho2,x3⟩,?_⟩;rw[j3,h8];simp only[intOf];omega
  ·subst hge;exact jH.down _ _ g z1 (fun t ht e7 e8=>(s1 t ht).trans (hs t ht e7 e8)) ((s1 7 dc).trans h7) (d1.trans hd) hbel hvr hgr hrel
theorem mm_mk{a:Act}{w:World}{R:Exit→Act→World→Prop}(hz:a.tmps.size=162)
 (kk:∀(a':Act) (w':World) (q:Nat),a'.tmps.size=162→(∀t,t<64→t≠9→a'.tmps.getD t undef=a.tmps.getD t undef)→a'.tmps.getD 9 undef= .slice (some ⟨q,0,none⟩) 40 40→a'.defers=a.defers→w.heap.size≤q→aI w (fun _=>False) w'→(∃xs,w'.ownsRow 0 31 1 (.slice (some ⟨q,0,none⟩) 40 40) 40 xs)→R .normal a' w'):(q1 (q2 (q2 (apD Tryz.f61)))).wp Tryz.prog R a w:=by
 have jH:=PLift.up kk
 clear kk
 obtain⟨i0,hi0,hi1,hi2,hi3⟩:=info_parts AX
 refine wp_region_lit ?_
 refine wpList_make_full _ rfl _ _ 22 rfl 0 31 i0 (.int .u64 0) 1 Tryz.underlying22 hi0 hi1 hi2 .i64 .i64 40 40 40 rfl rfl rfl rfl om (by unfold maxLen;omega) (Nat.zero_le _) fun w' ho hg=>?_
 go_wp2
 refine jH.down _ w' w.heap.size (by simp[Act.put,hz]) (fun t ht hne=>?_) ?_ rfl (Nat.le_refl _) ⟨hg.os,hg.tape,hg.output,hg.size,fun x hx _=>hg.block x hx sy⟩ ⟨_,ho⟩
 ·dsimp only[Act.put];rw[ae om,ae om]
 ·dsimp only[Act.put];rw[aA (by simp[hz])]
theorem WX{a:Act}{w:World}{R:Exit→Act→World→Prop}{i q:Nat}(hz:a.tmps.size=162)(h9:a.tmps.getD 9 undef= .slice (some ⟨q,0,none⟩) 40 40)(h10:a.tmps.getD 10 undef= .int .i64 (i:Int))(hi:i≤40)
 (kt:i<40→∀a':Act,a'.tmps.size=162→(∀t,t<64→a'.tmps.getD t undef=a.tmps.getD t undef)→a'.defers=a.defers→R .normal a' w)
 (kf:i=40→∀a':Act,a'.tmps.size=162→(∀t,t<64→a'.tmps.getD t undef=a.tmps.getD t undef)→a'.defers=a.defers→R (.exit 8) a' w):(q1 (apF2 Tryz.f61)).wp Tryz.prog R a w:=by
 have g9:=gI hz h9 dc
 have g10:=gI hz h10 dc
 have hA:=PLift.up (And.intro kt kf)
 clear kt kf
 by_cases hlt:(i:Int)<40
 ·refine wp_seq_k fun K0 hK0=>?_
  have hk0:=PLift.up hK0;clear hK0;refine wp_region_lit ?_;go_wp2;refine hk0.down _ _ ?_;refine wp_cond_true (by rw[ak];dsimp only;rw[aA (by simp[hz])]) ?_;go_wp2;refine hA.down.1 om _ (by simp[hz]) (fun t ht=>?_) rfl;dsimp only;rw[ae om,ae om,ae om,ae om]
 ·refine wp_seq_k fun K0 hK0=>?_
  have hk0:=PLift.up hK0;clear hK0;refine wp_region_lit ?_;go_wp2;refine hk0.down _ _ ?_;refine wp_cond_false (by rw[ak];dsimp only;rw[aA (by simp[hz])]) ?_;go_wp2;refine hA.down.2 om _ (by simp[hz]) (fun t ht=>?_) rfl;dsimp only;rw[ae om,ae om,ae om,ae om]
theorem WY{a:Act}{w:World}{R:Exit→Act→World→Prop}{i:Nat}(hz:a.tmps.size=162)(h10:a.tmps.getD 10 undef= .int .i64 (i:Int))(hi:i≤40)
 (kk:∀a':Act,a'.tmps.size=162→(∀t,t<64→t≠10→a'.tmps.getD t undef=a.tmps.getD t undef)→a'.tmps.getD 10 undef= .int .i64 ((i:Int)+1)→a'.defers=a.defers→R .normal a' w):(q2 (q2 (apF2 Tryz.f61))).wp Tryz.prog R a w:=by
 have g10:=gI hz h10 dc
 have jH:=PLift.up kk
 clear kk
 refine wp_region_lit ?_
 go_wp2
 refine jH.down _ (by simp[hz]) (fun t ht hne=>?_) ?_ rfl
 ·dsimp only;rw[ae om,ae om,ae om]
 ·dsimp only;rw[aA (by simp[hz])]
theorem RQ{a:Act}{w:World}{R:Exit→Act→World→Prop}{k i q:Nat}{x:Value}(hz:a.tmps.size=162)(h6:a.tmps.getD 6 undef= .int .i64 (k:Int))(h9:a.tmps.getD 9 undef= .slice (some ⟨q,0,none⟩) 40 40)(h10:a.tmps.getD 10 undef= .int .i64 (i:Int))(hk:k≤1000)(hi:i<40)(hx:w.cell? ⟨q,i,none⟩=some x)(hf:w.frozen? ⟨q,i,none⟩=false)
 (kk:∀a':Act,a'.tmps.size=162→(∀t,t<64→a'.tmps.getD t undef=a.tmps.getD t undef)→a'.defers=a.defers→R .normal a' (w.setCell ⟨q,i,none⟩ (mark k))):(qb (q1 (q2 (apF2 Tryz.f61)))).wp Tryz.prog R a w:=by
 have g6:=gI hz h6 dc
 have g9:=gI hz h9 dc
 have g10:=gI hz h10 dc
 have hw:=pK k om
 have jH:=PLift.up kk
 clear kk
 refine wp_region_lit ?_
 go_wp2
 refine jH.down _ (by simp[hz]) (fun t ht=>?_) rfl
 dsimp only
 rw[ae om,ae om,ae om,ae om,ae om,ae om]
theorem WZ{a:Act}{w:World}{R:Exit→Act→World→Prop}{k q:Nat}(hz:a.tmps.size=162)(h6:a.tmps.getD 6 undef= .int .i64 (k:Int))(h9:a.tmps.getD 9 undef= .slice (some ⟨q,0,none⟩) 40 40)(hk:k≤1000)(ho:∃xs,w.ownsRow 0 31 1 (.slice (some ⟨q,0,none⟩) 40 40) 40 xs)
 (kk:∀(a':Act) (w':World),a'.tmps.size=162→(∀t,t<64→t≠10→a'.tmps.getD t undef=a.tmps.getD t undef)→a'.defers=a.defers→aI w (fun x=>x=q) w'→w'.ownsRow 0 31 1 (.slice (some ⟨q,0,none⟩) 40 40) 40 (List.replicate 40 (mark k))→R .normal a' w'):(apE2 Tryz.f61).wp Tryz.prog R a w:=by
 obtain⟨xs,ho⟩:=ho
 have hlen:xs.length=40:=ho.1
 refine wp_seq_k fun K0 hK0=>?_
 have hk0:=PLift.up hK0
 clear hK0
 have jH:=PLift.up kk
 clear kk
 refine wp_region_lit ?_
 go_wp2
 refine hk0.down _ _ ?_
 clear hk0
 refine wp_block ?_
 refine wp_loop (fun a' wr=>∃i:Nat,i≤40∧a'.tmps.size=162∧(∀t,t<64→t≠10→a'.tmps.getD t undef=a.tmps.getD t undef)∧a'.tmps.getD 10 undef= .int .i64 (i:Int)∧a'.defers=a.defers∧aI w (fun x=>x=q) wr∧wr.ownsRow 0 31 1 (.slice (some ⟨q,0,none⟩) 40 40) 40 (List.replicate i (mark k)++xs.drop i))
  (fun a' _=>40-(intOf (a'.tmps.getD 10 undef)).toNat) ?_ ?_
 ·refine⟨0,Nat.zero_le _,by simp[hz],fun t ht hne=>?_,?_,rfl,aI.refl _ _,ho⟩
  ·dsimp only;rw[ae om]
  ·dsimp only;rw[aA (by simp[hz])];rfl
 ·rintro a' wr ⟨i,hi,hz,hs,h10,hd,hbel,hr⟩;refine wp_seq ?_;have h9':=(hs 9 dc dc).trans h9;refine WX hz h9' h10 hi (fun hlt a1 z1 s1 d1=>?_) (fun hge a1 z1 s1 d1=>?_)
  ·have hcell:=hr.cellAt i om;rw[List.getElem?_append_right sy,List.length_replicate,Nat.sub_self,List.getElem?_drop,List.getElem?_eq_getElem om]at hcell;refine wp_seq ?_;refine wp_block ?_;refine RQ z1 ((s1 6 dc).trans ((hs 6 dc dc).trans h6)) ((s1 9 dc).trans h9') ((s1 10 dc).trans h10) hk hlt hcell (hr.frozenAt i) fun a2 z2 s2 d2=>?_
   refine WY z2 ((s2 10 dc).trans ((s1 10 dc).trans h10)) hi fun a3 z3 s3 j3 d3=>?_
   have hst:=(hr.stored i (mark k)).1;rw[Gm hlen hlt]at hst;refine⟨⟨i+1,hlt,z3,fun t ht hne=>(s3 t ht hne).trans ((s2 t ht).trans ((s1 t ht).trans (hs t ht hne))),by rw[j3];rfl,d3.trans (d2.trans (d1.trans hd)),?_,hst⟩,?_⟩
   ·refine⟨hbel.os,hbel.tape,hbel.output,?_,fun x hx hne=>?_⟩
    ·have:(wr.setCell ⟨q,i,none⟩ (mark k)).heap.size=wr.heap.size:=by simp[World.setCell]
     rw[this];exact hbel.size
    ·exact(heap_setCell_other wr ⟨q,i,none⟩ x (mark k) hne).trans (hbel.block x hx hne)
   ·rw[j3,h10];simp only[intOf];omega
  ·subst hge;rw[List.drop_of_length_le om,List.append_nil]at hr;exact jH.down _ _ z1 (fun t ht hne=>(s1 t ht).trans (hs t ht hne)) (d1.trans hd) hbel hr
end Go.Proofs.YtcgfgifjkkmmcaaGreatDoor
namespace Go.Proofs.YtcgfgifjkkmmcaaGreatDoor
open Go Go.RowKit Go.Proofs Ab
theorem RU:(Tryz.prog.info? 22).map (fun i=>(i.zero,i.size,i.bytes))=some (some (.slice none 0 0),1,24):=by kernel_rfl
theorem W9{a:Act}{w:World}{R:Exit→Act→World→Prop}{b gU m lT k:Nat}(hz:a.tmps.size=162)(h0:a.tmps.getD 0 undef= .pointer (some ⟨b,0,none⟩))(h6:a.tmps.getD 6 undef= .int .i64 (k:Int))
 (hb0:w.cell? ⟨b,0,none⟩=some (.slice (some ⟨gU,0,none⟩) m lT)) (hm:m≤1000000)
 (kt:(k:Int)<(m:Int)→∀a':Act,a'.tmps.size=162→(∀t,t<48→a'.tmps.getD t undef=a.tmps.getD t undef)→a'.defers=a.defers→R .normal a' w)
 (kf:¬(k:Int)<(m:Int)→∀a':Act,a'.tmps.size=162→(∀t,t<48→a'.tmps.getD t undef=a.tmps.getD t undef)→a'.defers=a.defers→R (.exit 4) a' w):(q1 (apB2 Tryz.f61)).wp Tryz.prog R a w:=by
 have g0:=gI hz h0 dc
 have g6:=gI hz h6 dc
 have hA:=PLift.up (And.intro kt kf)
 clear kt kf
 by_cases hi:(k:Int)<(m:Int)
 ·refine wp_seq_k fun K0 hK0=>?_
  have hk0:=PLift.up hK0;clear hK0;refine wp_region_lit ?_;go_wp2;refine hk0.down _ _ ?_;refine wp_cond_true (by rw[ak];dsimp only;rw[aA (by simp[hz])]) ?_;go_wp2;refine hA.down.1 hi _ (by simp[hz]) (fun t ht=>?_) rfl;dsimp only;rw[ae om,ae om,ae om,ae om,ae om,ae om,ae om]
 ·refine wp_seq_k fun K0 hK0=>?_
  have hk0:=PLift.up hK0;clear hK0;refine wp_region_lit ?_;go_wp2;refine hk0.down _ _ ?_;refine wp_cond_false (by rw[ak];dsimp only;rw[aA (by simp[hz])]) ?_;go_wp2;refine hA.down.2 om _ (by simp[hz]) (fun t ht=>?_) rfl;dsimp only;rw[ae om,ae om,ae om,ae om,ae om,ae om,ae om]
theorem W_{a:Act}{w:World}{R:Exit→Act→World→Prop}{k:Nat}(hz:a.tmps.size=162)(h6:a.tmps.getD 6 undef= .int .i64 (k:Int))(hk:k≤1000000)
 (kk:∀a':Act,a'.tmps.size=162→(∀t,t<48→t≠6→a'.tmps.getD t undef=a.tmps.getD t undef)→a'.tmps.getD 6 undef= .int .i64 ((k:Int)+1)→a'.defers=a.defers→R .normal a' w):(q2 (q2 (apB2 Tryz.f61))).wp Tryz.prog R a w:=by
 have g6:=gI hz h6 dc
 have jH:=PLift.up kk
 clear kk
 refine wp_region_lit ?_
 go_wp2
 refine jH.down _ (by simp[hz]) (fun t ht hne=>?_) ?_ rfl
 ·dsimp only;rw[ae om,ae om,ae om]
 ·dsimp only;rw[aA (by simp[hz])]
theorem Xa{a:Act}{w:World}{R:Exit→Act→World→Prop}{b gU m lT k n cap:Nat}{la:Option Addr}(hz:a.tmps.size=162)(h0:a.tmps.getD 0 undef= .pointer (some ⟨b,0,none⟩))(h6:a.tmps.getD 6 undef= .int .i64 (k:Int))
 (hb0:w.cell? ⟨b,0,none⟩=some (.slice (some ⟨gU,0,none⟩) m lT)) (hk:(k:Int)<(m:Int)) (hm:m≤1000000) (hc:w.cell? ⟨gU,k,none⟩=some (.slice la n cap))
 (kk:∀a':Act,a'.tmps.size=162→(∀t,t<48→t≠7→a'.tmps.getD t undef=a.tmps.getD t undef)→a'.tmps.getD 7 undef= .slice la n cap→a'.defers=a.defers→R .normal a' w):(q1 (apD Tryz.f61)).wp Tryz.prog R a w:=by
 have g0:=gI hz h0 dc
 have g6:=gI hz h6 dc
 have jH:=PLift.up kk
 clear kk
 refine wp_region_lit ?_
 go_wp2
 refine jH.down _ (by simp[hz]) (fun t ht hne=>?_) ?_ rfl
 ·dsimp only;rw[ae om,ae om,ae om,ae om,ae om,ae om,ae om,ae om]
 ·dsimp only;rw[aA (by simp[hz])]
theorem Gr.bel{w w':World}{v v':Value}{n m:Nat}(h:Gr w w' v v' n m):aI w (fun x=>v.ownBlock=some x) w':=by
 rcases h with ⟨q,cap,rfl,rfl,hg⟩|⟨_,hg⟩
 ·exact pM (aI.refl _ _) (Below.refl _ _) hg fun x hx=> .inl hx
 ·exact pM (aI.refl _ _) (Below.refl _ _) hg fun x hx=>by cases hx
theorem Gr.ob{w w':World}{v v':Value}{n m q:Nat}(h:Gr w w' v v' n m)(hq:v'.ownBlock=some q):v.ownBlock=some q∨w.heap.size≤q:=by
 rcases h with ⟨q,cap,rfl,rfl,hg⟩|⟨h,_⟩
 ·exact .inl hq
 ·exact .inr (h _ hq)
theorem af_fin{a:Act}{w:World}{R:Exit→Act→World→Prop}{b gU lT k n m mq gn gc:Nat}{ga:Option Addr}{v vG:Value}{Lv Gs:List Value}(hz:a.tmps.size=162)(h0:a.tmps.getD 0 undef= .pointer (some ⟨b,0,none⟩))(h5:a.tmps.getD 5 undef=vG)(h6:a.tmps.getD 6 undef= .int .i64 (k:Int))(h7:a.tmps.getD 7 undef= .slice ga gn gc)(h9:a.tmps.getD 9 undef= .slice (some ⟨mq,0,none⟩) 40 40)
 (hx:Bx w b gU lT Lv) (hv:Lv[k]? =some v) (ho:w.ownsRow 0 31 1 v n (List.replicate n (mark k))) (hn:n≤1000000000) (hG:w.ownsRow 0 22 1 vG m Gs) (hm:m≤10000) (RV:w.ownsRow 0 31 1 (.slice (some ⟨mq,0,none⟩) 40 40) 40 (List.replicate 40 (mark k)))
 (kk:∀(a':Act) (w4 w4' w5:World) (g2 NJ:Value),a'.tmps.size=162→(∀t,t<48→t≠5→a'.tmps.getD t undef=a.tmps.getD t undef)→a'.tmps.getD 5 undef=NJ→a'.defers=a.defers→w4.ownsRow 0 31 1 g2 (n+40) (List.replicate (n+40) (mark k))→Gr w w4 v g2 n 40→Below w4.heap.size w4 w4'→w5.ownsRow 0 22 1 NJ (m+2) (Gs++[.slice ga gn gc,g2])→Gr w4' w5 vG NJ m 2→R .normal a' w5):(q2 (q2 (q2 (q2 (apD Tryz.f61))))).wp Tryz.prog R a w:=by
 have Vo:k<Lv.length:=(List.getElem?_eq_some_iff.1 hv).1
 have hml:=hx.m
 have g0:=gI hz h0 dc
 have g5:=gI hz h5 dc
 have g6:=gI hz h6 dc
 have g7:=gI hz h7 dc
 have g9:=gI hz h9 dc
 obtain⟨i0,hi0,hi1,hi2,hi3⟩:=info_parts AX
 obtain⟨j0,hj0,hj1,hj2,hj3⟩:=info_parts RU
 obtain⟨va,vc,hva⟩:=aT ho
 have hb0:=hx.c0
 have hcl:=hx.cl k v hv
 rw[hva]at hcl
 have hkI:(k:Int)<(Lv.length:Int):=om
 have hneG:∀q,vG.ownBlock=some q→v.ownBlock≠some q:=fun q hq=>sG hG ho dc hq
 obtain⟨M,hM⟩:∃M,M=List.replicate 40 (mark k):=⟨_,rfl⟩
 rw[←hM]at RV
 have hMl:M.length=40:=by rw[hM,List.length_replicate]
 have hMc:∀u,u∈M→u.oneCell'=true:=fun u hu=>by rw[hM]at hu;rw[(List.mem_replicate.1 hu).2];rfl
 have hMM:List.replicate n (mark k)++M=List.replicate (n+40) (mark k):=by rw[hM,List.replicate_append_replicate]
 clear hM
 have hA:=PLift.up (And.intro ho (And.intro hG RV))
 clear ho hG RV hv hx
 have jH:=PLift.up kk
 clear kk
 subst hva
 refine wp_region_lit ?_
 go_wp2_with (first|(at_builtin;refine uT _ rfl (.tmp 95) (.tmp 96) 22 rfl 31 i0 (.int .u64 0) 8 Tryz.underlying22 hi0 hi1 hi2 hi3 rfl (.slice va n vc) n (List.replicate n (mark k)) ?hs ?own ⟨mq,0,none⟩ 40 40 M ?hx ?hn ?c3 ?c4 dc ?mx ?bys ?fin))
 case hs=>rw[ak];dsimp only;rw[ae dc,aA (by simp[hz])]
 case own=>exact hA.down.1
 case hx=>rw[ak];dsimp only;rw[aA (by simp[hz])]
 case hn=>exact hMl
 case c3=>exact fun j u hj=>hA.down.2.2.cells rfl j u hj
 case c4=>exact hMc
 case mx=>unfold maxLen;omega
 case bys=>omega
 case fin=>
  intro g2 w4 ho4 hG4;obtain⟨a2,c2,rfl⟩:=aT ho4;have YP:=hG4.bel;have hGr4:w4.ownsRow 0 22 1 vG m Gs:=aP hA.down.2.1 fun q hq=>YP.block q (hA.down.2.1.lt q hq).2 (hneG q hq)
  have hB:=PLift.up (And.intro ho4 (And.intro hG4 hGr4));clear ho4 hG4 YP hGr4;go_wp2_with (first|(at_builtin;refine uT _ rfl (.tmp 87) (.tmp 98) 35 rfl 22 j0 (.slice none 0 0) 24 Tryz.underlying35 hj0 hj1 hj2 hj3 rfl vG m Gs ?hs ?own ⟨w4.heap.size,0,none⟩ 2 2 [.slice ga gn gc,.slice a2 (n+40) c2] ?hx ?hn ?c3 ?c4 dc ?mx ?bys ?fin));case hs=>rw[ak];dsimp only[Act.put];rw[ae dc,ae dc,ae dc,ae dc,ae dc,ae dc,ae dc,ae dc,ae dc,ae dc,ae dc,aA (by simp[hz])]
  case own=>exact hB.down.2.2.alloc _
  case hx=>rw[ak];dsimp only[Act.put];rw[aA (by simp[hz])]
  case hn=>rfl
  case c3=>
   intro j u hj;rw[Addr.add_lit,Nat.zero_add,cell_of_row _ _ j _ _ _ (heap_alloc_new w4 _)];simpa using hj
  case c4=>
   intro u hu;simp only[List.mem_cons,List.not_mem_nil,or_false]at hu;rcases hu with rfl|rfl<;>rfl
  case mx=>unfold maxLen;omega
  case bys=>omega
  case fin=>
   intro NJ w5 Z9 hG5;go_wp2;refine jH.down _ w4 _ w5 _ NJ (by simp[Act.put,hz]) (fun t ht hne=>?_) ?_ rfl hB.down.1 hB.down.2.1 ((Below.refl _ _).alloc (Nat.le_refl _) _) Z9 hG5
   ·dsimp only[Act.put];rw[ae om,ae om,ae om,ae om,ae om,ae om,ae om,ae om,ae om,ae om,ae om,ae om,ae om,ae om]
   ·dsimp only[Act.put];rw[aA (by simp[hz])]
end Go.Proofs.YtcgfgifjkkmmcaaGreatDoor
namespace Go.Proofs.YtcgfgifjkkmmcaaGreatDoor
open Go Go.RowKit Go.Proofs Ab
theorem AY{w0 w w':World}{E F:Nat→Prop}(h:aI w0 E w)(h':aI w F w')(hF:∀x,F x→E x∨w0.heap.size≤x):aI w0 E w':=
 ⟨h'.os.trans h.os,h'.tape.trans h.tape,h'.output.trans h.output,Nat.le_trans h.size h'.size,fun q hq hne=>(h'.block q (Nat.lt_of_lt_of_le hq h.size) (fun e=>(hF q e).elim hne fun h=>om)).trans (h.block q hq hne)⟩
def Gd(w0 w:World)(Lv:List Value)(k:Nat)(Gs:List Value):Prop:=Gs.length=2*k∧∀(t:Nat) (x:Value),Gs[t]? =some x→∃m:Nat,m≤2000000000∧w.ownsRow 0 31 1 x m (List.replicate m (mark (t/2)))∧∀q,x.ownBlock=some q→(∃v,Lv[t/2]? =some v∧v.ownBlock=some q)∨w0.heap.size≤q
theorem ob_len{a:Option Addr}{n m c:Nat}:(Value.slice a n c).ownBlock=(Value.slice a m c).ownBlock:=by cases a<;>rfl
theorem Gr.pre{w w':World}{v v':Value}{n m:Nat}{u:Value}(h:Gr w w' v v' n m)(ho:w.ownsRow 0 31 1 v n (List.replicate n u))(ho':w'.ownsRow 0 31 1 v' (n+m) (List.replicate (n+m) u)){w0:World}{g:Value}{r:Nat}(hr:Rel w0 v g n r)(hrm:r≤n+m)(hv0:∀q,v.ownBlock=some q→q<w0.heap.size)(hg:w.ownsRow 0 31 1 g r (List.replicate r u)):w'.ownsRow 0 31 1 g r (List.replicate r u):=by
 have hb:=h.bel;rcases hr with ⟨a,cap,rfl,rfl⟩|hr
 ·rcases h with ⟨q,cap',he,rfl,_⟩|⟨_,hgr⟩
  ·cases he;have:=RF ho' (m:=r) hrm;rwa[List.take_replicate,Nat.min_eq_left hrm]at this
  ·exact aP hg fun q hq=>hgr.block q (hg.lt q hq).2 sy
 ·exact aP hg fun q hq=>hb.block q (hg.lt q hq).2 (fun e=>by have:=hv0 q e;have:=hr q hq;omega)
theorem RX{a:Act}{w0 w:World}{R:Exit→Act→World→Prop}{b gU lT k:Nat}{vG:Value}{Lv Gs:List Value}(hz:a.tmps.size=162)(h0:a.tmps.getD 0 undef= .pointer (some ⟨b,0,none⟩))(h5:a.tmps.getD 5 undef=vG)(h6:a.tmps.getD 6 undef= .int .i64 (k:Int))
 (hx:Bx w b gU lT Lv) (hk:k<Lv.length) (hap:UI Lv) (hnb:Nbk b gU Lv) (hl0:∀(j:Nat) (v:Value) (q:Nat),Lv[j]? =some v→v.ownBlock=some q→q<w0.heap.size) (hL:Lm w Lv Lv.length) (hbel:aI w0 (fun x=>∃(j:Nat) (v:Value),Lv[j]? =some v∧v.ownBlock=some x) w) (hG:w.ownsRow 0 22 1 vG (2*k) Gs) (hG0:∀q,vG.ownBlock=some q→w0.heap.size≤q) (hd:Gd w0 w Lv k Gs)
 (kk:∀(a':Act) (w':World) (NJ:Value) (Gs':List Value),a'.tmps.size=162→a'.tmps.getD 0 undef= .pointer (some ⟨b,0,none⟩)→a'.tmps.getD 5 undef=NJ→a'.tmps.getD 6 undef= .int .i64 (k:Int)→a'.defers=a.defers→Lm w' Lv Lv.length→aI w0 (fun x=>∃(j:Nat) (v:Value),Lv[j]? =some v∧v.ownBlock=some x) w'→w'.ownsRow 0 22 1 NJ (2*(k+1)) Gs'→(∀q,NJ.ownBlock=some q→w0.heap.size≤q)→Gd w0 w' Lv (k+1) Gs'→R .normal a' w'):(apD Tryz.f61).wp Tryz.prog R a w:=by
 have hm:=hx.m
 have hs0:=hbel.size
 have hv:Lv[k]? =some Lv[k]:=List.getElem?_eq_getElem hk
 generalize Lv[k]=v at hv
 obtain⟨n,xs,hn,hvo,hxs⟩:=hL k v hv
 obtain rfl:=hxs hk
 obtain⟨va,vc,hva⟩:=aT hvo
 have hcl:=hx.cl k v hv
 rw[hva]at hcl
 have hvb:=hnb k v hv
 have hv0:∀q,v.ownBlock=some q→q<w.heap.size:=fun q hq=>(hvo.lt q hq).2
 have hGv:∀q,vG.ownBlock=some q→v.ownBlock≠some q:=fun q hq=>sG hG hvo dc hq
 refine wp_seq ?_
 refine Xa hz h0 h6 hx.c0 om om hcl fun a1 z1 s1 e1 d1=>?_
 rw[←hva]at e1
 refine wp_seq ?_
 refine WW z1 ((s1 6 dc dc).trans h6) e1 om hvo hn fun a2 w1 g z2 s2 e2 d2 iY hv1 hg1 hrel=>?_
 have hs1:=iY.size
 refine wp_seq ?_
 refine mm_mk z2 fun a3 w2 mq z3 s3 e3 d3 hmq bel2 hm2=>?_
 have hs2:=bel2.size
 refine wp_seq ?_
 refine WZ z3 ((s3 6 dc dc).trans ((s2 6 dc dc dc).trans ((s1 6 dc dc).trans h6))) e3 om hm2 fun a4 w3 z4 s4 d4 bel3 Yw=>?_
 have hs3:=bel3.size
 have RY:aI w1 (fun _=>False) w3:=AY bel2 bel3 fun x hx=> .inr (by rw[hx];exact hmq)
 have Gn:aI w (fun x=>v.ownBlock=some x) w3:=AY iY RY fun x hx=>hx.elim
 have hv3:w3.ownsRow 0 31 1 v n (List.replicate n (mark k)):=aP hv1 fun q hq=>RY.block q (hv1.lt q hq).2 (fun e=>e)
 have hg3:w3.ownsRow 0 31 1 g (n+5) (List.replicate (n+5) (mark k)):=aP hg1 fun q hq=>RY.block q (hg1.lt q hq).2 (fun e=>e)
 have hG3:w3.ownsRow 0 22 1 vG (2*k) Gs:=aP hG fun q hq=>Gn.block q (hG.lt q hq).2 (hGv q hq)
 have hx3:Bx w3 b gU lT Lv:=hx.keep Gn.size (Gn.block b hx.lb hvb.1) (Gn.block gU hx.ll hvb.2)
 obtain⟨ga,gc,rfl⟩:=aT hg3
 have f0:a4.tmps.getD 0 undef= .pointer (some ⟨b,0,none⟩):=(s4 0 dc dc).trans ((s3 0 dc dc).trans ((s2 0 dc dc dc).trans ((s1 0 dc dc).trans h0)))
 have f5:a4.tmps.getD 5 undef=vG:=(s4 5 dc dc).trans ((s3 5 dc dc).trans ((s2 5 dc dc dc).trans ((s1 5 dc dc).trans h5)))
 have f6:a4.tmps.getD 6 undef= .int .i64 (k:Int):=(s4 6 dc dc).trans ((s3 6 dc dc).trans ((s2 6 dc dc dc).trans ((s1 6 dc dc).trans h6)))
 have f7:a4.tmps.getD 7 undef= .slice ga (n+5) gc:=(s4 7 dc dc).trans ((s3 7 dc dc).trans e2)
 have f9:a4.tmps.getD 9 undef= .slice (some ⟨mq,0,none⟩) 40 40:=(s4 9 dc dc).trans e3
 refine af_fin z4 f0 f5 f6 f7 f9 hx3 hv hv3 hn hG3 om Yw fun a5 w4 w4' w5 g2 NJ z5 s5 e5 d5 hg24 hGr hb4 hG5 hGr5=>?_
 have bel4:=hGr.bel
 have hs4:=bel4.size
 have hs4':=hb4.size
 have RZ:=hGr5.bel
 have hs5:=RZ.size
 have hG4:w4.ownsRow 0 22 1 vG (2*k) Gs:=aP hG3 fun q hq=>bel4.block q (hG3.lt q hq).2 (hGv q hq)
 have YQ:aI w4 (fun x=>vG.ownBlock=some x) w5:=⟨RZ.os.trans hb4.os,RZ.tape.trans hb4.tape,RZ.output.trans hb4.output,Nat.le_trans hs4' hs5,fun q hq hne=>(RZ.block q om hne).trans (hb4.block q hq)⟩
 have up5:∀{x:Value} {m:Nat} {ys:List Value},w4.ownsRow 0 31 1 x m ys→w5.ownsRow 0 31 1 x m ys:=fun h=>aP h fun q hq=>YQ.block q (h.lt q hq).2 (sG h hG4 dc hq)
 have relv:Rel w3 v v n n:=by rw[hva];exact .inl ⟨va,vc,rfl,rfl⟩
 have hv03:∀q,v.ownBlock=some q→q<w3.heap.size:=fun q hq=>(hv3.lt q hq).2
 have hv4:w4.ownsRow 0 31 1 v n (List.replicate n (mark k)):=hGr.pre hv3 hg24 relv om hv03 hv3
 have hg4:w4.ownsRow 0 31 1 (.slice ga (n+5) gc) (n+5) (List.replicate (n+5) (mark k)):=hGr.pre hv3 hg24 hrel om hv0 hg3
 have Gp:aI w (fun x=>v.ownBlock=some x) w4:=sH Gn bel4 fun x hx=>hx
 have YR:aI w (fun x=>v.ownBlock=some x∨vG.ownBlock=some x) w5:=sH (E:=fun x=>v.ownBlock=some x∨vG.ownBlock=some x) ⟨Gp.os,Gp.tape,Gp.output,Gp.size,fun q hq hne=>Gp.block q hq (fun e=>hne (.inl e))⟩ YQ fun x hx=> .inr hx
 have up:∀{x:Value} {m:Nat} {ys:List Value},w.ownsRow 0 31 1 x m ys→(∀q,x.ownBlock=some q→v.ownBlock≠some q)→w5.ownsRow 0 31 1 x m ys:=fun h hne=>aP h fun q hq=>YR.block q (h.lt q hq).2 (fun e=>e.elim (hne q hq) (fun e=>sG h hG dc hq e))
 have c0:w0.heap.size≤w3.heap.size:=om
 have c5:2*k+2=2*(k+1):=om
 refine kk _ _ NJ (Gs++[.slice ga (n+5) gc,g2]) z5 ((s5 0 dc dc).trans f0) e5 ((s5 6 dc dc).trans f6) (d5.trans (d4.trans (d3.trans (d2.trans d1)))) (fun j u hu=>?_) ?_ (c5▸hG5) (fun q hq=>?_) ⟨?_,fun t x hx=>?_⟩
 ·by_cases hjk:j=k
  ·subst hjk;rw[hv]at hu;cases hu;exact⟨n,_,hn,up5 hv4,fun _=>rfl⟩
  ·obtain⟨n',ys,hn',ho',he'⟩:=hL j u hu;exact⟨n',ys,hn',up ho' fun q hq e=>hap k j v u q (fun e=>hjk e.symm) hv hu e hq,he'⟩
 ·exact AY hbel YR fun x hx=>hx.elim (fun h=> .inl ⟨k,v,hv,h⟩) (fun h=> .inr (hG0 x h))
 ·rcases hGr5.ob hq with h|h
  ·exact hG0 q h
  ·omega
 ·rw[List.length_append,hd.1];rfl
 ·have hlen:=hd.1;rcases Nat.lt_or_ge t Gs.length with ht|ht
  ·rw[List.getElem?_append_left ht]at hx;obtain⟨m',hm',ho',hq'⟩:=hd.2 t x hx;refine⟨m',hm',up ho' fun q hq e=>?_,hq'⟩;rcases hq' q hq with ⟨u,hu,huq⟩|h
   ·exact hap k (t/2) v u q om hv hu e huq
   ·have:=hl0 k v q hv e;omega
  ·rw[List.getElem?_append_right ht]at hx;have htk:t/2=k:=by
    have:t-Gs.length<2:=(List.getElem?_eq_some_iff.1 hx).1;omega
   rw[htk];rcases(show t-Gs.length=0∨t-Gs.length=1 by have:t-Gs.length<2:=(List.getElem?_eq_some_iff.1 hx).1;omega)with h|h
   ·rw[h]at hx;cases hx;refine⟨n+5,om,up5 hg4,fun q hq=>?_⟩;rcases hrel with ⟨a',c',h1,h2⟩|hrel
    ·cases h2;exact .inl ⟨v,hv,by rw[h1,←hq];exact ob_len⟩
    ·have:=hrel q hq;exact .inr om
   ·rw[h]at hx;cases hx;refine⟨n+40,om,up5 hg24,fun q hq=>?_⟩;rcases hGr.ob hq with h'|h'
    ·exact .inl ⟨v,hv,h'⟩
    ·exact .inr om
theorem ag_all{a:Act}{w:World}{R:Exit→Act→World→Prop}{b gU lT:Nat}{Lv:List Value}(hz:a.tmps.size=162)(h0:a.tmps.getD 0 undef= .pointer (some ⟨b,0,none⟩))(h5:a.tmps.getD 5 undef= .slice none 0 0)
 (hx:Bx w b gU lT Lv) (hap:UI Lv) (hnb:Nbk b gU Lv) (hL:Lm w Lv Lv.length)
 (kk:∀(a':Act) (w':World) (vG:Value) (Gs:List Value),a'.tmps.size=162→a'.tmps.getD 0 undef= .pointer (some ⟨b,0,none⟩)→a'.tmps.getD 5 undef=vG→a'.defers=a.defers→Lm w' Lv Lv.length→aI w (fun x=>∃(j:Nat) (v:Value),Lv[j]? =some v∧v.ownBlock=some x) w'→w'.ownsRow 0 22 1 vG (2*Lv.length) Gs→(∀q,vG.ownBlock=some q→w.heap.size≤q)→Gd w w' Lv Lv.length Gs→R .normal a' w'):(apS2 Tryz.f61).wp Tryz.prog R a w:=by
 have hm:=hx.m
 refine wp_seq_k fun K0 hK0=>?_
 have hk0:=PLift.up hK0
 clear hK0
 have jH:=PLift.up kk
 clear kk
 refine wp_region_lit ?_
 go_wp2
 refine hk0.down _ _ ?_
 clear hk0
 refine wp_block ?_
 refine wp_loop (fun a' wr=>∃(k:Nat) (vG:Value) (Gs:List Value),k≤Lv.length∧a'.tmps.size=162∧a'.tmps.getD 0 undef= .pointer (some ⟨b,0,none⟩)∧a'.tmps.getD 5 undef=vG∧a'.tmps.getD 6 undef= .int .i64 (k:Int)∧a'.defers=a.defers∧Lm wr Lv Lv.length∧aI w (fun x=>∃(j:Nat) (v:Value),Lv[j]? =some v∧v.ownBlock=some x) wr∧wr.ownsRow 0 22 1 vG (2*k) Gs∧(∀q,vG.ownBlock=some q→w.heap.size≤q)∧Gd w wr Lv k Gs)
  (fun a' _=>Lv.length-(intOf (a'.tmps.getD 6 undef)).toNat) ?_ ?_
 ·refine⟨0,.slice none 0 0,[],Nat.zero_le _,by simp[hz],?_,?_,?_,rfl,hL,aI.refl _ _,World.ownsRow_nil _ _ _ _,fun q hq=>(by cases hq),rfl,fun t x hx=>(by simp at hx)⟩
  ·dsimp only;rw[ae om];exact h0
  ·dsimp only;rw[ae om];exact h5
  ·dsimp only;rw[aA (by simp[hz])];rfl
 ·rintro a' wr ⟨k,vG,Gs,hk,hz,h0,h5,h6,hd,hLr,hbel,hG,hG0,hGd⟩;have hxr:Bx wr b gU lT Lv:=hx.keep hbel.size (hbel.block b hx.lb fun⟨j,v,h1,h2⟩=>(hnb j v h1).1 h2) (hbel.block gU hx.ll fun⟨j,v,h1,h2⟩=>(hnb j v h1).2 h2);refine wp_seq ?_;refine W9 hz h0 h6 hxr.c0 om (fun hlt a1 z1 s1 d1=>?_) (fun hge a1 z1 s1 d1=>?_)
  ·have uS:k<Lv.length:=om;refine wp_seq ?_;refine wp_block ?_;refine RX z1 ((s1 0 dc).trans h0) ((s1 5 dc).trans h5) ((s1 6 dc).trans h6) hxr uS hap hnb (fun j v q h1 h2=>hL.ow_lt h1 h2) hLr hbel hG hG0 hGd fun a2 w2 NJ Gs' z2 f0 f5 f6 d2 l2 bel2 G2 G02 Gd2=>?_
   refine W_ z2 f6 om fun a3 z3 s3 j3 d3=>?_
   refine⟨⟨k+1,NJ,Gs',uS,z3,(s3 0 dc dc).trans f0,(s3 5 dc dc).trans f5,by rw[j3];rfl,d3.trans (d2.trans (d1.trans hd)),l2,bel2,G2,G02,Gd2⟩,?_⟩;rw[j3,h6];simp only[intOf];omega
  ·obtain rfl:k=Lv.length:=om;exact jH.down _ _ vG Gs z1 ((s1 0 dc).trans h0) ((s1 5 dc).trans h5) (d1.trans hd) hLr hbel hG hG0 hGd
end Go.Proofs.YtcgfgifjkkmmcaaGreatDoor
namespace Go.Proofs.YtcgfgifjkkmmcaaGreatDoor
open Go Go.RowKit Go.Proofs Ab
def apS3(f:Func):Code:=q1 (qd 3 (q2 (qf f)))
def Xb(f:Func):Code:=ql (qb (q2 (apS3 f)))
def apC3(f:Func):Code:=ql (qb (q2 (qb (q1 (q2 (Xb f))))))
theorem Xc{a:Act}{w:World}{R:Exit→Act→World→Prop}{m gc t:Nat}{ga:Option Addr}(hz:a.tmps.size=162)(h5:a.tmps.getD 5 undef= .slice ga m gc)(h11:a.tmps.getD 11 undef= .int .i64 (t:Int))(hm:m≤1000000)
 (kt:(t:Int)<(m:Int)→∀a':Act,a'.tmps.size=162→(∀t,t<48→a'.tmps.getD t undef=a.tmps.getD t undef)→a'.defers=a.defers→R .normal a' w)
 (kf:¬(t:Int)<(m:Int)→∀a':Act,a'.tmps.size=162→(∀t,t<48→a'.tmps.getD t undef=a.tmps.getD t undef)→a'.defers=a.defers→R (.exit 10) a' w):(q1 (Xb Tryz.f61)).wp Tryz.prog R a w:=by
 have g5:=gI hz h5 dc
 have g11:=gI hz h11 dc
 have hA:=PLift.up (And.intro kt kf)
 clear kt kf
 by_cases hi:(t:Int)<(m:Int)
 ·refine wp_seq_k fun K0 hK0=>?_
  have hk0:=PLift.up hK0;clear hK0;refine wp_region_lit ?_;go_wp2;refine hk0.down _ _ ?_;refine wp_cond_true (by rw[ak];dsimp only;rw[aA (by simp[hz])]) ?_;go_wp2;refine hA.down.1 hi _ (by simp[hz]) (fun t ht=>?_) rfl;dsimp only;rw[ae om,ae om,ae om,ae om]
 ·refine wp_seq_k fun K0 hK0=>?_
  have hk0:=PLift.up hK0;clear hK0;refine wp_region_lit ?_;go_wp2;refine hk0.down _ _ ?_;refine wp_cond_false (by rw[ak];dsimp only;rw[aA (by simp[hz])]) ?_;go_wp2;refine hA.down.2 om _ (by simp[hz]) (fun t ht=>?_) rfl;dsimp only;rw[ae om,ae om,ae om,ae om]
theorem Xd{a:Act}{w:World}{R:Exit→Act→World→Prop}{t:Nat}(hz:a.tmps.size=162)(h11:a.tmps.getD 11 undef= .int .i64 (t:Int))(ht:t≤1000000)
 (kk:∀a':Act,a'.tmps.size=162→(∀t,t<48→t≠11→a'.tmps.getD t undef=a.tmps.getD t undef)→a'.tmps.getD 11 undef= .int .i64 ((t:Int)+1)→a'.defers=a.defers→R .normal a' w):(q2 (q2 (Xb Tryz.f61))).wp Tryz.prog R a w:=by
 have g11:=gI hz h11 dc
 have jH:=PLift.up kk
 clear kk
 refine wp_region_lit ?_
 go_wp2
 refine jH.down _ (by simp[hz]) (fun t ht hne=>?_) ?_ rfl
 ·dsimp only;rw[ae om,ae om,ae om]
 ·dsimp only;rw[aA (by simp[hz])]
theorem Xe{a:Act}{w:World}{R:Exit→Act→World→Prop}{m gc t i r rc gq:Nat}{ra:Option Addr}(hz:a.tmps.size=162)(h5:a.tmps.getD 5 undef= .slice (some ⟨gq,0,none⟩) m gc)(h11:a.tmps.getD 11 undef= .int .i64 (t:Int))(h12:a.tmps.getD 12 undef= .int .i64 (i:Int))(hm:m≤1000000)(ht:(t:Int)<(m:Int))(hc:w.cell? ⟨gq,t,none⟩=some (.slice ra r rc))(hr:r≤1000000000000)
 (kt:(i:Int)<(r:Int)→∀a':Act,a'.tmps.size=162→(∀t,t<48→a'.tmps.getD t undef=a.tmps.getD t undef)→a'.defers=a.defers→R .normal a' w)
 (kf:¬(i:Int)<(r:Int)→∀a':Act,a'.tmps.size=162→(∀t,t<48→a'.tmps.getD t undef=a.tmps.getD t undef)→a'.defers=a.defers→R (.exit 12) a' w):(q1 (apC3 Tryz.f61)).wp Tryz.prog R a w:=by
 have g5:=gI hz h5 dc
 have g11:=gI hz h11 dc
 have g12:=gI hz h12 dc
 have hA:=PLift.up (And.intro kt kf)
 clear kt kf
 by_cases hi:(i:Int)<(r:Int)
 ·refine wp_seq_k fun K0 hK0=>?_
  have hk0:=PLift.up hK0;clear hK0;refine wp_region_lit ?_;go_wp2;refine hk0.down _ _ ?_;refine wp_cond_true (by rw[ak];dsimp only;rw[aA (by simp[hz])]) ?_;go_wp2;refine hA.down.1 hi _ (by simp[hz]) (fun t ht=>?_) rfl;dsimp only;rw[ae om,ae om,ae om,ae om,ae om,ae om,ae om]
 ·refine wp_seq_k fun K0 hK0=>?_
  have hk0:=PLift.up hK0;clear hK0;refine wp_region_lit ?_;go_wp2;refine hk0.down _ _ ?_;refine wp_cond_false (by rw[ak];dsimp only;rw[aA (by simp[hz])]) ?_;go_wp2;refine hA.down.2 om _ (by simp[hz]) (fun t ht=>?_) rfl;dsimp only;rw[ae om,ae om,ae om,ae om,ae om,ae om,ae om]
theorem Xf{a:Act}{w:World}{R:Exit→Act→World→Prop}{i:Nat}(hz:a.tmps.size=162)(h12:a.tmps.getD 12 undef= .int .i64 (i:Int))(hi:i≤1000000000000)
 (kk:∀a':Act,a'.tmps.size=162→(∀t,t<48→t≠12→a'.tmps.getD t undef=a.tmps.getD t undef)→a'.tmps.getD 12 undef= .int .i64 ((i:Int)+1)→a'.defers=a.defers→R .normal a' w):(q2 (q2 (apC3 Tryz.f61))).wp Tryz.prog R a w:=by
 have g12:=gI hz h12 dc
 have jH:=PLift.up kk
 clear kk
 refine wp_region_lit ?_
 go_wp2
 refine jH.down _ (by simp[hz]) (fun t ht hne=>?_) ?_ rfl
 ·dsimp only;rw[ae om,ae om,ae om]
 ·dsimp only;rw[aA (by simp[hz])]
theorem Xg{a:Act}{w:World}{R:Exit→Act→World→Prop}{m gc t i r rc gq rq:Nat}(hz:a.tmps.size=162)(h5:a.tmps.getD 5 undef= .slice (some ⟨gq,0,none⟩) m gc)(h11:a.tmps.getD 11 undef= .int .i64 (t:Int))(h12:a.tmps.getD 12 undef= .int .i64 (i:Int))(hm:m≤1000000)(ht:(t:Int)<(m:Int))(hc:w.cell? ⟨gq,t,none⟩=some (.slice (some ⟨rq,0,none⟩) r rc))(hr:r≤1000000000000)(hi:(i:Int)<(r:Int))(hx:w.cell? ⟨rq,i,none⟩=some (mark (t/2)))
 (kk:∀a':Act,a'.tmps.size=162→(∀t,t<48→a'.tmps.getD t undef=a.tmps.getD t undef)→a'.defers=a.defers→R .normal a' w):(qb (q1 (q2 (apC3 Tryz.f61)))).wp Tryz.prog R a w:=by
 have g5:=gI hz h5 dc
 have g11:=gI hz h11 dc
 have g12:=gI hz h12 dc
 have hw:=pK (t/2) om
 unfold mark at hx
 have hq:(t:Int).tdiv 2=((t/2:Nat):Int):=by rw[Int.tdiv_eq_ediv_of_nonneg om];omega
 have jH:=PLift.up kk
 clear kk
 refine wp_seq_k fun K0 hK0=>?_
 have hk0:=PLift.up hK0
 clear hK0
 refine wp_region_lit ?_
 go_wp2
 refine hk0.down _ _ ?_
 refine wp_cond_false (by rw[ak];dsimp only;rw[aA (by simp[hz])]) ?_
 go_wp2
 refine jH.down _ (by simp[hz]) (fun t ht=>?_) rfl
 dsimp only
 rw[ae om,ae om,ae om,ae om,ae om,ae om,ae om,ae om,ae om,ae om,ae om,ae om]
theorem R_{a:Act}{w:World}{R:Exit→Act→World→Prop}{m gc t r gq:Nat}{x:Value}(hz:a.tmps.size=162)(h5:a.tmps.getD 5 undef= .slice (some ⟨gq,0,none⟩) m gc)(h11:a.tmps.getD 11 undef= .int .i64 (t:Int))(hm:m≤1000000)(ht:(t:Int)<(m:Int))(hc:w.cell? ⟨gq,t,none⟩=some x)(ho:w.ownsRow 0 31 1 x r (List.replicate r (mark (t/2))))(hr:r≤1000000000000)
 (kk:∀a':Act,a'.tmps.size=162→(∀t,t<48→t≠12→a'.tmps.getD t undef=a.tmps.getD t undef)→a'.defers=a.defers→R .normal a' w):(q1 (q2 (Xb Tryz.f61))).wp Tryz.prog R a w:=by
 obtain⟨ra,rc,hra⟩:=aT ho
 refine wp_block ?_
 refine wp_seq_k fun K0 hK0=>?_
 have hk0:=PLift.up hK0
 clear hK0
 have jH:=PLift.up kk
 clear kk
 refine wp_region_lit ?_
 go_wp2
 refine hk0.down _ _ ?_
 clear hk0
 refine wp_block ?_
 refine wp_loop (fun a' wr=>∃i:Nat,wr=w∧i≤r∧a'.tmps.size=162∧(∀t,t<48→t≠12→a'.tmps.getD t undef=a.tmps.getD t undef)∧a'.tmps.getD 12 undef= .int .i64 (i:Int)∧a'.defers=a.defers)
  (fun a' _=>r-(intOf (a'.tmps.getD 12 undef)).toNat) ?_ ?_
 ·refine⟨0,rfl,Nat.zero_le _,by simp[hz],fun t ht hne=>?_,?_,rfl⟩
  ·dsimp only;rw[ae om]
  ·dsimp only;rw[aA (by simp[hz])];rfl
 ·rintro a' wr ⟨i,rfl,hi,hz,hs,h12,hd⟩;refine wp_seq ?_;have h5':=(hs 5 dc dc).trans h5;have h11':=(hs 11 dc dc).trans h11;have hc':=hc;rw[hra]at hc';refine Xe hz h5' h11' h12 hm ht hc' hr (fun hlt a1 z1 s1 d1=>?_) (fun hge a1 z1 s1 d1=>?_)
  ·have hilt:i<r:=om;obtain⟨q,c',hq⟩:=kT ho (by omega:0<r);rw[hq]at hra;cases hra;subst hq;have hcell:=ho.cellAt i om;rw[List.getElem?_replicate,if_pos hilt]at hcell;refine wp_seq ?_;refine wp_block ?_;refine Xg z1 ((s1 5 dc).trans h5') ((s1 11 dc).trans h11') ((s1 12 dc).trans h12) hm ht hc' hr hlt hcell fun a2 z2 s2 d2=>?_
   refine Xf z2 ((s2 12 dc).trans ((s1 12 dc).trans h12)) om fun a3 z3 s3 j3 d3=>?_
   refine⟨⟨i+1,rfl,hilt,z3,fun t ht hne=>(s3 t ht hne).trans ((s2 t ht).trans ((s1 t ht).trans (hs t ht hne))),by rw[j3];rfl,d3.trans (d2.trans (d1.trans hd))⟩,?_⟩;rw[j3,h12];simp only[intOf];omega
  ·exact jH.down _ z1 (fun t ht hne=>(s1 t ht).trans (hs t ht hne)) (d1.trans hd)
theorem Xh{a:Act}{w:World}{R:Exit→Act→World→Prop}{m:Nat}{vG:Value}{Gs:List Value}(hz:a.tmps.size=162)(h5:a.tmps.getD 5 undef=vG)(hG:w.ownsRow 0 22 1 vG m Gs)(hm:m≤1000000)(hd:∀(t:Nat) (x:Value),Gs[t]? =some x→∃r:Nat,r≤2000000000∧w.ownsRow 0 31 1 x r (List.replicate r (mark (t/2))))
 (kk:∀a':Act,a'.tmps.size=162→a'.tmps.getD 0 undef=a.tmps.getD 0 undef→a'.defers=a.defers→R .normal a' w):(apS3 Tryz.f61).wp Tryz.prog R a w:=by
 have hlen:Gs.length=m:=by rw[hG.1];omega
 refine wp_seq_k fun K0 hK0=>?_
 have hk0:=PLift.up hK0
 clear hK0
 have jH:=PLift.up kk
 clear kk
 refine wp_region_lit ?_
 go_wp2
 refine hk0.down _ _ ?_
 clear hk0
 refine wp_block ?_
 obtain⟨ga,gc,hga⟩:=aT hG
 refine wp_loop (fun a' wr=>∃t:Nat,wr=w∧t≤m∧a'.tmps.size=162∧a'.tmps.getD 0 undef=a.tmps.getD 0 undef∧a'.tmps.getD 5 undef=vG∧a'.tmps.getD 11 undef= .int .i64 (t:Int)∧a'.defers=a.defers)
  (fun a' _=>m-(intOf (a'.tmps.getD 11 undef)).toNat) ?_ ?_
 ·refine⟨0,rfl,Nat.zero_le _,by simp[hz],?_,?_,?_,rfl⟩
  ·dsimp only;rw[ae om]
  ·dsimp only;rw[ae om];exact h5
  ·dsimp only;rw[aA (by simp[hz])];rfl
 ·rintro a' wr ⟨t,rfl,ht,hz,h0,h5,h11,hde⟩;refine wp_seq ?_;refine Xc hz (h5.trans hga) h11 hm (fun hlt a1 z1 s1 d1=>?_) (fun hge a1 z1 s1 d1=>?_)
  ·have Ie:t<m:=om;obtain⟨gq,gc',hq⟩:=kT hG (by omega:0<m);rw[hq]at hga;cases hga;subst hq;have hcell:=hG.cellAt t om;rw[List.getElem?_eq_getElem om]at hcell;obtain⟨r,hr,hro⟩:=hd t _ (List.getElem?_eq_getElem om);refine wp_seq ?_;refine R_ z1 ((s1 5 dc).trans h5) ((s1 11 dc).trans h11) hm hlt hcell hro om fun a2 z2 s2 d2=>?_
   refine Xd z2 ((s2 11 dc dc).trans ((s1 11 dc).trans h11)) om fun a3 z3 s3 j3 d3=>?_
   refine⟨⟨t+1,rfl,Ie,z3,(s3 0 dc dc).trans ((s2 0 dc dc).trans ((s1 0 dc).trans h0)),(s3 5 dc dc).trans ((s2 5 dc dc).trans ((s1 5 dc).trans h5)),by rw[j3];rfl,d3.trans (d2.trans (d1.trans hde))⟩,?_⟩;rw[j3,h11];simp only[intOf];omega
  ·exact jH.down _ z1 ((s1 0 dc).trans h0) (d1.trans hde)
end Go.Proofs.YtcgfgifjkkmmcaaGreatDoor
namespace Go.Proofs.YtcgfgifjkkmmcaaGreatDoor
open Go Go.RowKit Go.Proofs Ab
def apS4(f:Func):Code:=q1 (qd 4 (q2 (qf f)))
def Xi(f:Func):Code:=ql (qb (q2 (apS4 f)))
def apC4(f:Func):Code:=ql (qb (q2 (qb (q1 (q2 (Xi f))))))
theorem Xj{a:Act}{w:World}{R:Exit→Act→World→Prop}{b gU m lT k:Nat}(hz:a.tmps.size=162)(h0:a.tmps.getD 0 undef= .pointer (some ⟨b,0,none⟩))(h13:a.tmps.getD 13 undef= .int .i64 (k:Int))(hb0:w.cell? ⟨b,0,none⟩=some (.slice (some ⟨gU,0,none⟩) m lT))(hm:m≤1000000)
 (kt:(k:Int)<(m:Int)→∀a':Act,a'.tmps.size=162→(∀t,t<48→a'.tmps.getD t undef=a.tmps.getD t undef)→a'.defers=a.defers→R .normal a' w)
 (kf:¬(k:Int)<(m:Int)→∀a':Act,a'.tmps.size=162→(∀t,t<48→a'.tmps.getD t undef=a.tmps.getD t undef)→a'.defers=a.defers→R (.exit 14) a' w):(q1 (Xi Tryz.f61)).wp Tryz.prog R a w:=by
 have g0:=gI hz h0 dc
 have g13:=gI hz h13 dc
 have hA:=PLift.up (And.intro kt kf)
 clear kt kf
 by_cases hi:(k:Int)<(m:Int)
 ·refine wp_seq_k fun K0 hK0=>?_
  have hk0:=PLift.up hK0;clear hK0;refine wp_region_lit ?_;go_wp2;refine hk0.down _ _ ?_;refine wp_cond_true (by rw[ak];dsimp only;rw[aA (by simp[hz])]) ?_;go_wp2;refine hA.down.1 hi _ (by simp[hz]) (fun t ht=>?_) rfl;dsimp only;rw[ae om,ae om,ae om,ae om,ae om,ae om,ae om]
 ·refine wp_seq_k fun K0 hK0=>?_
  have hk0:=PLift.up hK0;clear hK0;refine wp_region_lit ?_;go_wp2;refine hk0.down _ _ ?_;refine wp_cond_false (by rw[ak];dsimp only;rw[aA (by simp[hz])]) ?_;go_wp2;refine hA.down.2 om _ (by simp[hz]) (fun t ht=>?_) rfl;dsimp only;rw[ae om,ae om,ae om,ae om,ae om,ae om,ae om]
theorem Xk{a:Act}{w:World}{R:Exit→Act→World→Prop}{i:Nat}(hz:a.tmps.size=162)(h:a.tmps.getD 13 undef= .int .i64 (i:Int))(hi:i≤1000000)
 (kk:∀a':Act,a'.tmps.size=162→(∀t,t<48→t≠13→a'.tmps.getD t undef=a.tmps.getD t undef)→a'.tmps.getD 13 undef= .int .i64 ((i:Int)+1)→a'.defers=a.defers→R .normal a' w):(q2 (q2 (Xi Tryz.f61))).wp Tryz.prog R a w:=by
 have g:=gI hz h dc
 have jH:=PLift.up kk
 clear kk
 refine wp_region_lit ?_
 go_wp2
 refine jH.down _ (by simp[hz]) (fun t ht hne=>?_) ?_ rfl
 ·dsimp only;rw[ae om,ae om,ae om]
 ·dsimp only;rw[aA (by simp[hz])]
theorem Xl{a:Act}{w:World}{R:Exit→Act→World→Prop}{b gU m lT k i r rc:Nat}{ra:Option Addr}(hz:a.tmps.size=162)(h0:a.tmps.getD 0 undef= .pointer (some ⟨b,0,none⟩))(h13:a.tmps.getD 13 undef= .int .i64 (k:Int))(YS:a.tmps.getD 14 undef= .int .i64 (i:Int))(hb0:w.cell? ⟨b,0,none⟩=some (.slice (some ⟨gU,0,none⟩) m lT))(hm:m≤1000000)(hk:(k:Int)<(m:Int))(hc:w.cell? ⟨gU,k,none⟩=some (.slice ra r rc))(hr:r≤1000000000000)
 (kt:(i:Int)<(r:Int)→∀a':Act,a'.tmps.size=162→(∀t,t<48→a'.tmps.getD t undef=a.tmps.getD t undef)→a'.defers=a.defers→R .normal a' w)
 (kf:¬(i:Int)<(r:Int)→∀a':Act,a'.tmps.size=162→(∀t,t<48→a'.tmps.getD t undef=a.tmps.getD t undef)→a'.defers=a.defers→R (.exit 16) a' w):(q1 (apC4 Tryz.f61)).wp Tryz.prog R a w:=by
 have g0:=gI hz h0 dc
 have g13:=gI hz h13 dc
 have g14:=gI hz YS dc
 have hA:=PLift.up (And.intro kt kf)
 clear kt kf
 by_cases hi:(i:Int)<(r:Int)
 ·refine wp_seq_k fun K0 hK0=>?_
  have hk0:=PLift.up hK0;clear hK0;refine wp_region_lit ?_;go_wp2;refine hk0.down _ _ ?_;refine wp_cond_true (by rw[ak];dsimp only;rw[aA (by simp[hz])]) ?_;go_wp2;refine hA.down.1 hi _ (by simp[hz]) (fun t ht=>?_) rfl;dsimp only;rw[ae om,ae om,ae om,ae om,ae om,ae om,ae om,ae om,ae om,ae om]
 ·refine wp_seq_k fun K0 hK0=>?_
  have hk0:=PLift.up hK0;clear hK0;refine wp_region_lit ?_;go_wp2;refine hk0.down _ _ ?_;refine wp_cond_false (by rw[ak];dsimp only;rw[aA (by simp[hz])]) ?_;go_wp2;refine hA.down.2 om _ (by simp[hz]) (fun t ht=>?_) rfl;dsimp only;rw[ae om,ae om,ae om,ae om,ae om,ae om,ae om,ae om,ae om,ae om]
theorem Xm{a:Act}{w:World}{R:Exit→Act→World→Prop}{i:Nat}(hz:a.tmps.size=162)(h:a.tmps.getD 14 undef= .int .i64 (i:Int))(hi:i≤1000000000000)
 (kk:∀a':Act,a'.tmps.size=162→(∀t,t<48→t≠14→a'.tmps.getD t undef=a.tmps.getD t undef)→a'.tmps.getD 14 undef= .int .i64 ((i:Int)+1)→a'.defers=a.defers→R .normal a' w):(q2 (q2 (apC4 Tryz.f61))).wp Tryz.prog R a w:=by
 have g:=gI hz h dc
 have jH:=PLift.up kk
 clear kk
 refine wp_region_lit ?_
 go_wp2
 refine jH.down _ (by simp[hz]) (fun t ht hne=>?_) ?_ rfl
 ·dsimp only;rw[ae om,ae om,ae om]
 ·dsimp only;rw[aA (by simp[hz])]
theorem Xn{a:Act}{w:World}{R:Exit→Act→World→Prop}{b gU m lT k i r rc rq:Nat}(hz:a.tmps.size=162)(h0:a.tmps.getD 0 undef= .pointer (some ⟨b,0,none⟩))(h13:a.tmps.getD 13 undef= .int .i64 (k:Int))(YS:a.tmps.getD 14 undef= .int .i64 (i:Int))(hb0:w.cell? ⟨b,0,none⟩=some (.slice (some ⟨gU,0,none⟩) m lT))(hm:m≤1000000)(hk:(k:Int)<(m:Int))(hc:w.cell? ⟨gU,k,none⟩=some (.slice (some ⟨rq,0,none⟩) r rc))(hr:r≤1000000000000)(hi:(i:Int)<(r:Int))(hx:w.cell? ⟨rq,i,none⟩=some (mark k))
 (kk:∀a':Act,a'.tmps.size=162→(∀t,t<48→a'.tmps.getD t undef=a.tmps.getD t undef)→a'.defers=a.defers→R .normal a' w):(qb (q1 (q2 (apC4 Tryz.f61)))).wp Tryz.prog R a w:=by
 have g0:=gI hz h0 dc
 have g13:=gI hz h13 dc
 have g14:=gI hz YS dc
 have hw:=pK k om
 unfold mark at hx
 have jH:=PLift.up kk
 clear kk
 refine wp_seq_k fun K0 hK0=>?_
 have hk0:=PLift.up hK0
 clear hK0
 refine wp_region_lit ?_
 go_wp2
 refine hk0.down _ _ ?_
 refine wp_cond_false (by rw[ak];dsimp only;rw[aA (by simp[hz])]) ?_
 go_wp2
 refine jH.down _ (by simp[hz]) (fun t ht=>?_) rfl
 dsimp only
 rw[ae om,ae om,ae om,ae om,ae om,ae om,ae om,ae om,ae om,ae om,ae om,ae om,ae om,ae om]
theorem Si{a:Act}{w:World}{R:Exit→Act→World→Prop}{b gU lT k n:Nat}{v:Value}{Lv:List Value}(hz:a.tmps.size=162)(h0:a.tmps.getD 0 undef= .pointer (some ⟨b,0,none⟩))(h13:a.tmps.getD 13 undef= .int .i64 (k:Int))
 (hx:Bx w b gU lT Lv) (hv:Lv[k]? =some v) (ho:w.ownsRow 0 31 1 v n (List.replicate n (mark k))) (hn:n≤1000000000)
 (kk:∀a':Act,a'.tmps.size=162→(∀t,t<48→t≠14→a'.tmps.getD t undef=a.tmps.getD t undef)→a'.defers=a.defers→R .normal a' w):(q1 (q2 (Xi Tryz.f61))).wp Tryz.prog R a w:=by
 have Vo:k<Lv.length:=(List.getElem?_eq_some_iff.1 hv).1
 have hm:=hx.m
 obtain⟨va,vc,hva⟩:=aT ho
 have hcl:=hx.cl k v hv
 refine wp_block ?_
 refine wp_seq_k fun K0 hK0=>?_
 have hk0:=PLift.up hK0
 clear hK0
 have jH:=PLift.up kk
 clear kk
 refine wp_region_lit ?_
 go_wp2
 refine hk0.down _ _ ?_
 clear hk0
 refine wp_block ?_
 refine wp_loop (fun a' wr=>∃i:Nat,wr=w∧i≤n∧a'.tmps.size=162∧(∀t,t<48→t≠14→a'.tmps.getD t undef=a.tmps.getD t undef)∧a'.tmps.getD 14 undef= .int .i64 (i:Int)∧a'.defers=a.defers)
  (fun a' _=>n-(intOf (a'.tmps.getD 14 undef)).toNat) ?_ ?_
 ·refine⟨0,rfl,Nat.zero_le _,by simp[hz],fun t ht hne=>?_,?_,rfl⟩
  ·dsimp only;rw[ae om]
  ·dsimp only;rw[aA (by simp[hz])];rfl
 ·rintro a' wr ⟨i,rfl,hi,hz,hs,YS,hd⟩;refine wp_seq ?_;have h0':=(hs 0 dc dc).trans h0;have h13':=(hs 13 dc dc).trans h13;have hc':=hcl;rw[hva]at hc';refine Xl hz h0' h13' YS hx.c0 om om hc' om (fun hlt a1 z1 s1 d1=>?_) (fun hge a1 z1 s1 d1=>?_)
  ·have hilt:i<n:=om;obtain⟨q,c',hq⟩:=kT ho (by omega:0<n);rw[hq]at hva;cases hva;subst hq;have hcell:=ho.cellAt i om;rw[List.getElem?_replicate,if_pos hilt]at hcell;refine wp_seq ?_;refine wp_block ?_;refine Xn z1 ((s1 0 dc).trans h0') ((s1 13 dc).trans h13') ((s1 14 dc).trans YS) hx.c0 om om hc' om hlt hcell fun a2 z2 s2 d2=>?_
   refine Xm z2 ((s2 14 dc).trans ((s1 14 dc).trans YS)) om fun a3 z3 s3 j3 d3=>?_
   refine⟨⟨i+1,rfl,hilt,z3,fun t ht hne=>(s3 t ht hne).trans ((s2 t ht).trans ((s1 t ht).trans (hs t ht hne))),by rw[j3];rfl,d3.trans (d2.trans (d1.trans hd))⟩,?_⟩;rw[j3,YS];simp only[intOf];omega
  ·exact jH.down _ z1 (fun t ht hne=>(s1 t ht).trans (hs t ht hne)) (d1.trans hd)
theorem Xo{a:Act}{w:World}{R:Exit→Act→World→Prop}{b gU lT:Nat}{Lv:List Value}(hz:a.tmps.size=162)(h0:a.tmps.getD 0 undef= .pointer (some ⟨b,0,none⟩))(hx:Bx w b gU lT Lv)(hL:Lm w Lv Lv.length)
 (kk:∀a':Act,a'.tmps.size=162→a'.defers=a.defers→R .normal a' w):(apS4 Tryz.f61).wp Tryz.prog R a w:=by
 have hm:=hx.m
 refine wp_seq_k fun K0 hK0=>?_
 have hk0:=PLift.up hK0
 clear hK0
 have jH:=PLift.up kk
 clear kk
 refine wp_region_lit ?_
 go_wp2
 refine hk0.down _ _ ?_
 clear hk0
 refine wp_block ?_
 refine wp_loop (fun a' wr=>∃k:Nat,wr=w∧k≤Lv.length∧a'.tmps.size=162∧a'.tmps.getD 0 undef= .pointer (some ⟨b,0,none⟩)∧a'.tmps.getD 13 undef= .int .i64 (k:Int)∧a'.defers=a.defers)
  (fun a' _=>Lv.length-(intOf (a'.tmps.getD 13 undef)).toNat) ?_ ?_
 ·refine⟨0,rfl,Nat.zero_le _,by simp[hz],?_,?_,rfl⟩
  ·dsimp only;rw[ae om];exact h0
  ·dsimp only;rw[aA (by simp[hz])];rfl
 ·rintro a' wr ⟨k,rfl,hk,hz,h0,h13,hd⟩;refine wp_seq ?_;refine Xj hz h0 h13 hx.c0 om (fun hlt a1 z1 s1 d1=>?_) (fun hge a1 z1 s1 d1=>?_)
  ·have uS:k<Lv.length:=om;have hv:Lv[k]? =some Lv[k]:=List.getElem?_eq_getElem uS;generalize Lv[k]=v at hv;obtain⟨n,xs,hn,ho,hxs⟩:=hL k v hv;obtain rfl:=hxs uS;refine wp_seq ?_;refine Si z1 ((s1 0 dc).trans h0) ((s1 13 dc).trans h13) hx hv ho hn fun a2 z2 s2 d2=>?_
   refine Xk z2 ((s2 13 dc dc).trans ((s1 13 dc).trans h13)) om fun a3 z3 s3 j3 d3=>?_
   refine⟨⟨k+1,rfl,uS,z3,(s3 0 dc dc).trans ((s2 0 dc dc).trans ((s1 0 dc).trans h0)),by rw[j3];rfl,d3.trans (d2.trans (d1.trans hd))⟩,?_⟩;rw[j3,h13];simp only[intOf];omega
  ·exact jH.down _ z1 (d1.trans hd)
theorem NK{rs:Rs}{w:World}{b:Nat}{vl vf vu:Value}{Lv Fv Uv:List Value}(hb:Bn w b rs vl vf vu Lv Fv Uv)(hpos:0<Lv.length)(hm:Lv.length≤1000)(hap:UI Lv)
 (hL:∀(j:Nat) (v:Value),Lv[j]? =some v→∃(n:Nat) (xs:List Value),n≤1000000000∧w.ownsRow 0 31 1 v n xs):
 Calls Tryz.prog 61 #[.pointer (some ⟨b,0,none⟩)] w (fun e w'=>e= .returned (.bool true)∧aI w (fun x=>∃(j:Nat) (v:Value),Lv[j]? =some v∧v.ownBlock=some x) w'):=by
 obtain⟨gU,lT,rfl⟩:=kT hb.rl hpos
 obtain⟨bcap,hbox⟩:=hb.box
 have hb0:=hbox.cellAt 0 dc
 rw[List.getElem?_cons_zero]at hb0
 have hx:Bx w b gU lT Lv:=⟨hb0,fun j v hj=>by
  have:=(List.getElem?_eq_some_iff.1 hj).1;rw[hb.rl.cellAt j om];exact hj,hb.lt b (.inl rfl),hb.lt gU (.inr (.inl rfl)),hm⟩
 have hnb:Nbk b gU Lv:=fun j v hj=>by
  obtain⟨n,xs,_,ho⟩:=hL j v hj;exact⟨sG hbox ho dc rfl,sG hb.rl ho dc rfl⟩
 have hL0:Lm w Lv 0:=fun j v hj=>by
  obtain⟨n,xs,hn,ho⟩:=hL j v hj;exact⟨n,xs,hn,ho,fun h=>absurd h (Nat.not_lt_zero _)⟩
 clear hb hbox hb0 hL
 refine dm (vs:=[.pointer (some ⟨b,0,none⟩)]) Tryz.func61 (c:=qf Tryz.f61) rfl (by show 1≤_;decide) fun a0 z0 e0 d0=>?_
 have e0:a0.tmps.getD 0 undef= .pointer (some ⟨b,0,none⟩):=e0 0 (by show 0<1;decide)
 change a0.tmps.size=162 at z0
 refine wp_seq_k fun K0 hK0=>?_
 have hk0:=PLift.up hK0
 clear hK0
 refine wp_region_lit ?_
 go_wp2
 refine hk0.down _ _ ?_
 clear hk0
 refine wp_seq ?_
 refine WT (by simp[z0]) (by dsimp only;rw[ae dc];exact e0) hx hap hnb hL0 fun a1 w1 z1 h1 d1 iY L1=>?_
 have hx1:Bx w1 b gU lT Lv:=hx.keep iY.size (iY.block b hx.lb fun⟨j,v,h1,h2⟩=>(hnb j v h1).1 h2) (iY.block gU hx.ll fun⟨j,v,h1,h2⟩=>(hnb j v h1).2 h2)
 refine wp_seq_k fun K1 hK1=>?_
 have hk1:=PLift.up hK1
 clear hK1
 refine wp_region_lit ?_
 go_wp2
 refine hk1.down _ _ ?_
 clear hk1
 refine wp_seq ?_
 refine ag_all (by simp[z1]) (by dsimp only;rw[ae dc];exact h1) (by dsimp only;rw[aA (by simp[z1])]) hx1 hap hnb L1 fun a2 w2 vG Gs z2 h2 g2 d2 L2 bel2 G2 G02 Gd2=>?_
 have hx2:Bx w2 b gU lT Lv:=hx1.keep bel2.size (bel2.block b hx1.lb fun⟨j,v,h1,h2⟩=>(hnb j v h1).1 h2) (bel2.block gU hx1.ll fun⟨j,v,h1,h2⟩=>(hnb j v h1).2 h2)
 refine wp_seq ?_
 refine Xh z2 g2 G2 om (fun t x ht=>by obtain⟨r,hr,ho,_⟩:=Gd2.2 t x ht;exact⟨r,hr,ho⟩) fun a3 z3 h3 d3=>?_
 refine wp_seq ?_
 refine Xo z3 (h3.trans h2) hx2 L2 fun a4 z4 d4=>?_
 refine wp_seq_k fun K2 hK2=>?_
 have hk2:=PLift.up hK2
 clear hK2
 refine wp_region_lit ?_
 go_wp2
 refine hk2.down _ _ ?_
 clear hk2
 refine wp_ret ?_
 refine⟨?_,_,aV (show bG Tryz.f61.results.toList=some [2]from rfl) _ _,?_,sH iY bel2 fun x hx=>hx⟩
 ·first|rfl|exact d4.trans (d3.trans d2)
 ·have hz4:(a4.tmps.setIfInBounds 2 (Value.bool true)).getD 2 undef= .bool true:=aA (by simp[z4]);exact congrArg Ending.returned hz4
