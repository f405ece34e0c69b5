import Derived.Test.YtoehbmlfnjlchaaGreatDoorCards
import Derived.Test.YtoehbmlfnjlchaaGreatDoorTie
import Derived.Deep.DeepHandedRow
import Derived.Lib.LaidTab
import Derived.Test.YtoehbmlfnjlchaaGreatDoorU21
set_option linter.all false
set_option maxHeartbeats 10000000
set_option maxRecDepth 2000000
namespace Go.Proofs.YtoehbmlfnjlchaaGreatDoor
section
open Go Go.RowKit Go.Proofs Ab
structure OO(w wA:World)(b:Nat)(vl vf vu:Value)(Lv Fv Uv vs:List Value)(w':World)(lI lJ lK:Value)(Fs Us:List Value):Prop where
 o:Outs w b vl vf vu Lv Fv Uv vs w' lI lJ lK Fs Us
 q:∀q,Bq b lI lJ lK q→Bq b vl vf vu q∨wA.heap.size≤q
 s0:w.heap.size≤wA.heap.size
 sz:wA.heap.size≤w'.heap.size
 kp:∀k,k<wA.heap.size→¬Bq b vl vf vu k→w'.heap[k]? =wA.heap[k]?
section
variable {w wA:World} {b:Nat} {vl vf vu:Value} {Lv Fv Uv vs:List Value} {w':World} {lI lJ lK:Value} {Fs Us:List Value}
theorem OO.start(hb:Bn w b vl vf vu Lv Fv Uv)(hB:Below w.heap.size w wA):OO w wA b vl vf vu Lv Fv Uv [] wA vl vf vu [] []:=
 ⟨⟨⟨hB.os,hB.tape,hB.output,hB.size,fun k hk _=>hB.block k hk⟩,by simpa using hb.below hB,rfl,rfl,fun v hv=>by simp at hv,fun v hv=>by simp at hv⟩,fun q h=> .inl h,hB.size,Nat.le_refl _,fun _ _ _=>rfl⟩
theorem OO.below(h:OO w wA b vl vf vu Lv Fv Uv vs w' lI lJ lK Fs Us){w2:World}(hB:Below w'.heap.size w' w2):OO w wA b vl vf vu Lv Fv Uv vs w2 lI lJ lK Fs Us:=
 ⟨⟨h.o.bel.after hB,h.o.bn.below hB,h.o.lf,h.o.lu,h.o.ff,h.o.fu⟩,h.q,h.s0,Nat.le_trans h.sz hB.size,fun k hk hn=>(hB.block k (Nat.lt_of_lt_of_le hk h.sz)).trans (h.kp k hk hn)⟩
theorem OO.step(h:OO w wA b vl vf vu Lv Fv Uv vs w' lI lJ lK Fs Us){vs2:List Value}{e:Ending}{w3:World}(h2:OutR w' b lI lJ lK (Lv++vs) (Fv++Fs) (Uv++Us) vs2 e w3):e= .returned (.tuple #[])∧∃Tc Td Tf WM WN,OO w wA b vl vf vu Lv Fv Uv (vs++vs2) w3 Tc Td Tf WM WN:=by
 obtain⟨Tc,Td,Tf,F2,U2,he,hbel,hbn,lF,lU,fF,fU,hq⟩:=h2;have hs:=h.sz;have hs0:=h.s0;have hs3:=hbel.size;have hsw:=h.o.bel.size;refine⟨he,Tc,Td,Tf,Fs++F2,Us++U2,⟨⟨hbel.os.trans h.o.bel.os,hbel.tape.trans h.o.bel.tape,hbel.output.trans h.o.bel.output,om,fun k hk hn=>(hbel.block k om fun hk2=>?_).trans (h.o.bel.block k hk hn)⟩,by simpa using hbn,by simp[h.o.lf,lF],by simp[h.o.lu,lU],fun v hv=>(List.mem_append.1 hv).elim (h.o.ff v) (fF v),fun v hv=>(List.mem_append.1 hv).elim (h.o.fu v) (fU v)⟩,fun q hq3=>?_,hs0,om,fun k hk hn=>(hbel.block k om fun hk2=>?_).trans (h.kp k hk hn)⟩
 ·rcases h.q k hk2 with h1|h1
  ·exact hn h1
  ·omega
 ·rcases hq q hq3 with h1|h1
  ·exact h.q q h1
  ·exact .inr om
 ·rcases h.q k hk2 with h1|h1
  ·exact hn h1
  ·omega
theorem OO.own(h:OO w wA b vl vf vu Lv Fv Uv vs w' lI lJ lK Fs Us)(hb:Bn w b vl vf vu Lv Fv Uv){A:List Nat}{v:Value}(ho:Own w A v wA):Own w A v w':=by
 obtain⟨m,hm,o⟩:=ho;exact⟨m,hm,bg o fun q hq=>h.kp q (o.lt q hq).2 fun hB=>by have:=hb.lt q hB;have:=(o.lt q hq).1;omega⟩
theorem Fj(h:OO w wA b vl vf vu Lv Fv Uv vs w' lI lJ lK Fs Us){m:Nat}(l1:Lv.length=m)(l2:Fv.length=m)(l3:Uv.length=m)(cl:∀v,v∈Lv→v.oneCell'=true)(cf:∀v,v∈Fv→v.oneCell'=true)(cu:∀v,v∈Uv→v.oneCell'=true)(hm:m+vs.length≤900)(cs:∀v,v∈vs→∃a n c,v=Value.slice a n c)
 (vs2:List Value) (cs2:∀v,v∈vs2→∃a n c,v=Value.slice a n c) {k:Nat} (hk:vs2.length=k) (hk2:k≤100):
 Calls Tryz.prog 29 #[.pointer (some ⟨b,0,none⟩),.slice (some ⟨w'.heap.size,0,none⟩) k k] (w'.alloc (.cells vs2.toArray 23)) (fun e w3=>e= .returned (.tuple #[])∧∃Tc Td Tf WM WN,OO w wA b vl vf vu Lv Fv Uv (vs++vs2) w3 Tc Td Tf WM WN):=by
 have ba:=aQ w' (.cells vs2.toArray 23)
 have h2:=h.below ba
 have own:=World.ownsRow_lit (base:=0) (e:=23) (size:=1) w' vs2.toArray k (Nat.zero_le _) (by unfold maxLen;omega) (by simp[hk])
 have sl:∀{v:Value},(∃a n c,v=Value.slice a n c)→v.oneCell'=true:=fun h=>by obtain⟨a,n,c,rfl⟩:=h;rfl
 have sl0:∀{v:Value},(∃a c,v=Value.slice a 0 c)→v.oneCell'=true:=fun h=>by obtain⟨a,c,rfl⟩:=h;rfl
 have hva:aO (w'.alloc (.cells vs2.toArray 23)) (fun q=>q=w'.heap.size) (.slice (some ⟨w'.heap.size,0,none⟩) k k) (.l 1 (vs2.map V.c)):=by
  refine Bo Nat.one_pos own ?_ (by unfold maxLen;omega) fun q hq=>by cases hq;rfl
  exact⟨sy,fun j v x h1 h2=>by
   rw[List.getElem?_map,show vs2[j]? =some v from by simpa using h1]at h2;cases h2;exact .c _⟩
 have hsz:w'.heap.size<(w'.alloc (.cells vs2.toArray 23)).heap.size:=by rw[World.size_alloc];omega
 have hlt:=h.o.bn.lt
 refine(VB (n:=m+vs.length) h2.o.bn (fun q hq=>by rw[hq];exact hsz) (fun q hq hq2=>by have:=hlt q hq;omega) hva (by simp[l1]) (by simp[l2,h.o.lf]) (by simp[l3,h.o.lu]) (fun v hv=>(List.mem_append.1 hv).elim (cl v) fun h=>sl (cs v h)) (fun v hv=>(List.mem_append.1 hv).elim (cf v) fun hv=>sl0 (h.o.ff v hv)) (fun v hv=>(List.mem_append.1 hv).elim (cu v) fun hv=>sl0 (h.o.fu v hv)) (fun v hv=>sl (cs2 v hv)) om om).mono fun e w3 hO=>h2.step hO
end
theorem WO{a:Act}{w wA:World}{R:Exit→Act→World→Prop}{b m g1 g2:Nat}{vl vf vu:Value}{Lv Fv Uv us:List Value}{zs:List Int}{G:Nat→Prop}{M:Nat}(hM:M≤900000000)(hz:a.tmps.size=353)(h7:a.tmps.getD 7 undef= .pointer (some ⟨b,0,none⟩))(h13:a.tmps.getD 13 undef= .slice (some ⟨g1,0,none⟩) 7 7)(h34:a.tmps.getD 34 undef= .slice (some ⟨g2,0,none⟩) 7 7)
 (hb:Bn w b vl vf vu Lv Fv Uv) (hB:Below w.heap.size w wA) (l1:Lv.length=m) (l2:Fv.length=m) (l3:Uv.length=m) (cl:∀v,v∈Lv→v.oneCell'=true) (cf:∀v,v∈Fv→v.oneCell'=true) (cu:∀v,v∈Uv→v.oneCell'=true) (hm:m≤500) (lu:us.length=7) (lz:zs.length=7)
 (hg1:w.heap.size≤g1∧g1<wA.heap.size) (hg2:w.heap.size≤g2∧g2<wA.heap.size) (hG:∀q,G q→q<wA.heap.size∧¬Bq b vl vf vu q)
 (hc:∀(i:Nat) (u:Value) (z:Int),us[i]? =some u→zs[i]? =some z→wA.cell? ⟨g1,i*2,none⟩=some (.bool (decide (z<0)))∧wA.cell? ⟨g1,i*2+1,none⟩=some u∧Own w (dg B z.natAbs) u wA∧z.natAbs<B^M∧∃x,wA.cell? ⟨g2,i*2,none⟩=some (.bool (decide (z<0)))∧wA.cell? ⟨g2,i*2+1,none⟩=some x∧aO wA G x (.l 1 (W (dg B z.natAbs))))
 (kk:∀(a':Act) (w':World) (lI lJ lK:Value) (Fs Us:List Value),kA a a' 353 34 []<|OO w wA b vl vf vu Lv Fv Uv us w' lI lJ lK Fs Us→(qd 13 (uh Tryz.f3)).wp Tryz.prog R a' w'):(qd 12 (uh Tryz.f3)).wp Tryz.prog R a wA:=by
 have blt:=hb.lt
 have nB:∀{k:Nat},w.heap.size≤k→¬Bq b vl vf vu k:=fun hk h=>by have:=blt _ h;omega
 have fu:∀(i:Nat) (u:Value),us[i]? =some u→∃a n c,u=Value.slice a n c:=fun i u hu=>by
  have hi:=(List.getElem?_eq_some_iff.1 hu).1;obtain⟨z,hz⟩:∃z,zs[i]? =some z:=⟨_,List.getElem?_eq_getElem om⟩;obtain⟨a,c,e⟩:=(hc i u z hu hz).2.2.1.shape;exact⟨a,_,c,e⟩
 refine wp_seq ?_
 refine wp_seq ?_
 refine za22 hz fun a1 z1 s1 k35 d1=>?_
 have j7:=(s1 7 dc).trans h7
 have j13:=(s1 13 dc).trans h13
 have j34:=(s1 34 dc).trans h34
 refine wp_block ?_
 refine wp_loop_ghost (fun j a' w'=>∃(i:Nat) (lI lJ lK:Value) (Fs Us:List Value),i+j=7∧a'.tmps.size=353∧a'.defers=a.defers∧(∀t,t<35→a'.tmps.getD t undef=a.tmps.getD t undef)∧a'.tmps.getD 35 undef= .int .i64 (i:Int)∧OO w wA b vl vf vu Lv Fv Uv (us.take i) w' lI lJ lK Fs Us) 7 ⟨0,vl,vf,vu,[],[],rfl,z1,d1,s1,k35,OO.start hb hB⟩ ?_
 rintro j a2 w2 ⟨i,lI,lJ,lK,Fs,Us,hij,z2,d2,s2,k35,O⟩
 have q7:=(s2 7 dc).trans h7
 have q13:=(s2 13 dc).trans h13
 have q34:=(s2 34 dc).trans h34
 refine wp_seq ?_
 refine wp_seq ?_
 by_cases hi:i<7
 ·refine za23t z2 q34 k35 hi fun a3 z3 s3 h176 d3=>?_
  refine wp_cond_true (by rw[az,h176]) ?_;refine wp_skip ?_;refine wp_seq ?_;refine wp_block ?_;obtain⟨u,hu⟩:∃u,us[i]? =some u:=⟨_,List.getElem?_eq_getElem om⟩;obtain⟨z,hzz⟩:∃z,zs[i]? =some z:=⟨_,List.getElem?_eq_getElem om⟩;obtain⟨c0,c1,ou,hzb,x,c2,c3,rx⟩:=hc i u z hu hzz;have T:∀{w3:World},Below w2.heap.size w2 w3→∀k,k<wA.heap.size→¬Bq b vl vf vu k→w3.heap[k]? =wA.heap[k]? :=fun hB=>(O.below hB).kp
  have e1:=T (aJ w2) g1 hg1.2 (nB hg1.1);have e2:=T (aJ w2) g2 hg2.2 (nB hg2.1);have hsame:∀w3,Below w2.heap.size w2 w3→Calls Tryz.prog 28 #[.agg #[.bool (decide (z<0)),u],.agg #[.bool (decide (z<0)),x]] w3 (fun e w4=>e= .returned (.bool true)∧Below w3.heap.size w3 w4):=fun w3 hB=>by
   have O3:=O.below hB;have r1:IA w3 (fun q=>q<w3.heap.size) (.agg #[.bool (decide (z<0)),u]) (decide (z<0)) (dg B z.natAbs):=⟨u,rfl,(O3.own hb ou).rep⟩;have r2:IA w3 (fun q=>q<w3.heap.size) (.agg #[.bool (decide (z<0)),x]) (decide (z<0)) (dg B z.natAbs):=⟨x,rfl,rx.mono (fun q hq=>Nat.lt_of_lt_of_le (hG q hq).1 O3.sz) fun q hq=>T hB q (hG q hq).1 (hG q hq).2⟩;exact SX (vs:=[_,_]) (pR rfl hzb om) (fun q h=>h) (LZ r1.rep r2.rep)
  refine wp_seq ?_;refine wp_seq ?_;refine za25 (ix:=i) z3 ((s3 13 dc).trans q13) ((s3 34 dc).trans q34) ((s3 35 dc).trans k35) (Nat.lt_of_lt_of_le hg1.2 O.sz) (Nat.lt_of_lt_of_le hg2.2 O.sz) om ((af e1).trans c0) ((af e1).trans c1) ((af e2).trans c2) ((af e2).trans c3) hsame fun a4 w4 z4 s4 h188 d4 B4=>?_
  refine wp_cond_false (by rw[az,h188]) ?_;refine wp_skip ?_;obtain⟨ua,un,uc,rfl⟩:=fu i u hu;have O4:=O.below B4;have e4:=T B4 g1 hg1.2 (nB hg1.1);have hmem:∀v,v∈us.take i→∃a n c,v=Value.slice a n c:=fun v hv=>by
   obtain⟨j,hj⟩:=List.mem_iff_getElem?.1 (List.mem_of_mem_take hv);exact fu j v hj
  have hcall:=Fj O4 l1 l2 l3 cl cf cu (by simp;omega) hmem [.slice ua un uc] (fun v hv=>by rw[List.mem_singleton.1 hv];exact⟨_,_,_,rfl⟩) (k:=1) rfl dc;refine za27 (Qf:=fun w3=>∃Tc Td Tf WM WN,OO w wA b vl vf vu Lv Fv Uv (us.take i++[.slice ua un uc]) w3 Tc Td Tf WM WN) z4 ((s4 7 dc).trans ((s3 7 dc).trans q7)) ((s4 13 dc).trans ((s3 13 dc).trans q13)) ((s4 35 dc).trans ((s3 35 dc).trans k35)) hi ((af e4).trans c1) hcall fun a5 w5 z5 s5 d5 hQ=>?_
  obtain⟨Tc,Td,Tf,WM,WN,O5⟩:=hQ;rw[show us.take i++[.slice ua un uc]=us.take (i+1)from by
   rw[List.take_succ_eq_append_getElem (by omega:i<us.length)];rw[List.getElem?_eq_getElem om]at hu;rw[Option.some.inj hu]]at O5
  refine za24 (i:=i) z5 ((s5 35 dc).trans ((s4 35 dc).trans ((s3 35 dc).trans k35))) om fun a6 z6 s6 k6 d6=>?_
  exact⟨j-1,om,i+1,Tc,Td,Tf,WM,WN,om,z6,d6.trans (d5.trans (d4.trans (d3.trans d2))),fun t ht=>(s6 t ht).trans ((s5 t om).trans ((s4 t om).trans ((s3 t om).trans (s2 t ht)))),k6,O5⟩
 ·obtain rfl:i=7:=om;refine za23f z2 q34 k35 hi fun a3 z3 s3 h176 d3=>?_
  refine wp_cond_false (by rw[az,h176]) ?_;refine wp_exit ?_;rw[show us.take 7=us from List.take_of_length_le om]at O;exact kk a3 w2 lI lJ lK Fs Us z3 (fun t ht=>(s3 t om).trans (s2 t om)) (d3.trans d2) O
end
section
open Go Go.RowKit Go.Proofs Ab
theorem rZ{h e:Nat→Prop}{l:List Nat}{g:Nat→Value}{A:AC}(hl:(l.all fun t=>Ur t A)=true):yL ⟨h,e,l.map fun t=>(t,g t)⟩ A:=fun m v hm=>by
 obtain⟨t,ht,he⟩:=List.mem_map.1 hm;have e1:t=m:=congrArg Prod.fst he;exact e1▸List.all_eq_true.1 hl t ht
def kpZ:List Nat:=[2,7,8,9,10,14,15,17,18,20,22,24,26,28,30,31,32,33]
theorem za_chk{a:Act}{w:World}{R:Exit→Act→World→Prop}{X Y D Q Rm Fl U S M:Int}{Dr G G1 AX:List Nat}{n e:Int}(hz:a.tmps.size=353)(hd:a.defers=[])
 (hw:qi (aF Tryz.prog J0) (ik Tryz.prog) ((xX 13 (aZ a3)).p1.seq ((xX 14 (aZ a3)).p1.seq ((xX 15 (aZ a3)).p1.seq ((xX 16 (aZ a3)).p1.seq ((xX 17 (aZ a3)).p1.seq (xX 18 (aZ a3)).p1))))) (fun ex s=>ex= .normal∧True)
   ⟨[(2,.i .i64 n),(11,jQ X),(12,jQ Y),(14,jQ D),(15,.l 1 (W Dr)),(16,.i .i64 e),(17,jQ Q),(18,jQ Rm),(19,.i .i64 e),(20,jQ Fl),(22,jQ X),(24,jQ U),(26,jQ S),(28,jQ X),(30,.l 1 (W AX)),(31,jQ M),(32,.l 1 (W G)),(33,.l 1 (W G1))],[],0⟩)
 (henv:∀p,p∈([(2,.i .i64 n),(11,jQ X),(12,jQ Y),(14,jQ D),(15,.l 1 (W Dr)),(16,.i .i64 e),(17,jQ Q),(18,jQ Rm),(19,.i .i64 e),(20,jQ Fl),(22,jQ X),(24,jQ U),(26,jQ S),(28,jQ X),(30,.l 1 (W AX)),(31,jQ M),(32,.l 1 (W G)),(33,.l 1 (W G1))]:List (Nat×V))→Rep w (fun q=>q<w.heap.size) (fun _=>none) (a.tmps.getD p.1 undef) p.2)
 (kk:∀(a':Act) (w':World),a'.tmps.size=353→(∀t,t∈kpZ→a'.tmps.getD t undef=a.tmps.getD t undef)→a'.defers=[]→Below w.heap.size w w'→(qd 19 (uh Tryz.f3)).wp Tryz.prog R a' w'):(qd 13 (uh Tryz.f3)).wp Tryz.prog R a w:=by
 have iG:Conc w ⟨fun q=>q<w.heap.size,fun _=>False,kpZ.map fun t=>(t,a.tmps.getD t undef)⟩ w (fun q=>q<w.heap.size) (fun _=>none) 353 a ⟨[(2,.i .i64 n),(11,jQ X),(12,jQ Y),(14,jQ D),(15,.l 1 (W Dr)),(16,.i .i64 e),(17,jQ Q),(18,jQ Rm),(19,.i .i64 e),(20,jQ Fl),(22,jQ X),(24,jQ U),(26,jQ S),(28,jQ X),(30,.l 1 (W AX)),(31,jQ M),(32,.l 1 (W G)),(33,.l 1 (W G1))],[],0⟩:=by
  refine⟨⟨aY.refl _ _,MO _ _,fun _ h=>h,fun b h _=> .inl h,fun id o h=>(by cases h),fun i j oi oj vi vj q _ h=>(by cases h)⟩,hz,hd,fun m v hm=>?_,?_,fun _ _=>rfl⟩
  ·obtain⟨t,_,he⟩:=List.mem_map.1 hm;cases he;rfl
  ·exact CV (fun t=>a.tmps.getD t undef) _ henv
 refine tN dB (by kernel_rfl) (rZ dc) iG hw ?_
 intro a1 w1 H1 X3 s1 hv1 hc1
 refine tN dB (by kernel_rfl) (rZ dc) hc1 hv1 ?_
 intro a2 w2 H2 X4 s2 hv2 hc2
 refine tN dB (by kernel_rfl) (rZ dc) hc2 hv2 ?_
 intro a3 w3 H3 ov3 s3 hv3 hc3
 refine tN dB (by kernel_rfl) (rZ dc) hc3 hv3 ?_
 intro a4 w4 H4 ov4 s4 hv4 hc4
 refine tN dB (by kernel_rfl) (rZ dc) hc4 hv4 ?_
 intro a5 w5 H5 ov5 s5 hv5 hc5
 refine Jp dB (by kernel_rfl) (rZ dc) hc5 hv5 ?_
 intro a6 w6 H6 ov6 s6 _ hc6
 exact kk a6 w6 hc6.Dp (fun t ht=>hc6.kp t _ (List.mem_map.2 ⟨t,ht,rfl⟩)) hc6.Am (hc6.mem.bel.below (fun _ h=>h))
theorem box_ip{w:World}{H:Nat→Prop}{q:Nat}{z:Int}{u:Value}(h:gu w q (decide (z<0)) u)(hr:aO w H u (.l 1 (W (dg B z.natAbs))))(hq:H q):aO w H (.pointer (some ⟨q,0,none⟩)) (jQ z):=by
 refine .ip _ 0 (fun j=>[Value.bool (decide (z<0)),u].getD j undef) q 0 hq (fun j hj=>?_) (fun j x hx=>?_)
 ·match j,hj with
  |0,_=>exact cell_of_row _ _ 0 _ _ _ h
  |1,_=>exact cell_of_row _ _ 1 _ _ _ h
 ·match j,hx with
  |0,hx=>cases hx;exact .b _
  |1,hx=>cases hx;exact hr
theorem zfab(x y:Int):(x.fdiv y).natAbs≤x.natAbs+1:=by
 by_cases h:y=0
 ·subst h;rw[Int.fdiv_zero];simp
 ·rw[ER x y h];have:=Int.natAbs_tdiv_le_natAbs x y;split<;>omega
theorem zdRl{x y:Int}{m:Nat}(hy:y.natAbs<B^m):FC x y<B^m:=by
 unfold FC;split
 ·exact Nat.pow_pos dc
 ·rename_i h;have h1:=Int.emod_nonneg x h;have h2:=Int.emod_lt x h;exact Nat.lt_of_le_of_lt (by show(x%y).natAbs≤_;omega) hy
structure Bd(M n:Nat)(X Y:Int):Prop where
 x:X.natAbs<B^M
 y:Y.natAbs<B^M
 s:(X+Y).natAbs<B^M
 d:(X-Y).natAbs<B^M
 p:(X*Y).natAbs<B^M
 e:(X.ediv Y).natAbs<B^M
 r:FC X Y<B^M
 q:(zq X Y).natAbs<B^M
 t:(zr X Y).natAbs<B^M
 f:(X.fdiv Y).natAbs<B^M
 u:(X*2^n).natAbs<B^M
 v:(X.fdiv (2^n)).natAbs<B^M
theorem Bd.mk'{m n:Nat}{X Y:Int}(hx:X.natAbs<B^m)(hy:Y.natAbs<B^m)(hn:n≤127):Bd (m+m+2) n X Y:=by
 have up:∀{z k:Nat},z<B^k→k≤m+m+2→z<B^(m+m+2):=fun h hk=>Nat.lt_of_lt_of_le h (Nat.pow_le_pow_right dc hk)
 have h2:B^m*2≤B^(m+1):=Nat.mul_le_mul_left _ dc;have hf:=zfab X Y;have hf2:=zfab X (2^n);refine⟨up hx om,up hy om,up (k:=m+1) om om,up (k:=m+1) om om,up (k:=m+m) (by rw[Int.natAbs_mul,Nat.pow_add];exact Nat.mul_lt_mul_of_lt_of_lt hx hy) om,up (Nat.lt_of_le_of_lt (Int.natAbs_ediv_le_natAbs X Y) hx) om,up (zdRl hy) om,up (Nat.lt_of_le_of_lt (zO X Y) hx) om,up (Nat.lt_of_le_of_lt (zQ X Y) hx) om,up (k:=m+1) om om,?_,up (k:=m+1) om om⟩;rw[Int.natAbs_mul,Int.natAbs_pow];exact up (k:=m+2) (ET (e:=2) hx om) om
theorem gf2{s t:Bool}{A1 A2:List Nat}:gf [(s,A1),(t,A2)]=Nat.gcd (nv B A1) (nv B A2):=by
 show Nat.gcd (Nat.gcd 0 (nv B A1)) (nv B A2)=_;rw[Nat.gcd_zero_left]
theorem gf1{s:Bool}{A1:List Nat}:gf [(s,A1)]=nv B A1:=by
 show Nat.gcd 0 (nv B A1)=_;rw[Nat.gcd_zero_left]
theorem Ti{x y k:Nat}(hx:x<k)(hy:y<k):Nat.gcd x y<k:=by
 rcases Nat.eq_zero_or_pos x with h|h
 ·subst h;rw[Nat.gcd_zero_left];exact hy
 ·exact Nat.lt_of_le_of_lt (Nat.le_of_dvd h (Nat.gcd_dvd_left _ _)) hx
theorem Tj{n m:Nat}{s t:Bool}{A1 A2:List Nat}{V:Nat→Value}(hb:Bd m n (zv s A1) (zv t A2))(hm:m≤1000000000):∀p,p∈fC n s t A1 A2 V→p.2.length≤1000000000:=by
 have L:∀{z:Nat},z<B^m→(dg B z).length≤1000000000:=fun h=>Nat.le_trans (dS h) hm
 have hx:=hb.x;have hy:=hb.y;rw[mY]at hx hy;intro p hp;simp only[fC,List.mem_append,List.mem_cons,List.not_mem_nil,or_false]at hp;rcases hp with (rfl|rfl|rfl|rfl|rfl|rfl|rfl)|(rfl|rfl)|(rfl|rfl)|rfl|rfl|rfl|rfl|rfl|rfl|rfl|rfl|rfl
 ·exact L hb.s
 ·exact L hb.d
 ·exact L hb.p
 ·exact L (by rw[Int.natAbs_neg];exact hb.x)
 ·exact L hb.x
 ·exact L hb.x
 ·exact L hb.x
 ·exact L hb.e
 ·exact L hb.r
 ·exact L hb.q
 ·exact L hb.t
 ·exact L hb.f
 ·exact L hb.x
 ·exact L hb.u
 ·exact L hb.v
 ·exact L hb.x
 ·exact L hx
 ·exact L (by rw[mY];exact hx)
 ·exact L (by rw[gf2];exact Ti hx hy)
 ·exact L (by rw[gf1];exact hx)
theorem zwalk{X Y:Int}{n m:Nat}{s t:Bool}{A1 A2:List Nat}(hX:X=zv s A1)(hY:Y=zv t A2)(hbd:Bd m n X Y)(hn:n≤127)(hm:m≤100000000)(b1:A1.length≤10000000)(b2:A2.length≤10000000)(w1:Wd A1)(w2:Wd A2):
 qi (aF Tryz.prog J0) (ik Tryz.prog) ((xX 13 (aZ a3)).p1.seq ((xX 14 (aZ a3)).p1.seq ((xX 15 (aZ a3)).p1.seq ((xX 16 (aZ a3)).p1.seq ((xX 17 (aZ a3)).p1.seq (xX 18 (aZ a3)).p1))))) (fun ex s=>ex= .normal∧True)
  ⟨[(2,.i .i64 (n:Int)),(11,jQ X),(12,jQ Y),(14,jQ (X.ediv Y)),(15,.l 1 (W (dg B (FC X Y)))),(16,.i .i64 (ze Y)),(17,jQ (zq X Y)),(18,jQ (zr X Y)),(19,.i .i64 (ze Y)),(20,jQ (X.fdiv Y)),(22,jQ X),(24,jQ (X*2^n)),(26,jQ (X.fdiv (2^n))),(28,jQ X),(30,.l 1 (W (dg B (nv B A1)))),(31,jQ (zv true A1)),(32,.l 1 (W (dg B (gf [(s,A1),(t,A2)])))),(33,.l 1 (W (dg B (gf [(s,A1)]))))],[],0⟩:=by
 have ax:X.natAbs=nv B A1:=by rw[hX];exact mY s A1
 have ay:Y.natAbs=nv B A2:=by rw[hY];exact mY t A2
 have bx:X.natAbs<B^A1.length:=by rw[ax];exact b_ w1
 have xK:Y.natAbs<B^A2.length:=by rw[ay];exact b_ w2
 have lx:=Nat.le_trans (dS bx) b1
 have ly:=Nat.le_trans (dS xK) b2
 have c1:=Ic (decide (X<0)) (decide (Y<0)) (dg B X.natAbs) (dg B Y.natAbs) 10000000 (Nat.le_refl _) (bF _) (bF _) lx ly
 have c2:=t_ (decide (X<0)) (decide (Y<0)) (dg B X.natAbs) (dg B Y.natAbs) (bF _) (bF _) om om
 have c3:=C_ (decide (X<0)) (decide (Y<0)) (dg B X.natAbs) (dg B Y.natAbs) 10000000 (Nat.le_refl _) (bF _) (bF _) lx ly
 have c4:=Ih (decide (X<0)) (dg B X.natAbs) (n:Int) (bF _) om
 have c5:=Ii (decide (X<0)) (dg B X.natAbs) (n:Int) (bF _) om om
 rw[kW]at c1 c2 c3 c4 c5
 rw[kW]at c1 c2 c3
 rw[show zlV X (n:Int)=X*2^n from if_neg om,show zlE (n:Int)=0 from if_neg om]at c4
 rw[show zrV X (n:Int)=X.fdiv (2^n)from if_neg om,show zrE (n:Int)=0 from if_neg om]at c5
 have c6:=pO true (n:=nv B A1) (m:=m) (by rw[←ax];exact hbd.x) om
 have c7:=Ig [nfp X,nfp Y] 10000000 dc (by show 2≤_;decide) (fun p hp=>by
  simp only[List.mem_cons,List.not_mem_nil,or_false]at hp;rcases hp with rfl|rfl
  ·exact⟨bF _,lx⟩
  ·exact⟨bF _,ly⟩)
 rw[show gf [nfp X,nfp Y]=gf [(s,A1),(t,A2)]from by
  rw[show gf [nfp X,nfp Y]=Nat.gcd (nv B (dg B X.natAbs)) (nv B (dg B Y.natAbs))from gf2,dE,dE,ax,ay,gf2]]at c7
 have S:∀{z:Int},z.natAbs<B^m→aF Tryz.prog J0 28 [zN z,zN z] (.b true):=fun h=>pR rfl h om
 have gl:(dg B (gf [(s,A1),(t,A2)])).length≤9223372036854775807:=by
  have:=dS (show gf [(s,A1),(t,A2)]<B^m by rw[gf2,←ax,←ay];exact Ti hbd.x hbd.y);omega
 refine ML X Y (X.ediv Y) (zq X Y) (zr X Y) (X.fdiv Y) (X*2^n) (X.fdiv (2^n)) (zv true A1) (dg B (FC X Y)) (dg B (gf [(s,A1),(t,A2)])) (dg B (gf [(s,A1)])) (dg B (nv B A1)) (n:Int) (ze Y) (by have:=dS hbd.r;omega) gl (by rw[←ax];omega) (by rw[ax]) (by rw[gf1]) c1 c2 c3 c4 c5 c6 (by rw[←ax];exact c7) (S hbd.e) (S hbd.q) (S hbd.t) (S hbd.f) (S hbd.x) (S hbd.u) (S hbd.v) (S (by rw[mY,←ax];exact hbd.x))
end
section
open Go Go.RowKit Go.Proofs Ab
def Sf(w:World)(b:Nat)(vl vf vu:Value)(p1 p2 q:Nat):Prop:=q<w.heap.size∧¬Bq b vl vf vu q∧q≠p1∧q≠p2
theorem Tb.eq{w w':World}(h:Tb w)(h0:w'.heap[0]? =w.heap[0]?):Tb w':=by
 have h1:0<w'.heap.size:=by
  rcases Nat.eq_zero_or_pos w'.heap.size with h2|h2
  ·have e1:w'.heap[0]? =none:=by simp[h2]
   have e2:w.heap[0]? =some (w.heap[0]'h.1):=Array.getElem?_eq_getElem h.1;rw[e1,e2]at h0;cases h0
  ·exact h2
 exact⟨h1,fun k hk=>(af h0).trans (h.2 k hk)⟩
theorem Tm{a:Act}{W0 w:World}{R:Exit→Act→World→Prop}{n k m b p1 n1 c1 p2 n2 c2 p8 p9:Nat}{s t:Bool}{vl vf vu:Value}{A1 A2:List Nat}{u1 u2:Value}{L:List (Value×List Nat)}{Fs Us:List Value}(hz:a.tmps.size=353)(hd:a.defers=[])(h2:a.tmps.getD 2 undef= .int .i64 (n:Int))(hn:n≤127)(h7:a.tmps.getD 7 undef= .pointer (some ⟨b,0,none⟩))(h8:a.tmps.getD 8 undef= .pointer (some ⟨p8,0,none⟩))(h9:a.tmps.getD 9 undef= .pointer (some ⟨p9,0,none⟩))(h10:a.tmps.getD 10 undef= .int .i64 (k:Int))(hT:Tb w)(TB:gu w p8 s (.slice (some ⟨p1,0,none⟩) n1 c1))(WI:gu w p9 t (.slice (some ⟨p2,0,none⟩) n2 c2))(f0:Sf w b vl vf vu p1 p2 0)(f8:Sf w b vl vf vu p1 p2 p8)(f9:Sf w b vl vf vu p1 p2 p9)
 (J:NJ W0 w b p1 n1 c1 p2 n2 c2 m vl vf vu A1 A2 u1 u2 L Fs Us) (hu:k=0→m=0∧aO w (fun q=>q<w.heap.size) u1 (.l 1 (W (A1++List.replicate 5 0)))∧aO w (fun q=>q<w.heap.size) u2 (.l 1 (W (A2++List.replicate 5 0)))) (hm:m≤400) (b1:n1≤10000000) (b2:n2≤10000000)
 (kk:∀(a':Act) (w':World) (lI lJ lK:Value) (XK XL:List Nat) (L':List (Value×List Nat)) (Fs' Us':List Value),a'.tmps.size=353→a'.defers=[]→(∀t,t∈[2,7,8,9,10]→a'.tmps.getD t undef=a.tmps.getD t undef)→NJ W0 w' b p1 n1 c1 p2 n2 c2 (m+20) lI lJ lK XK XL u1 u2 L' Fs' Us'→Tb w'→gu w' p8 s (.slice (some ⟨p1,0,none⟩) n1 c1)→gu w' p9 t (.slice (some ⟨p2,0,none⟩) n2 c2)→Sf w' b lI lJ lK p1 p2 0→Sf w' b lI lJ lK p1 p2 p8→Sf w' b lI lJ lK p1 p2 p9→R .normal a' w'):(uh Tryz.f3).wp Tryz.prog R a w:=by
 have hl1:=J.l1
 have hl2:=J.l2
 have lt1:p1<w.heap.size:=(J.r1.lt p1 rfl).2
 have lt2:p2<w.heap.size:=(J.r2.lt p2 rfl).2
 have blt:=J.bn.lt
 refine SV (n:=n) (f:=fun t=>a.tmps.getD t undef) hz (fun t _ _=>rfl) h2 h8 h9 hT TB WI J.r1 J.r2 J.l1 J.l2 J.xq J.wd2 b1 b2 hn fun a1 w1 us V z1 d1 f1 B1 hA=>?_
 have s1:=B1.size
 obtain⟨X,hX⟩:∃X,X=zv s A1:=⟨_,rfl⟩
 obtain⟨Y,hY⟩:∃Y,Y=zv t A2:=⟨_,rfl⟩
 obtain⟨M,hM⟩:∃M,M=n1+n2+(n1+n2)+2:=⟨_,rfl⟩
 have hbd:Bd M n X Y:=by
  have h1:X.natAbs<B^(n1+n2):=by rw[hX,mY];exact Nat.lt_of_lt_of_le (b_ J.xq) (Nat.pow_le_pow_right dc om)
  have h2:Y.natAbs<B^(n1+n2):=by rw[hY,mY];exact Nat.lt_of_lt_of_le (b_ J.wd2) (Nat.pow_le_pow_right dc om)
  rw[hM];exact Bd.mk' h1 h2 hn
 have hMl:M≤100000000:=om
 clear hM
 have o1:∀t,t∈[2,7,8,9,10]→a1.tmps.getD t undef=a.tmps.getD t undef:=fun t ht=>by
  have:∀t,t∈[2,7,8,9,10]→0<t∧t<11:=dc;obtain⟨q1,q2⟩:=this t ht;exact(f1 t q1 om).trans (hA.old t q1 q2)
 have mid:∀(a2:Act) (w2:World),a2.tmps.size=353→(∀t,t<35→a2.tmps.getD t undef=a1.tmps.getD t undef)→a2.defers=[]→Below w1.heap.size w1 w2→(qd 11 (uh Tryz.f3)).wp Tryz.prog R a2 w2:=fun a2 w2 z2 t2 d2 B2=>by
  have Wy:=ah B1 B2;have s2:=B2.size;have o2:∀t,t∈[2,7,8,9,10]→a2.tmps.getD t undef=a.tmps.getD t undef:=fun t ht=>by
   have:∀t,t∈[2,7,8,9,10]→t<35:=dc;exact(t2 t (this t ht)).trans (o1 t ht)
  have g2:∀t,0<t→t<34→a2.tmps.getD t undef=us t:=fun t h0 ht=>(t2 t om).trans (f1 t h0 ht)
  obtain⟨v11,⟨q11,e11,lq11,x11⟩,i11⟩:=hA.was;obtain⟨v12,⟨q12,e12,lq12,x12⟩,i12⟩:=hA.Dj;rw[←hX]at i11 x11;rw[←hY]at i12 x12;obtain⟨H,hH⟩:∃H:Nat→Prop,H=fun q=>(q=p1∨q=p2)∨(w.heap.size≤q∧q<w2.heap.size):=⟨_,rfl⟩
  have u_:∀q,H q→q<w2.heap.size:=fun q hq=>by
   rw[hH]at hq;rcases hq with (rfl|rfl)|h
   ·omega
   ·omega
   ·exact h.2
  have i11:=i11.up B2;have i12:=i12.up B2;have r11:∀w',Below w2.heap.size w2 w'→jI w2 H (decide (X<0)) (dg B X.natAbs) (.agg #[.bool (decide (X<0)),v11]) w':=fun w' hb=>jI.up ⟨u_,Nat.le_refl _,by
   obtain⟨x,e,r⟩:=i11.2.2;exact⟨x,e,r.mono (fun q hq=> .inl (by rw[hH];exact hq)) fun _ _=>rfl⟩⟩ hb
  have r12:∀w',Below w2.heap.size w2 w'→jI w2 H (decide (Y<0)) (dg B Y.natAbs) (.agg #[.bool (decide (Y<0)),v12]) w':=fun w' hb=>jI.up ⟨u_,Nat.le_refl _,by
   obtain⟨x,e,r⟩:=i12.2.2;exact⟨x,e,r.mono (fun q hq=> .inl (by rw[hH];exact hq)) fun _ _=>rfl⟩⟩ hb
  have x11w:=x11;have x12w:=x12;have x11:=x11.up B2;have x12:=x12.up B2;obtain⟨_,_,_,ev11⟩:=i11.shape;obtain⟨_,_,_,ev12⟩:=i12.shape;simp only[Value.agg.injEq,Array.mk.injEq,List.cons.injEq,true_and,and_true]at ev11 ev12;rw[ev11]at x11 r11 x11w;rw[ev12]at x12 r12 x12w;refine wp_seq ?_;refine za21 (H:=H) (z0:=X+Y) (z1:=X-Y) (z2:=X*Y) (z3:= -X) z2 ((g2 11 dc dc).trans e11) ((g2 12 dc dc).trans e12) (aS x11) (aS x12) (cell_of_row _ _ 0 _ _ _ x11) (cell_of_row _ _ 1 _ _ _ x11) (cell_of_row _ _ 0 _ _ _ x12) (cell_of_row _ _ 1 _ _ _ x12)
   (fun w3 hb=>uk (vs:=[_,_]) (Rt hbd.x hbd.y om) u_ hb.size (LZ (r11 w3 hb).2.2.rep (r12 w3 hb).2.2.rep))
   (fun w3 hb=>uk (vs:=[_,_]) (Ib hbd.x hbd.y om) u_ hb.size (LZ (r11 w3 hb).2.2.rep (r12 w3 hb).2.2.rep))
   (fun w3 hb=>uk (vs:=[_,_]) (rzmulN hbd.x hbd.y om) u_ hb.size (LZ (r11 w3 hb).2.2.rep (r12 w3 hb).2.2.rep))
   (fun w3 hb=>by
     have h:=zT (decide (X<0)) (dg B X.natAbs) (bF _) (by have:=dS hbd.x;omega);rw[kW]at h;exact uk (vs:=[_]) h u_ hb.size (z_ (r11 w3 hb).2.2.rep))
   fun a3 w3 g2' y0 y1 y2 y3 z3 t3 k34 d3 B3 lg2 hg2 j0 j1 j2 j3=>?_
  have TA:=ah Wy B3;have s3:=B3.size;have C3:=hA.cl.below (ah B2 B3);obtain⟨g1,e13,lg1,hg1⟩:=hA.l13;rw[←hX,←hY]at hg1;have lg1':=aS hg1;have hg1':=((ah B2 B3).block _ lg1').trans hg1;have g3:∀t,0<t→t<34→a3.tmps.getD t undef=us t:=fun t h0 ht=>(t3 t ht).trans (g2 t h0 ht)
  have o3:∀t,t∈[2,7,8,9,10]→a3.tmps.getD t undef=a.tmps.getD t undef:=fun t ht=>by
   have:∀t,t∈[2,7,8,9,10]→t<34:=dc;exact(t3 t (this t ht)).trans (o2 t ht)
  have Dl:∀{u:Value} {A:List Nat},(u,A)∈fC n s t A1 A2 V→Own w A u w3:=fun h=>C3.own _ h
  have sl:∀{v:Value},(∃a n c,v=Value.slice a n c)→v.oneCell'=true:=fun h=>by obtain⟨a,n,c,rfl⟩:=h;rfl
  have sl0:∀{v:Value},(∃a c,v=Value.slice a 0 c)→v.oneCell'=true:=fun h=>by obtain⟨a,c,rfl⟩:=h;rfl
  have XX:∀v,v∈L.map (fun p=>p.1)→∃a n c,v=Value.slice a n c∧n≤1000000000000:=fun v hv=>by
   obtain⟨p,hp,rfl⟩:=List.mem_map.1 hv;obtain⟨x,hx,ho⟩:=J.own p hp;obtain⟨a,c,e⟩:=aB ho;exact⟨a,x,c,e,om⟩
  have cl:∀v,v∈(Value.slice (some ⟨p1,0,none⟩) n1 c1::Value.slice (some ⟨p2,0,none⟩) n2 c2::L.map fun p=>p.1)→v.oneCell'=true:=fun v hv=>by
   rcases List.mem_cons.1 hv with rfl|hv
   ·rfl
   rcases List.mem_cons.1 hv with rfl|hv
   ·rfl
   obtain⟨a,n,c,rfl,_⟩:=XX v hv;rfl
  have cf:∀v,v∈(Value.slice (some ⟨p1,0,none⟩) (n1+5) c1::Value.slice (some ⟨p2,0,none⟩) (n2+5) c2::Fs)→v.oneCell'=true:=fun v hv=>by
   rcases List.mem_cons.1 hv with rfl|hv
   ·rfl
   rcases List.mem_cons.1 hv with rfl|hv
   ·rfl
   exact sl0 (J.fF v hv)
  have cu:∀v,v∈(u1::u2::Us)→v.oneCell'=true:=fun v hv=>by
   rcases List.mem_cons.1 hv with rfl|hv
   ·exact sl J.f1
   rcases List.mem_cons.1 hv with rfl|hv
   ·exact sl J.f2
   exact sl0 (J.fU v hv)
  have nb1:¬Bq b vl vf vu p1:=fun h=>(J.hq p1 h).2.1 rfl
  have nb2:¬Bq b vl vf vu p2:=fun h=>(J.hq p2 h).2.2 rfl
  have rr:∀{sg:Bool} {A:List Nat} {u:Value},jI w2 H sg A (.agg #[.bool sg,u]) w3→aO w3 (fun q=>(q=p1∨q=p2)∨(w.heap.size≤q∧q<w3.heap.size)) u (.l 1 (W A)):=fun h=>by
   obtain⟨x,e,r⟩:=h.2.2;cases e;exact r.mono (fun q hq=>by
    rw[hH]at hq;rcases hq with (h|h)|h
    ·exact .inl h
    ·exact .inr ⟨h.1,om⟩
    ·exact .inr ⟨om,h.2⟩) fun _ _=>rfl
  have rX:=rr (r11 w3 B3);refine WO (m:=m+2) (us:=[V 0,V 1,V 2,V 3,V 4,V 5,V 6]) (zs:=z7 X Y) (M:=M) (G:=fun q=>(q=p1∨q=p2)∨(w.heap.size≤q∧q<w3.heap.size)) om z3 ((o3 7 dc).trans h7) ((g3 13 dc dc).trans e13) k34 J.bn TA (by simp[J.lL]) (by simp[J.lF]) (by simp[J.lU]) cl cf cu om rfl rfl ⟨lg1,om⟩ ⟨om,aS hg2⟩ (fun q hq=>?_) (fun i u z hi hzz=>?_) fun a4 w4 vl4 vf4 vu4 Fs4 Us4 z4 t4 d4 O4=>?_
  ·rcases hq with (rfl|rfl)|h
   ·exact⟨om,nb1⟩
   ·exact⟨om,nb2⟩
   ·exact⟨h.2,fun hB=>by have:=blt q hB;omega⟩
  ·match i,hi,hzz with
   |0,hi,hzz=>cases hi;cases hzz;exact⟨cell_of_row _ _ 0 _ _ _ hg1',cell_of_row _ _ 1 _ _ _ hg1',Dl (by rw[hX,hY];simp[fC]),hbd.s,_,cell_of_row _ _ 0 _ _ _ hg2,cell_of_row _ _ 1 _ _ _ hg2,rr j0⟩
   |1,hi,hzz=>cases hi;cases hzz;exact⟨cell_of_row _ _ 2 _ _ _ hg1',cell_of_row _ _ 3 _ _ _ hg1',Dl (by rw[hX,hY];simp[fC]),hbd.d,_,cell_of_row _ _ 2 _ _ _ hg2,cell_of_row _ _ 3 _ _ _ hg2,rr j1⟩
   |2,hi,hzz=>cases hi;cases hzz;exact⟨cell_of_row _ _ 4 _ _ _ hg1',cell_of_row _ _ 5 _ _ _ hg1',Dl (by rw[hX,hY];simp[fC]),hbd.p,_,cell_of_row _ _ 4 _ _ _ hg2,cell_of_row _ _ 5 _ _ _ hg2,rr j2⟩
   |3,hi,hzz=>cases hi;cases hzz;exact⟨cell_of_row _ _ 6 _ _ _ hg1',cell_of_row _ _ 7 _ _ _ hg1',Dl (by rw[hX];simp[fC]),by rw[Int.natAbs_neg];exact hbd.x,_,cell_of_row _ _ 6 _ _ _ hg2,cell_of_row _ _ 7 _ _ _ hg2,rr j3⟩
   |4,hi,hzz=>cases hi;cases hzz;exact⟨cell_of_row _ _ 8 _ _ _ hg1',cell_of_row _ _ 9 _ _ _ hg1',Dl (by rw[hX];simp[fC]),hbd.x,_,cell_of_row _ _ 8 _ _ _ hg2,cell_of_row _ _ 9 _ _ _ hg2,rX⟩
   |5,hi,hzz=>cases hi;cases hzz;exact⟨cell_of_row _ _ 10 _ _ _ hg1',cell_of_row _ _ 11 _ _ _ hg1',Dl (by rw[hX];simp[fC]),hbd.x,_,cell_of_row _ _ 10 _ _ _ hg2,cell_of_row _ _ 11 _ _ _ hg2,rX⟩
   |6,hi,hzz=>cases hi;cases hzz;exact⟨cell_of_row _ _ 12 _ _ _ hg1',cell_of_row _ _ 13 _ _ _ hg1',Dl (by rw[hX];simp[fC]),hbd.x,_,cell_of_row _ _ 12 _ _ _ hg2,cell_of_row _ _ 13 _ _ _ hg2,rX⟩
  subst hX hY;have O40:=O4.kp;have s4:=O4.sz;have nB:∀{q:Nat},w.heap.size≤q→¬Bq b vl vf vu q:=fun hk h=>by have:=blt _ h;omega
  have g4:∀t,0<t→t<34→a4.tmps.getD t undef=us t:=fun t h0 ht=>(t4 t ht).trans (g3 t h0 ht)
  have o4:∀t,t∈[2,7,8,9,10]→a4.tmps.getD t undef=a.tmps.getD t undef:=fun t ht=>by
   have:∀t,t∈[2,7,8,9,10]→t<34:=dc;exact(t4 t (this t ht)).trans (o3 t ht)
  have TC:∀{v:Value} {z:Int} {u:Value},SB w w1 v z u→∃q,v= .pointer (some ⟨q,0,none⟩)∧q<w4.heap.size∧gu w4 q (decide (z<0)) u:=fun h=>by
   obtain⟨q,e,lq,hq⟩:=h;have hq3:=hq.up (ah B2 B3);exact⟨q,e,Nat.lt_of_lt_of_le (aS hq3) s4,(O40 q (aS hq3) (nB lq)).trans hq3⟩
  have own4:∀{u:Value} {A:List Nat},(u,A)∈fC n s t A1 A2 V→aO w4 (fun q=>q<w4.heap.size) u (.l 1 (W A)):=fun h=>(O4.own J.bn (Dl h)).rep
  have Tn:∀(j:Nat) {z:Int} {u:Value},0<j→j<34→SB w w1 (us j) z u→aO w4 (fun q=>q<w4.heap.size) u (.l 1 (W (dg B z.natAbs)))→Rep w4 (fun q=>q<w4.heap.size) (fun _=>none) (a4.tmps.getD j undef) (jQ z):=fun j z u h0 hj hs hr=>by
   obtain⟨q,e,lq,hq⟩:=TC hs;rw[g4 j h0 hj,e];exact .base (box_ip hq hr lq)
  have lpr:∀(j:Nat) {A:List Nat},0<j→j<34→us j=V j→(V j,A)∈fC n s t A1 A2 V→Rep w4 (fun q=>q<w4.heap.size) (fun _=>none) (a4.tmps.getD j undef) (.l 1 (W A)):=fun j A h0 hj e h=>by
   rw[g4 j h0 hj,e];exact .base (own4 h)
  have wasr:∀{sg:Bool} {A:List Nat} {u:Value},aO w3 (fun q=>(q=p1∨q=p2)∨(w.heap.size≤q∧q<w3.heap.size)) u (.l 1 (W A))→aO w4 (fun q=>q<w4.heap.size) u (.l 1 (W A)):=fun h=>h.mono (fun q hq=>by
   rcases hq with (rfl|rfl)|h
   ·omega
   ·omega
   ·omega) fun q hq=>by
   rcases hq with (rfl|rfl)|h
   ·exact O40 _ om nb1
   ·exact O40 _ om nb2
   ·exact O40 q h.2 (nB h.1)
  have rY:=rr (r12 w3 B3);refine za_chk z4 (d4.trans (d3.trans d2)) (zwalk rfl rfl hbd hn hMl om om J.xq J.wd2) (fun p hp=>?_) fun a5 w5 z5 t5 d5 B5=>?_
  ·simp only[List.mem_cons,List.not_mem_nil,or_false]at hp;rcases hp with rfl|rfl|rfl|rfl|rfl|rfl|rfl|rfl|rfl|rfl|rfl|rfl|rfl|rfl|rfl|rfl|rfl|rfl
   ·show Rep _ _ _ (a4.tmps.getD 2 undef) _;rw[(o4 2 dc).trans h2];exact .i _ _
   ·exact Tn 11 dc dc ⟨q11,e11,lq11,x11w⟩ (wasr (sg:=true) rX)
   ·exact Tn 12 dc dc ⟨q12,e12,lq12,x12w⟩ (wasr (sg:=true) rY)
   ·exact Tn 14 dc dc hA.s14 (own4 (by simp[fC]))
   ·exact lpr 15 dc dc hA.s15 (by simp[fC])
   ·show Rep _ _ _ (a4.tmps.getD 16 undef) _;rw[g4 16 dc dc,hA.s16];exact .i _ _
   ·exact Tn 17 dc dc hA.s17 (own4 (by simp[fC]))
   ·exact Tn 18 dc dc hA.s18 (own4 (by simp[fC]))
   ·show Rep _ _ _ (a4.tmps.getD 19 undef) _;rw[g4 19 dc dc,hA.s19];exact .i _ _
   ·exact Tn 20 dc dc hA.s20 (own4 (by simp[fC]))
   ·exact Tn 22 dc dc hA.s22 (own4 (by simp[fC]))
   ·exact Tn 24 dc dc hA.s24 (own4 (by simp[fC]))
   ·exact Tn 26 dc dc hA.s26 (own4 (by simp[fC]))
   ·exact Tn 28 dc dc hA.s28 (own4 (by simp[fC]))
   ·exact lpr 30 dc dc hA.s30 (by simp[fC])
   ·exact Tn 31 dc dc hA.s31 (own4 (by simp[fC]))
   ·exact lpr 32 dc dc hA.s32 (by simp[fC])
   ·exact lpr 33 dc dc hA.s33 (by simp[fC])
  have O5:=O4.below B5;have sh:∀(j:Nat) {A:List Nat},(V j,A)∈fC n s t A1 A2 V→∃a n c,V j=Value.slice a n c:=fun j A h=>by
   obtain⟨a,c,e⟩:=(Dl h).shape;exact⟨a,_,c,e⟩
  have o5:∀t,t∈[2,7,8,9,10]→a5.tmps.getD t undef=a.tmps.getD t undef:=fun t ht=>by
   have:∀t,t∈[2,7,8,9,10]→t∈kpZ:=dc;exact(t5 t (this t ht)).trans (o4 t ht)
  have g5:∀t,t∈[14,15,17,18,20,22,24,26,28,30,31,32,33]→a5.tmps.getD t undef=us t:=fun t ht=>by
   have:∀t,t∈[14,15,17,18,20,22,24,26,28,30,31,32,33]→t∈kpZ∧0<t∧t<34:=dc;obtain⟨k1,k2,k3⟩:=this t ht;exact(t5 t k1).trans (g4 t k2 k3)
  obtain⟨a14,n14,m14,v14⟩:=sh 14 (A:=dg B ((zv s A1).ediv (zv t A2)).natAbs) (by simp[fC]);obtain⟨a15,n15,m15,v15⟩:=sh 15 (A:=dg B (FC (zv s A1) (zv t A2))) (by simp[fC]);obtain⟨a17,n17,m17,v17⟩:=sh 17 (A:=dg B (zq (zv s A1) (zv t A2)).natAbs) (by simp[fC]);obtain⟨a18,n18,m18,v18⟩:=sh 18 (A:=dg B (zr (zv s A1) (zv t A2)).natAbs) (by simp[fC]);obtain⟨a20,n20,m20,v20⟩:=sh 20 (A:=dg B ((zv s A1).fdiv (zv t A2)).natAbs) (by simp[fC]);obtain⟨a22,n22,m22,v22⟩:=sh 22 (A:=dg B (zv s A1).natAbs) (by simp[fC]);obtain⟨a24,n24,m24,v24⟩:=sh 24 (A:=dg B (zv s A1*2^n).natAbs) (by simp[fC]);obtain⟨a26,n26,m26,v26⟩:=sh 26 (A:=dg B ((zv s A1).fdiv (2^n)).natAbs) (by simp[fC]);obtain⟨a28,n28,m28,v28⟩:=sh 28 (A:=dg B (zv s A1).natAbs) (by simp[fC]);obtain⟨a30,n30,m30,v30⟩:=sh 30 (A:=dg B (nv B A1)) (by simp[fC]);obtain⟨a31,n31,m31,v31⟩:=sh 31 (A:=dg B (zv true A1).natAbs) (by simp[fC]);obtain⟨a32,n32,m32,v32⟩:=sh 32 (A:=dg B (gf [(s,A1),(t,A2)])) (by simp[fC]);obtain⟨a33,n33,m33,v33⟩:=sh 33 (A:=dg B (gf [(s,A1)])) (by simp[fC]);obtain⟨q14,e14,_,y14⟩:=TC hA.s14;have y14:=cell_of_row _ _ 1 _ _ _ (y14.up B5);rw[v14]at y14;obtain⟨q17,e17,_,y17⟩:=TC hA.s17;have y17:=cell_of_row _ _ 1 _ _ _ (y17.up B5);rw[v17]at y17;obtain⟨q18,e18,_,y18⟩:=TC hA.s18;have y18:=cell_of_row _ _ 1 _ _ _ (y18.up B5);rw[v18]at y18;obtain⟨q20,e20,_,y20⟩:=TC hA.s20;have y20:=cell_of_row _ _ 1 _ _ _ (y20.up B5);rw[v20]at y20;obtain⟨q22,e22,_,y22⟩:=TC hA.s22;have y22:=cell_of_row _ _ 1 _ _ _ (y22.up B5);rw[v22]at y22;obtain⟨q24,e24,_,y24⟩:=TC hA.s24;have y24:=cell_of_row _ _ 1 _ _ _ (y24.up B5);rw[v24]at y24;obtain⟨q26,e26,_,y26⟩:=TC hA.s26;have y26:=cell_of_row _ _ 1 _ _ _ (y26.up B5);rw[v26]at y26;obtain⟨q28,e28,_,y28⟩:=TC hA.s28;have y28:=cell_of_row _ _ 1 _ _ _ (y28.up B5);rw[v28]at y28;obtain⟨q31,e31,_,y31⟩:=TC hA.s31;have y31:=cell_of_row _ _ 1 _ _ _ (y31.up B5);rw[v31]at y31;have hcall:=Fj O5 (m:=m+2) (by simp[J.lL]) (by simp[J.lF]) (by simp[J.lU]) cl cf cu (by show m+2+7≤900;omega) (fun v hv=>?_) [.slice a14 n14 m14,.slice a15 n15 m15,.slice a17 n17 m17,.slice a18 n18 m18,.slice a20 n20 m20,.slice a22 n22 m22,.slice a24 n24 m24,.slice a26 n26 m26,.slice a28 n28 m28,.slice a30 n30 m30,.slice a31 n31 m31,.slice a32 n32 m32,.slice a33 n33 m33] (fun v hv=>?_) (k:=13) rfl dc;rotate_left
  ·simp only[List.mem_cons,List.not_mem_nil,or_false]at hv;rcases hv with rfl|rfl|rfl|rfl|rfl|rfl|rfl
   ·exact sh 0 (A:=dg B (zv s A1+zv t A2).natAbs) (by simp[fC])
   ·exact sh 1 (A:=dg B (zv s A1-zv t A2).natAbs) (by simp[fC])
   ·exact sh 2 (A:=dg B (zv s A1*zv t A2).natAbs) (by simp[fC])
   ·exact sh 3 (A:=dg B (-zv s A1).natAbs) (by simp[fC])
   ·exact sh 4 (A:=dg B (zv s A1).natAbs) (by simp[fC])
   ·exact sh 5 (A:=dg B (zv s A1).natAbs) (by simp[fC])
   ·exact sh 6 (A:=dg B (zv s A1).natAbs) (by simp[fC])
  ·simp only[List.mem_cons,List.not_mem_nil,or_false]at hv;rcases hv with rfl|rfl|rfl|rfl|rfl|rfl|rfl|rfl|rfl|rfl|rfl|rfl|rfl<;>exact⟨_,_,_,rfl⟩
  refine wp_seq ?_;refine za35 (Qf:=fun w6=>∃Tc Td Tf WM WN,OO w w3 b vl vf vu _ _ _ ([V 0,V 1,V 2,V 3,V 4,V 5,V 6]++[.slice a14 n14 m14,.slice a15 n15 m15,.slice a17 n17 m17,.slice a18 n18 m18,.slice a20 n20 m20,.slice a22 n22 m22,.slice a24 n24 m24,.slice a26 n26 m26,.slice a28 n28 m28,.slice a30 n30 m30,.slice a31 n31 m31,.slice a32 n32 m32,.slice a33 n33 m33]) w6 Tc Td Tf WM WN) z5 ((o5 7 dc).trans h7) ((g5 14 dc).trans e14) ((g5 15 dc).trans (hA.s15.trans v15)) ((g5 17 dc).trans e17) ((g5 18 dc).trans e18) ((g5 20 dc).trans e20) ((g5 22 dc).trans e22) ((g5 24 dc).trans e24) ((g5 26 dc).trans e26) ((g5 28 dc).trans e28) ((g5 30 dc).trans (hA.s30.trans v30)) ((g5 31 dc).trans e31) ((g5 32 dc).trans (hA.s32.trans v32)) ((g5 33 dc).trans (hA.s33.trans v33)) y14 y17 y18 y20 y22 y24 y26 y28 y31 hcall fun a6 w6 z6 t6 d6 hQ=>?_
  obtain⟨vl6,vf6,vu6,Fs6,Us6,O6⟩:=hQ;rw[show[V 0,V 1,V 2,V 3,V 4,V 5,V 6]++[.slice a14 n14 m14,.slice a15 n15 m15,.slice a17 n17 m17,.slice a18 n18 m18,.slice a20 n20 m20,.slice a22 n22 m22,.slice a24 n24 m24,.slice a26 n26 m26,.slice a28 n28 m28,.slice a30 n30 m30,.slice a31 n31 m31,.slice a32 n32 m32,.slice a33 n33 m33]=(fC n s t A1 A2 V).map (fun p=>p.1)from by rw[←v14,←v15,←v17,←v18,←v20,←v22,←v24,←v26,←v28,←v30,←v31,←v32,←v33];rfl]at O6;have o6:∀t,t∈[2,7,8,9,10]→a6.tmps.getD t undef=a.tmps.getD t undef:=fun t ht=>by
   have:∀t,t∈[2,7,8,9,10]→t<11:=dc;exact(t6 t (this t ht)).trans (o5 t ht)
  have s6:=O6.sz;have N1:kF w6 p1 n1 c1:=(J.XJ.1).keep (O6.o.bel.block p1 lt1 nb1);have N2:kF w6 p2 n2 c2:=(J.XJ.2).keep (O6.o.bel.block p2 lt2 nb2);have C6:Cl w w6 (fC n s t A1 A2 V):=C3.keep fun p q hp hq=>O6.kp q (C3.lt hp hq).2 (nB (C3.lt hp hq).1)
  have ne6:∀(p:Value×List Nat) (q:Nat),p∈fC n s t A1 A2 V→p.1.ownBlock=some q→¬Bq b vl6 vf6 vu6 q:=fun p q hp hq hB=>by
   have h:=C3.lt hp hq;rcases O6.q q hB with h1|h1
   ·exact nB h.1 h1
   ·omega
  have hM:=Tj (V:=V) hbd om;have hq6:∀q,Bq b vl6 vf6 vu6 q→Bq b vl vf vu q∨w.heap.size≤q:=fun q h=>(O6.q q h).imp id fun h=>om
  have e6:∀q,Sf w b vl vf vu p1 p2 q→w6.heap[q]? =w.heap[q]? :=fun q hq=>(O6.kp q (by have:=hq.1;omega) hq.2.1).trans (TA.block q hq.1)
  have nq:∀q,Bq b vl6 vf6 vu6 q→q≠p1∧q≠p2:=fun q h=>by
   rcases hq6 q h with h|h
   ·exact(J.hq q h).2
   ·exact⟨om,om⟩
  have fin:∀(a7:Act) (w7:World),a7.tmps.size=353→a7.defers=[]→(∀t,t<11→a7.tmps.getD t undef=a6.tmps.getD t undef)→aY w6 (fun x=>x=p1∨x=p2) w7→kF w7 p1 n1 c1→kF w7 p2 n2 c2→R .normal a7 w7:=fun a7 w7 z7 d7 t7 hb R1 R2=>by
   obtain⟨XK,XL,J'⟩:=J.next O6.o hq6 C6 hM ne6 (d:=20) rfl hb R1 R2
   have s7:=hb.size;have e7:∀q,Sf w b vl vf vu p1 p2 q→w7.heap[q]? =w.heap[q]? :=fun q hq=>(hb.block q (by have:=hq.1;omega) (fun e=>e.elim hq.2.2.1 hq.2.2.2)).trans (e6 q hq)
   have f7:∀q,Sf w b vl vf vu p1 p2 q→Sf w7 b vl6 vf6 vu6 p1 p2 q:=fun q hq=>⟨by have:=hq.1;omega,fun h=>by
    rcases O6.q q h with h1|h1
    ·exact hq.2.1 h1
    ·have:=hq.1;omega,hq.2.2⟩
   exact kk a7 w7 _ _ _ _ _ _ _ _ z7 d7 (fun t ht=>by
    have:∀t,t∈[2,7,8,9,10]→t<11:=dc;exact(t7 t (this t ht)).trans (o6 t ht)) J' (hT.eq (e7 0 f0)) ((e7 p8 f8).trans TB) ((e7 p9 f9).trans WI) (f7 0 f0) (f7 p8 f8) (f7 p9 f9)
  have dd:=d6.trans d5;refine wp_seq ?_;by_cases hk:k=0
  ·refine za36t z6 ((o6 10 dc).trans h10) hk fun a7 z7 t7 h348 d7=>?_
   refine wp_cond_true (by rw[az,h348]) ?_;have hsc:=CY (b:=b) (Ls:=L.map (fun p=>p.1)++(fC n s t A1 A2 V).map fun p=>p.1) (Fs:=Fs++Fs6) O6.o.bn (by simp only[List.length_append,List.length_map,J.lL,J.lF,O6.o.lf]) (by simp only[List.length_append,List.length_map,J.lL];show m+20≤1000;omega) (fun v hv=>?_) (fun v hv=>(List.mem_append.1 hv).elim (J.fF v) (O6.o.ff v)) N1 N2 om om J.hp.2.2 (fun h=>(nq p1 h).1 rfl) (fun h=>(nq p2 h).2 rfl)
   ·refine za37 (Qf:=fun w7=>aY w6 (fun x=>x=p1∨x=p2) w7∧kF w7 p1 n1 c1∧kF w7 p2 n2 c2) z7 ((t7 7 dc).trans ((o6 7 dc).trans h7)) hsc fun a8 w8 z8 t8 d8 hQ=>?_
    exact fin a8 w8 z8 (d8.trans (d7.trans dd)) (fun t ht=>(t8 t ht).trans (t7 t ht)) hQ.1 hQ.2.1 hQ.2.2
   ·rcases List.mem_append.1 hv with hv|hv
    ·exact XX v hv
    ·obtain⟨p,hp,rfl⟩:=List.mem_map.1 hv;obtain⟨x,_,ho⟩:=C6.own p hp;obtain⟨a,c,e⟩:=aB ho;have hl:=ho.1;simp only[Wv,List.length_map]at hl;have:=hM p hp;exact⟨a,x,c,e,om⟩
  ·refine za36f z6 ((o6 10 dc).trans h10) hk fun a7 z7 t7 h348 d7=>?_
   refine wp_cond_false (by rw[az,h348]) ?_;refine wp_skip ?_;exact fin a7 w6 z7 (d7.trans dd) t7 (aY.refl _ _) N1 N2
 refine wp_seq ?_
 refine wp_seq ?_
 have B0:=aJ w1
 by_cases hk:k=0
 ·obtain⟨hm0,v1,v2⟩:=hu hk;have eF:Fs=[]:=List.eq_nil_of_length_eq_zero (by rw[J.lF,hm0]);have eU:Us=[]:=List.eq_nil_of_length_eq_zero (by rw[J.lU,hm0]);have hbn:=J.bn.below B1;rw[eF,eU]at hbn;have q1:=bg J.r1 fun q hq=>B1.block q (J.r1.lt q hq).2
  have q2:=bg J.r2 fun q hq=>B1.block q (J.r2.lt q hq).2
  have q3:=v1.mono (w':=w1) (H':=fun q=>q<w1.heap.size) (fun q h=>om) fun q h=>B1.block q h
  have q4:=v2.mono (w':=w1) (H':=fun q=>q<w1.heap.size) (fun q h=>om) fun q h=>B1.block q h
  have hip:aO w1 (fun q=>q<w1.heap.size) (.pointer (some ⟨b,0,none⟩)) (.ip [.any,.l 1 (LA [A1++List.replicate 5 0,A2++List.replicate 5 0]),.l 1 (LA [A1++List.replicate 5 0,A2++List.replicate 5 0])] 0):=by
   refine hbn.ip (fun q hq=>hbn.lt q hq) rfl rfl (by show 2≤_;decide) (fun j x A hj hA=>?_) (fun j x A hj hA=>?_)
   ·match j,hj,hA with
    |0,hj,hA=>cases hj;cases hA;exact pU q1 (by unfold maxLen;omega)
    |1,hj,hA=>cases hj;cases hA;exact pU q2 (by unfold maxLen;omega)
   ·match j,hj,hA with
    |0,hj,hA=>cases hj;cases hA;exact q3
    |1,hj,hA=>cases hj;cases hA;exact q4
  have hun:=SX (vs:=[.pointer (some ⟨b,0,none⟩)]) (zD [A1++List.replicate 5 0,A2++List.replicate 5 0] .any (by show 2≤_;decide) (fun x hx=>by
   simp only[List.mem_cons,List.not_mem_nil,or_false]at hx;rcases hx with rfl|rfl<;>(rw[List.length_append,List.length_replicate];omega))) (fun q h=>h) (z_ hip)
  refine za19t z1 ((o1 7 dc).trans h7) ((o1 10 dc).trans (by rw[h10,hk];rfl)) hun fun a2 w2 z2 t2 h157 d2 B2=>?_
  refine wp_cond_false (by rw[az,h157]) ?_;refine wp_skip ?_;exact mid a2 w2 z2 t2 (d2.trans (d1.trans hd)) B2
 ·refine za19f z1 ((o1 10 dc).trans h10) hk fun a2 z2 t2 h157 d2=>?_
  refine wp_cond_false (by rw[az,h157]) ?_;refine wp_skip ?_;exact mid a2 w1 z2 t2 (d2.trans (d1.trans hd)) B0
end
section
open Go Go.RowKit Go.Proofs Ab
abbrev Dv:Value:= .slice none 0 0
theorem InR.below{w w1 w2:World}{b:Nat}{vl vf vu:Value}{Lv Fv Uv:List Value}{a:List Nat}{e:Ending}(h:InR w b vl vf vu Lv Fv Uv a e w1)(hB:Below w1.heap.size w1 w2):InR w b vl vf vu Lv Fv Uv a e w2:=by
 obtain⟨g,cap,lI,lJ,lK,u,Hu,e,hg,bel,own,bn,ru,hu,hq,ng⟩:=h;have hs:=hB.size;exact⟨g,cap,lI,lJ,lK,u,Hu,e,hg,bel.after hB,bg own fun q hq=>hB.block q (own.lt q hq).2,bn.below hB,ru.mono (fun _ h=>h) fun q hq=>hB.block q (hu q hq).1,fun q hq=>⟨by have:=(hu q hq).1;omega,(hu q hq).2⟩,hq,ng⟩
theorem Bn.nb{w:World}{b:Nat}{vl vf vu:Value}{Lv Fv Uv:List Value}(h:Bn w b vl vf vu Lv Fv Uv){q:Nat}(hq:Ai w q):¬Bq b vl vf vu q:=fun hB=>by
 obtain⟨s,a,n,c,hg⟩:=hq;have row:∀{v:Value} {xs:List Value} {n:Nat},w.ownsRow 0 22 1 v n xs→v.ownBlock=some q→False:=fun ho hv=>by
  rcases ho.2 with ⟨rfl,_⟩|⟨g,cap,cur,rfl,_,h2,_⟩
  ·cases hv
  ·cases hv;rw[hg]at h2;cases h2
 rcases hB with rfl|hB|hB|hB
 ·obtain⟨cap,ho⟩:=h.box;rcases ho.2 with ⟨h1,_⟩|⟨g,cap,cur,h1,_,h2,_⟩
  ·cases h1
  ·cases h1;rw[hg]at h2;cases h2
 ·exact row h.rl hB
 ·exact row h.rf hB
 ·exact row h.ru hB
theorem Dn{w:World}{B n q:Nat}{v:Value}{xs:List Value}(ho:w.ownsRow B 54 1 v n xs)(hq:Ai w q):v.ownBlock≠some q:=fun hv=>by
 obtain⟨s,a,k,c,hg⟩:=hq;rcases ho.2 with ⟨rfl,_⟩|⟨g,cap,cur,rfl,_,h2,_⟩
 ·cases hv
 ·cases hv;rw[hg]at h2;cases h2
theorem NA.keep{w0 w w':World}{a b:List Nat}{g:Nat}{x y:Value}(h:NA w0 a b g x y w)(hB:LB w0 w w'):NA w0 a b g x y w':=by
 obtain⟨p1,c1,p2,c2,vl,vf,vu,u1,u2,rfl,rfl,J,r1,r2⟩:=h;have hs:=hB.1.size;have hs0:=J.bel.size;have kp:∀k,k<w.heap.size→¬Ai w k→w'.heap[k]? =w.heap[k]? :=fun k hk hn=>hB.1.block k hk fun h=>hn h.2
 have kr:∀k,(fun q=>q<w.heap.size) k→w'.heap[k]? =w.heap[k]? ∨Ai w k:=fun k hk=>(Classical.em (Ai w k)).elim .inr fun h=> .inl (kp k hk h)
 refine⟨p1,c1,p2,c2,vl,vf,vu,u1,u2,rfl,rfl,{J with bel:=⟨hB.1.os.trans J.bel.os,hB.1.tape.trans J.bel.tape,hB.1.output.trans J.bel.output,om,fun k hk=>(hB.1.block k om fun h=>om).trans (J.bel.block k hk)⟩,bn:=J.bn.keep fun q hq=>kp q (J.bn.lt q hq) fun h=>J.bn.nb h hq,r1:=bg J.r1 fun q hq=>kp q (J.r1.lt q hq).2 fun h=>Dn J.r1 h hq,r2:=bg J.r2 fun q hq=>kp q (J.r2.lt q hq).2 fun h=>Dn J.r2 h hq,own:=fun p hp=>by simp at hp},?_,?_⟩
 ·exact(aO.bx (w':=w') r1 kr).mono (fun q hq=>om) fun _ _=>rfl
 ·exact(aO.bx (w':=w') r2 kr).mono (fun q hq=>om) fun _ _=>rfl
theorem in2{w W1 w3:World}{g:Nat}{H:Nat→Prop}{vb x:Value}{a b:List Nat}(bA:Below w.heap.size w W1)(hgw:w.heap.size≤g)(hgW:g<W1.heap.size)(hH:∀q,H q→q<w.heap.size)(hvb:aO w H vb (.l 1 (W b)))(la:a.length≤1000000000)(lb:b.length≤1000000000)(wa:Wd a)(wb:Wd b)(h:InR W1 g Dv Dv Dv [] [] [] a (.returned x) w3):
 Calls Tryz.prog 5 #[.pointer (some ⟨g,0,none⟩),vb] w3 (fun e w4=>∃y n c,e= .returned (.slice (some ⟨y,0,none⟩) n c)∧NA w a b g x (.slice (some ⟨y,0,none⟩) n c) w4∧aY w3 (fun q=>q=g∨W1.heap.size≤q) w4∧∀q,Ai w3 q→Ai w4 q):=by
 obtain⟨g1,cap,lI,lJ,lK,u,Hu,e,hg,bel,own,bn,ru,hu,hq,ng⟩:=h
 cases e
 have s1:=bA.size
 have s3:=bel.size
 have bq0:∀q,Bq g Dv Dv Dv q→q=g:=fun q h=>by
  rcases h with h|h|h|h
  ·exact h
  ·cases h
  ·cases h
  ·cases h
 have hq0:∀q,Bq g lI lJ lK q→q=g∨W1.heap.size≤q:=fun q h=>(hq q h).imp (bq0 q) id
 have hq':∀q,Bq g lI lJ lK q→w.heap.size≤q:=fun q h=>by
  rcases hq0 q h with h|h<;>omega
 have b3:∀q,q<w.heap.size→w3.heap[q]? =w.heap[q]? :=fun q h=>(bel.block q om (fun e=>by have:=bq0 q e;omega)).trans (bA.block q h)
 have one:∀(z v:Value),z.oneCell'=true→v∈[z]→v.oneCell'=true:=fun z v hz hv=>by rw[List.mem_singleton.1 hv];exact hz
 obtain⟨ua,un,uc,rfl⟩:=bK ru
 refine(QB (Ha:=H) bn (fun q h=>by have:=hH q h;omega) (fun q hq h=>by have:=hH q h;have:=hq' q hq;omega) (hvb.mono (fun _ h=>h) fun q h=>b3 q (hH q h)) rfl rfl rfl (fun v hv=>one _ v rfl hv) (fun v hv=>one _ v rfl hv) (fun v hv=>one _ v rfl hv) (by show 1≤_;decide) lb).mono ?_
 rintro e w4 ⟨g2,cap2,vl2,vf2,vu2,u2,Hu2,rfl,hg2,bel2,own2,bn2,ru2,hu2,hq2,ng2⟩
 have s4:=bel2.size
 have gl:=(own.lt g1 rfl).2
 have hq4:∀q,Bq g vl2 vf2 vu2 q→w.heap.size≤q∧q≠g1∧q≠g2:=fun q h=>by
  refine⟨?_,fun e=>?_,fun e=>ng2 (e▸h)⟩
  ·rcases hq2 q h with h|h
   ·exact hq' q h
   ·omega
  ·rcases hq2 q h with h|h
   ·exact ng (e▸h)
   ·omega
 refine⟨g2,_,cap2,rfl,⟨g1,cap,g2,cap2,vl2,vf2,vu2,_,u2,rfl,rfl,⟨⟨bel2.os.trans (bel.os.trans bA.os),bel2.tape.trans (bel.tape.trans bA.tape),bel2.output.trans (bel.output.trans bA.output),om,fun q h=>(bel2.block q om (fun e=>by have:=hq' q e;omega)).trans (b3 q h)⟩,bn2,rfl,rfl,rfl,fun v hv=>by simp at hv,fun v hv=>by simp at hv,⟨_,_,_,rfl⟩,bK ru2,dC (bg own fun q hq=>by cases hq;exact bel2.block g1 gl ng) (Nat.zero_le _),dC own2 (Nat.zero_le _),rfl,rfl,wa,wb,hq4,⟨om,om,om⟩,fun p h=>by simp at h,fun i j vi vj q _ h=>by simp at h,fun p q h=>by simp at h⟩,ru.mono (fun q h=>by have:=(hu q h).1;omega) (fun q h=>bel2.block q (hu q h).1 (hu q h).2),ru2.mono (fun q h=>(hu2 q h).1) (fun _ _=>rfl)⟩,⟨bel2.os,bel2.tape,bel2.output,bel2.size,fun k hk hn=>bel2.block k hk fun h=>hn (hq0 k h)⟩,fun q hq=>?_⟩
 obtain⟨s,a,n,c,hx⟩:=hq
 exact⟨s,a,n,c,(bel2.block q (aS hx) (bn.nb ⟨s,a,n,c,hx⟩)).trans hx⟩
structure GI(w0 Wr:World)(b:Nat)(s t:Bool)(A1 A2:List Nat)(l:Array Bool)(a:Act)(w:World):Prop where
 p0:l.getD 5 true=false→Bn w b Dv Dv Dv [] [] []∧Below Wr.heap.size Wr w
 p1:l.getD 5 true=true→l.getD 12 true=false→∃W1,Below Wr.heap.size Wr W1∧InR W1 b Dv Dv Dv [] [] [] A1 (.returned (a.tmps.getD 57 undef)) w
 p2:l.getD 12 true=true→l.getD 5 true=true∧NA w0 A1 A2 b (a.tmps.getD 57 undef) (a.tmps.getD 64 undef) w
 p6:l.getD 6 true=true→l.getD 5 true=true∧a.tmps.getD 58 undef= .agg #[.bool s,a.tmps.getD 57 undef]
 p13:l.getD 13 true=true→l.getD 12 true=true∧a.tmps.getD 65 undef= .agg #[.bool t,a.tmps.getD 64 undef]
 p16:l.getD 16 true=true→l.getD 14 true=true∧l.getD 6 true=true∧l.getD 12 true=true∧∃q,a.tmps.getD 8 undef= .pointer (some ⟨q,0,none⟩)∧gu w q s (a.tmps.getD 57 undef)
def LR(Wr:World)(b:Nat)(w w':World):Prop:=aY w (fun k=>¬(k<Wr.heap.size∧k≠b)) w'∧∀k,Ai w k→Ai w' k
theorem LR.of{Wr w w':World}{b:Nat}(h:Below w.heap.size w w'):LR Wr b w w':=⟨⟨h.os,h.tape,h.output,h.size,fun k hk _=>h.block k hk⟩,fun k ⟨s,a,n,c,h1⟩=>⟨s,a,n,c,(h.block k (aS h1)).trans h1⟩⟩
theorem LR.tr{Wr:World}{b:Nat}(x y z:World)(h1:LR Wr b x y)(h2:LR Wr b y z):LR Wr b x z:=
 ⟨⟨h2.1.os.trans h1.1.os,h2.1.tape.trans h1.1.tape,h2.1.output.trans h1.1.output,Nat.le_trans h1.1.size h2.1.size,fun k hk hn=>(h2.1.block k (Nat.lt_of_lt_of_le hk h1.1.size) hn).trans (h1.1.block k hk hn)⟩,fun k h=>h2.2 k (h1.2 k h)⟩
theorem PB.upR{w0 Wr w w':World}{b:Nat}{v:Value}(h:PB w0 v w)(hb:LR Wr b w w'):PB w0 v w':=by
 obtain⟨q,e,h1,h2⟩:=h;exact⟨q,e,h1,hb.2 q h2⟩
section
variable {w0 Wr:World} {b:Nat} {s t:Bool} {A1 A2:List Nat} {l:Array Bool} {a:Act} {w w':World}
theorem GI.keep{i d:Nat}{v:Value}(h:GI w0 Wr b s t A1 A2 l a w)(hi:i≠5∧i≠6∧i≠12∧i≠13∧i≠16)(hd:d≠57∧d≠58∧d≠64∧d≠65)(h8:d≠8∨l.getD 16 true=false)(hb:Below w.heap.size w w'):GI w0 Wr b s t A1 A2 (l.setIfInBounds i true) (a.put (some d) v) w':=by
 obtain⟨i5,i6,i12,i13,i16⟩:=hi;obtain⟨d57,d58,d64,d65⟩:=hd;have L:∀k,i≠k→(l.setIfInBounds i true).getD k true=l.getD k true:=fun k hk=>by rw[iw,if_neg (fun e=>hk e.1)]
 have up:∀k,l.getD k true=true→(l.setIfInBounds i true).getD k true=true:=fun k hk=>by rw[iw];split<;>first|rfl|exact hk
 have G:∀k,d≠k→(a.put (some d) v).tmps.getD k undef=a.tmps.getD k undef:=fun k hk=>ae hk
 refine⟨fun h5=>?_,fun h5 h12=>?_,fun h12=>?_,fun h6=>?_,fun h13=>?_,fun h16=>?_⟩
 ·rw[L 5 i5]at h5;exact⟨(h.p0 h5).1.below hb,ah (h.p0 h5).2 hb⟩
 ·rw[L 5 i5]at h5;rw[L 12 i12]at h12;obtain⟨W1,q1,q2⟩:=h.p1 h5 h12;rw[G 57 d57];exact⟨W1,q1,q2.below hb⟩
 ·rw[L 12 i12]at h12;rw[G 57 d57,G 64 d64];exact⟨up 5 (h.p2 h12).1,(h.p2 h12).2.keep (LB.of hb)⟩
 ·rw[L 6 i6]at h6;rw[G 57 d57,G 58 d58];exact⟨up 5 (h.p6 h6).1,(h.p6 h6).2⟩
 ·rw[L 13 i13]at h13;rw[G 64 d64,G 65 d65];exact⟨up 12 (h.p13 h13).1,(h.p13 h13).2⟩
 ·rw[L 16 i16]at h16;obtain⟨q1,q2,q3,q,q4,q5⟩:=h.p16 h16;have h8':d≠8:=h8.elim id fun e=>by rw[h16]at e;cases e
  rw[G 8 h8',G 57 d57];exact⟨up 14 q1,up 6 q2,up 12 q3,q,q4,q5.up hb⟩
end
end
section
open Go Go.RowKit Go.Proofs Ab
def za4Φ(Wr:World)(b p3 p4:Nat)(s t:Bool)(xa ya:Option Addr)(xn xc yn yc:Nat):Nat→Value→World→Prop
 |0,v,_=>v= .pointer (some ⟨p3,0,none⟩)
 |1,v,_=>v= .bool s
 |2,v,_=>v= .pointer (some ⟨b,0,none⟩)
 |3,v,_=>v= .pointer (some ⟨p3,1,none⟩)
 |4,v,_=>v= .slice xa xn xc
 |5,_,_=>True
 |6,_,_=>True
 |7,v,_=>v= .pointer (some ⟨p4,0,none⟩)
 |8,v,_=>v= .bool t
 |9,v,_=>v= .pointer (some ⟨b,0,none⟩)
 |10,v,_=>v= .pointer (some ⟨p4,1,none⟩)
 |11,v,_=>v= .slice ya yn yc
 |12,_,_=>True
 |13,_,_=>True
 |14,v,w=>PB Wr v w
 |15,v,w=>PB Wr v w
 |16,_,_=>True
 |_,_,_=>False
theorem PB.lt{w0 w:World}{v:Value}{q:Nat}(h:PB w0 v w)(hq:SH v=some q):q<w.heap.size:=by
 obtain⟨p,rfl,h1,h2⟩:=h;cases hq;exact h2.lt
theorem za4{a:Act}{w0 Wr:World}{R:Exit→Act→World→Prop}{b p3 p4:Nat}{s t:Bool}{xa ya:Option Addr}{xn xc yn yc:Nat}{A1 A2:List Nat}{H:Nat→Prop}(hz:a.tmps.size=353)(h3:a.tmps.getD 3 undef= .pointer (some ⟨p3,0,none⟩))(h4:a.tmps.getD 4 undef= .pointer (some ⟨p4,0,none⟩))(h7:a.tmps.getD 7 undef= .pointer (some ⟨b,0,none⟩))
 (l3:p3<Wr.heap.size) (l4:p4<Wr.heap.size) (n3:p3≠b) (n4:p4≠b) (lb:w0.heap.size≤b) (lb2:b<Wr.heap.size) (hB:Below w0.heap.size w0 Wr) (hb:Bn Wr b Dv Dv Dv [] [] []) (x3:gu Wr p3 s (.slice xa xn xc)) (x4:gu Wr p4 t (.slice ya yn yc)) (hH:∀q,H q→q<w0.heap.size) (rx:aO w0 H (.slice xa xn xc) (.l 1 (W A1))) (ry:aO w0 H (.slice ya yn yc) (.l 1 (W A2))) (la:A1.length≤1000000000) (WJ:A2.length≤1000000000) (wa:Wd A1) (wa2:Wd A2)
 (kk:∀(a':Act) (w':World) (q8 q9:Nat) (x y:Value),a'.tmps.size=353→(∀t,0<t→t<8→a'.tmps.getD t undef=a.tmps.getD t undef)→a'.tmps.getD 8 undef= .pointer (some ⟨q8,0,none⟩)→a'.tmps.getD 9 undef= .pointer (some ⟨q9,0,none⟩)→a'.defers=a.defers→NA w0 A1 A2 b x y w'→gu w' q8 s x→gu w' q9 t y→aY Wr (fun k=>¬(k<Wr.heap.size∧k≠b)) w'→R .normal a' w'):(q1 (qd 3 (qf Tryz.f3))).wp Tryz.prog R a Wr:=by
 have hw0:=hB.size
 have cx:∀w1,LR Wr b Wr w1→gu w1 p3 s (.slice xa xn xc)∧gu w1 p4 t (.slice ya yn yc):=fun w1 h=>⟨(h.1.block p3 l3 (fun e=>e ⟨l3,n3⟩)).trans x3,(h.1.block p4 l4 (fun e=>e ⟨l4,n4⟩)).trans x4⟩
 have bq0:∀q,Bq b Dv Dv Dv q→q=b:=fun q h=>by
  rcases h with h|h|h|h
  ·exact h
  ·cases h
  ·cases h
  ·cases h
 refine uf (GI w0 Wr b s t A1 A2) (LR Wr b) (fun w=>LR.of ⟨rfl,rfl,rfl,Nat.le_refl _,fun _ _=>rfl⟩) (fun x y z=>LR.tr x y z) (n:=17) (N:=353) (za4Φ Wr b p3 p4 s t xa ya xn xc yn yc) (fun i v=>match i with|14=>SH v|15=>SH v|_=>none) dB (by kernel_rfl) hz (by kernel_rfl) (fun i v w1 w2 hi h hb=>?_) (fun i v w1 q hi h hq=>?_) (fun i o v v' w1 hi ho hd h=>?_) ?_ (fun i o a1 w1 l hi ho hls hl hcl hI hsz hL hold aG K hK=>?_) (fun a1 w1 l hall hI hsz hdf hL hold hval hsep=>?_)
 ·match i,hi with
  |0,_=>exact h
  |1,_=>exact h
  |2,_=>exact h
  |3,_=>exact h
  |4,_=>exact h
  |5,_=>exact trivial
  |6,_=>exact trivial
  |7,_=>exact h
  |8,_=>exact h
  |9,_=>exact h
  |10,_=>exact h
  |11,_=>exact h
  |12,_=>exact trivial
  |13,_=>exact trivial
  |14,_=>exact PB.upR h hb
  |15,_=>exact PB.upR h hb
  |16,_=>exact trivial
 ·match i,hi with
  |0,_=>cases hq
  |1,_=>cases hq
  |2,_=>cases hq
  |3,_=>cases hq
  |4,_=>cases hq
  |5,_=>cases hq
  |6,_=>cases hq
  |7,_=>cases hq
  |8,_=>cases hq
  |9,_=>cases hq
  |10,_=>cases hq
  |11,_=>cases hq
  |12,_=>cases hq
  |13,_=>cases hq
  |14,_=>exact PB.lt h hq
  |15,_=>exact PB.lt h hq
  |16,_=>cases hq
 ·match i,hi,ho with
  |0,_,ho=>obtain rfl:=Option.some.inj ho;cases hd
  |1,_,ho=>obtain rfl:=Option.some.inj ho;cases hd
  |2,_,ho=>obtain rfl:=Option.some.inj ho;cases hd
  |3,_,ho=>obtain rfl:=Option.some.inj ho;cases hd
  |4,_,ho=>obtain rfl:=Option.some.inj ho;cases hd
  |5,_,ho=>obtain rfl:=Option.some.inj ho;cases hd
  |6,_,ho=>obtain rfl:=Option.some.inj ho;cases hd
  |7,_,ho=>obtain rfl:=Option.some.inj ho;cases hd
  |8,_,ho=>obtain rfl:=Option.some.inj ho;cases hd
  |9,_,ho=>obtain rfl:=Option.some.inj ho;cases hd
  |10,_,ho=>obtain rfl:=Option.some.inj ho;cases hd
  |11,_,ho=>obtain rfl:=Option.some.inj ho;cases hd
  |12,_,ho=>obtain rfl:=Option.some.inj ho;cases hd
  |13,_,ho=>obtain rfl:=Option.some.inj ho;cases hd
  |14,_,ho=>obtain rfl:=Option.some.inj ho;cases hd
  |15,_,ho=>obtain rfl:=Option.some.inj ho;cases hd
  |16,_,ho=>exact⟨trivial,rfl⟩
  |k+17,hi,_=>exact absurd hi om
 ·have e0:∀j,j<18→(Array.replicate 18 false).getD j true=false:=dc;exact⟨fun _=>⟨hb.below ⟨rfl,rfl,rfl,Nat.le_refl _,fun _ _=>rfl⟩,⟨rfl,rfl,rfl,Nat.le_refl _,fun _ _=>rfl⟩⟩,fun h=>absurd h dc,fun h=>absurd h dc,fun h=>absurd h dc,fun h=>absurd h dc,fun h=>absurd h dc⟩
 ·have LS:∀k,i≠k→(l.setIfInBounds i true).getD k true=l.getD k true:=fun k hk=>by rw[iw,if_neg (fun e=>hk e.1)]
  have up:∀k,l.getD k true=true→(l.setIfInBounds i true).getD k true=true:=fun k hk=>by rw[iw];split<;>first|rfl|exact hk
  have NK:∀(d:Nat) (v:Value) (w':World),d≠57∧d≠58∧d≠64∧d≠65→i≠5∧i≠6∧i≠12∧i≠13∧i≠16→(d≠8∨l.getD 16 true=false)→Below w1.heap.size w1 w'→GI w0 Wr b s t A1 A2 (l.setIfInBounds i true) (a1.put (some d) v) w':=fun d v w' hd h5 h8 hb=>hI.keep h5 hd h8 hb
  match i,hi,ho with
  |0,_,ho=>
   obtain rfl:=Option.some.inj ho;refine bP rfl ?_;have g3:=gI hsz ((hold 3 (aj (by kernel_rfl))).trans h3) dc;have hk:=PLift.up hK;have hn:=PLift.up NK;clear hK hold aG NK LS up;go_simp;exact hk.down _ _ rfl (LR.of (aJ _)) (fun q h=>by cases h) (hn.down _ _ _ dc dc (.inl dc) (aJ _))
  |1,_,ho=>
   obtain rfl:=Option.some.inj ho;refine bP rfl ?_;have e0:a1.tmps.getD 52 undef= .pointer (some ⟨p3,0,none⟩):=aG ⟨0,.data⟩ sy rfl;have g52:=gI hsz e0 dc;have c0:=cell_of_row _ _ 0 _ _ _ (cx w1 hL).1;have hk:=PLift.up hK;have hn:=PLift.up NK;clear hK hold aG NK LS up;go_simp;exact hk.down _ _ rfl (LR.of (aJ _)) (fun q h=>by cases h) (hn.down _ _ _ dc dc (.inl dc) (aJ _))
  |2,_,ho=>
   obtain rfl:=Option.some.inj ho;refine bP rfl ?_;have g7:=gI hsz ((hold 7 (aj (by kernel_rfl))).trans h7) dc;have hk:=PLift.up hK;have hn:=PLift.up NK;clear hK hold aG NK LS up;go_simp;exact hk.down _ _ rfl (LR.of (aJ _)) (fun q h=>by cases h) (hn.down _ _ _ dc dc (.inl dc) (aJ _))
  |3,_,ho=>
   obtain rfl:=Option.some.inj ho;refine bP rfl ?_;have g3:=gI hsz ((hold 3 (aj (by kernel_rfl))).trans h3) dc;have hk:=PLift.up hK;have hn:=PLift.up NK;clear hK hold aG NK LS up;go_simp;exact hk.down _ _ rfl (LR.of (aJ _)) (fun q h=>by cases h) (hn.down _ _ _ dc dc (.inl dc) (aJ _))
  |4,_,ho=>
   obtain rfl:=Option.some.inj ho;refine bP rfl ?_;have e3:a1.tmps.getD 55 undef= .pointer (some ⟨p3,1,none⟩):=aG ⟨3,.data⟩ sy rfl;have g55:=gI hsz e3 dc;have c0:=cell_of_row _ _ 1 _ _ _ (cx w1 hL).1;have hk:=PLift.up hK;have hn:=PLift.up NK;clear hK hold aG NK LS up;go_simp;exact hk.down _ _ rfl (LR.of (aJ _)) (fun q h=>by cases h) (hn.down _ _ _ dc dc (.inl dc) (aJ _))
  |5,_,ho=>
   obtain rfl:=Option.some.inj ho;refine bP rfl ?_;have e2:a1.tmps.getD 54 undef= .pointer (some ⟨b,0,none⟩):=aG ⟨2,.data⟩ sy rfl;have g54:=gI hsz e2 dc;have e4:a1.tmps.getD 56 undef= .slice xa xn xc:=aG ⟨4,.data⟩ sy rfl;have g56:=gI hsz e4 dc;obtain⟨hbn,hbW⟩:=hI.p0 hl;have b01:=ah hB hbW;have hs1:=b01.size;have hc:=QB (Ha:=H) (va:= .slice xa xn xc) hbn (fun q h=>by have:=hH q h;omega) (fun q hq h=>by have:=hH q h;have:=bq0 q hq;omega) (rx.mono (fun _ h=>h) fun q h=>b01.block q (hH q h)) rfl rfl rfl (fun v hv=>by simp at hv) (fun v hv=>by simp at hv) (fun v hv=>by simp at hv) (Nat.zero_le _) la;have hk:=PLift.up hK;have hi':=PLift.up hI;clear hK hold aG NK hI;go_simp;refine hc.mono ?_;intro e w2 hR;have hR':=hR;obtain⟨g,cap,_,_,_,_,_,rfl,_,bel,_⟩:=hR';have l12:l.getD 12 true=false:=by
    cases h:l.getD 12 true with
    |false=>rfl
    |true=>rw[(hi'.down.p2 h).1]at hl;cases hl
   have l6:l.getD 6 true=false:=by
    cases h:l.getD 6 true with
    |false=>rfl
    |true=>rw[(hi'.down.p6 h).1]at hl;cases hl
   have l13:l.getD 13 true=false:=by
    cases h:l.getD 13 true with
    |false=>rfl
    |true=>rw[(hi'.down.p13 h).1]at l12;cases l12
   have l16:l.getD 16 true=false:=by
    cases h:l.getD 16 true with
    |false=>rfl
    |true=>rw[(hi'.down.p16 h).2.1]at l6;cases l6
   refine hk.down _ _ trivial ⟨⟨bel.os,bel.tape,bel.output,bel.size,fun k hk hn=>bel.block k hk fun h=>hn fun e=>e.2 (bq0 k h)⟩,fun k ⟨s',a',n',c',hx⟩=>⟨s',a',n',c',(bel.block k (aS hx) (hbn.nb ⟨s',a',n',c',hx⟩)).trans hx⟩⟩ (fun q h=>by cases h) ⟨fun h=>?_,fun _ _=>⟨w1,hbW,?_⟩,fun h=>?_,fun h=>?_,fun h=>?_,fun h=>?_⟩
   ·rw[iw,if_pos ⟨rfl,by rw[hls];decide⟩]at h;cases h
   ·rw[show(a1.put (some 57) _).tmps.getD 57 undef=_ from aC (by rw[hsz];decide)];exact hR
   ·rw[LS 12 dc,l12]at h;cases h
   ·rw[LS 6 dc,l6]at h;cases h
   ·rw[LS 13 dc,l13]at h;cases h
   ·rw[LS 16 dc,l16]at h;cases h
  |6,_,ho=>
   obtain rfl:=Option.some.inj ho;refine bP rfl ?_;have e1:a1.tmps.getD 53 undef= .bool s:=aG ⟨1,.data⟩ sy rfl;have g53:=gI hsz e1 dc;have l5:l.getD 5 true=true:=hcl ⟨5,.data⟩ sy rfl;obtain⟨ua,un,uc,hu⟩:∃ua un uc,a1.tmps.getD 57 undef= .slice ua un uc:=by
    cases h:l.getD 12 true with
    |false=>
     obtain⟨_,_,g,cap,_,_,_,_,_,e,_⟩:=hI.p1 l5 h;exact⟨_,_,_,Ending.returned.inj e⟩
    |true=>
     obtain⟨_,_,_,_,_,_,_,_,_,_,e,_⟩:=hI.p2 h;exact⟨_,_,_,e⟩
   have g57:=gI hsz hu dc;have hk:=PLift.up hK;have hi':=PLift.up hI;clear hK hold aG NK hI;go_simp;have I:=hi'.down;have G:∀(v:Value) (k:Nat),k≠58→(a1.put (some 58) v).tmps.getD k undef=a1.tmps.getD k undef:=fun v k hk=>ae (Ne.symm hk)
   refine hk.down _ _ trivial (LR.of (aJ _)) (fun q h=>by cases h) ⟨fun h=>?_,fun _ h=>?_,fun h=>?_,fun _=>⟨up 5 l5,?_⟩,fun h=>?_,fun h=>?_⟩
   ·rw[LS 5 dc,l5]at h;cases h
   ·rw[LS 12 dc]at h;rw[G _ 57 dc];exact I.p1 l5 h
   ·rw[LS 12 dc]at h;rw[G _ 57 dc,G _ 64 dc];exact⟨up 5 l5,(I.p2 h).2⟩
   ·rw[G _ 57 dc,hu];exact aC (by rw[hsz];decide)
   ·rw[LS 13 dc]at h;rw[G _ 64 dc,G _ 65 dc];exact⟨up 12 (I.p13 h).1,(I.p13 h).2⟩
   ·rw[LS 16 dc]at h;rw[(I.p16 h).2.1]at hl;cases hl
  |7,_,ho=>
   obtain rfl:=Option.some.inj ho;refine bP rfl ?_;have g4:=gI hsz ((hold 4 (aj (by kernel_rfl))).trans h4) dc;have hk:=PLift.up hK;have hn:=PLift.up NK;clear hK hold aG NK LS up;go_simp;exact hk.down _ _ rfl (LR.of (aJ _)) (fun q h=>by cases h) (hn.down _ _ _ dc dc (.inl dc) (aJ _))
  |8,_,ho=>
   obtain rfl:=Option.some.inj ho;refine bP rfl ?_;have e7:a1.tmps.getD 59 undef= .pointer (some ⟨p4,0,none⟩):=aG ⟨7,.data⟩ sy rfl;have g59:=gI hsz e7 dc;have c0:=cell_of_row _ _ 0 _ _ _ (cx w1 hL).2;have hk:=PLift.up hK;have hn:=PLift.up NK;clear hK hold aG NK LS up;go_simp;exact hk.down _ _ rfl (LR.of (aJ _)) (fun q h=>by cases h) (hn.down _ _ _ dc dc (.inl dc) (aJ _))
  |9,_,ho=>
   obtain rfl:=Option.some.inj ho;refine bP rfl ?_;have g7:=gI hsz ((hold 7 (aj (by kernel_rfl))).trans h7) dc;have hk:=PLift.up hK;have hn:=PLift.up NK;clear hK hold aG NK LS up;go_simp;exact hk.down _ _ rfl (LR.of (aJ _)) (fun q h=>by cases h) (hn.down _ _ _ dc dc (.inl dc) (aJ _))
  |10,_,ho=>
   obtain rfl:=Option.some.inj ho;refine bP rfl ?_;have g4:=gI hsz ((hold 4 (aj (by kernel_rfl))).trans h4) dc;have hk:=PLift.up hK;have hn:=PLift.up NK;clear hK hold aG NK LS up;go_simp;exact hk.down _ _ rfl (LR.of (aJ _)) (fun q h=>by cases h) (hn.down _ _ _ dc dc (.inl dc) (aJ _))
  |11,_,ho=>
   obtain rfl:=Option.some.inj ho;refine bP rfl ?_;have e10:a1.tmps.getD 62 undef= .pointer (some ⟨p4,1,none⟩):=aG ⟨10,.data⟩ sy rfl;have g62:=gI hsz e10 dc;have c0:=cell_of_row _ _ 1 _ _ _ (cx w1 hL).2;have hk:=PLift.up hK;have hn:=PLift.up NK;clear hK hold aG NK LS up;go_simp;exact hk.down _ _ rfl (LR.of (aJ _)) (fun q h=>by cases h) (hn.down _ _ _ dc dc (.inl dc) (aJ _))
  |12,_,ho=>
   obtain rfl:=Option.some.inj ho;refine bP rfl ?_;have e9:a1.tmps.getD 61 undef= .pointer (some ⟨b,0,none⟩):=aG ⟨9,.data⟩ sy rfl;have g61:=gI hsz e9 dc;have e11:a1.tmps.getD 63 undef= .slice ya yn yc:=aG ⟨11,.data⟩ sy rfl;have g63:=gI hsz e11 dc;have l5:l.getD 5 true=true:=hcl ⟨5,.chain⟩ sy rfl;obtain⟨W1,hW1,hin⟩:=hI.p1 l5 hl;have hs1:=hW1.size;have hc:=in2 (H:=H) (vb:= .slice ya yn yc) (ah hB hW1) lb om hH ry la WJ wa wa2 hin;have hk:=PLift.up hK;have hi':=PLift.up hI;clear hK hold aG NK hI;go_simp;refine hc.mono ?_;rintro e w2 ⟨y,n,c,rfl,hna,bel,hbx⟩;have I:=hi'.down;have G:∀(v:Value) (k:Nat),k≠64→(a1.put (some 64) v).tmps.getD k undef=a1.tmps.getD k undef:=fun v k hk=>ae (Ne.symm hk)
   refine hk.down _ _ trivial ⟨⟨bel.os,bel.tape,bel.output,bel.size,fun k hk hn=>bel.block k hk fun h=>hn fun e=>h.elim e.2 fun h=>by have:=e.1;omega⟩,hbx⟩ (fun q h=>by cases h) ⟨fun h=>?_,fun _ h=>?_,fun _=>⟨up 5 l5,?_⟩,fun h=>?_,fun h=>?_,fun h=>?_⟩
   ·rw[LS 5 dc,l5]at h;cases h
   ·rw[iw,if_pos ⟨rfl,by rw[hls];decide⟩]at h;cases h
   ·rw[G _ 57 dc,show(a1.put (some 64) _).tmps.getD 64 undef=_ from aC (by rw[hsz];decide)];exact hna
   ·rw[LS 6 dc]at h;rw[G _ 57 dc,G _ 58 dc];exact⟨up 5 l5,(I.p6 h).2⟩
   ·rw[LS 13 dc]at h;rw[(I.p13 h).1]at hl;cases hl
   ·rw[LS 16 dc]at h;rw[(I.p16 h).2.2.1]at hl;cases hl
  |13,_,ho=>
   obtain rfl:=Option.some.inj ho;refine bP rfl ?_;have e8:a1.tmps.getD 60 undef= .bool t:=aG ⟨8,.data⟩ sy rfl;have g60:=gI hsz e8 dc;have l12:l.getD 12 true=true:=hcl ⟨12,.data⟩ sy rfl;obtain⟨l5,hna⟩:=hI.p2 l12;obtain⟨ua,un,uc,hu⟩:∃ua un uc,a1.tmps.getD 64 undef= .slice ua un uc:=by
    obtain⟨_,_,_,_,_,_,_,_,_,_,e,_⟩:=hna;exact⟨_,_,_,e⟩
   have g64:=gI hsz hu dc;have hk:=PLift.up hK;have hi':=PLift.up hI;have hna':=PLift.up hna;clear hK hold aG NK hI hna;go_simp;have I:=hi'.down;have G:∀(v:Value) (k:Nat),k≠65→(a1.put (some 65) v).tmps.getD k undef=a1.tmps.getD k undef:=fun v k hk=>ae (Ne.symm hk)
   refine hk.down _ _ trivial (LR.of (aJ _)) (fun q h=>by cases h) ⟨fun h=>?_,fun _ h=>?_,fun h=>?_,fun h=>?_,fun _=>⟨up 12 l12,?_⟩,fun h=>?_⟩
   ·rw[LS 5 dc,l5]at h;cases h
   ·rw[LS 12 dc,l12]at h;cases h
   ·rw[G _ 57 dc,G _ 64 dc];exact⟨up 5 l5,hna'.down⟩
   ·rw[LS 6 dc]at h;rw[G _ 57 dc,G _ 58 dc];exact⟨up 5 l5,(I.p6 h).2⟩
   ·rw[G _ 64 dc,hu];exact aC (by rw[hsz];decide)
   ·rw[LS 16 dc]at h;obtain⟨k1,k2,k3,q,k4,k5⟩:=I.p16 h;rw[G _ 8 dc,G _ 57 dc];exact⟨up 14 k1,up 6 k2,up 12 k3,q,k4,k5⟩
  |14,_,ho=>
   obtain rfl:=Option.some.inj ho;refine bP rfl ?_;have l16:l.getD 16 true=false:=by
    cases h:l.getD 16 true with
    |false=>rfl
    |true=>rw[(hI.p16 h).1]at hl;cases hl
   have hs1:=hL.1.size;have hk:=PLift.up hK;have hn:=PLift.up NK;clear hK hold aG NK;go_simp;exact hk.down _ _ (PB.alloc hs1) (LR.of (aQ _ _)) (fun q h=>by cases h;exact Nat.le_refl _) (hn.down _ _ _ dc dc (.inr l16) (aQ _ _))
  |15,_,ho=>
   obtain rfl:=Option.some.inj ho;refine bP rfl ?_;have hs1:=hL.1.size;have hk:=PLift.up hK;have hn:=PLift.up NK;clear hK hold aG NK;go_simp;exact hk.down _ _ (PB.alloc hs1) (LR.of (aQ _ _)) (fun q h=>by cases h;exact Nat.le_refl _) (hn.down _ _ _ dc dc (.inl dc) (aQ _ _))
  |16,_,ho=>
   obtain rfl:=Option.some.inj ho;refine bP rfl ?_;have l12:l.getD 12 true=true:=hcl ⟨12,.chain⟩ sy rfl;have l6:l.getD 6 true=true:=hcl ⟨6,.data⟩ sy rfl;have l14:l.getD 14 true=true:=hcl ⟨14,.data⟩ sy rfl;obtain⟨l5,hna⟩:=hI.p2 l12;obtain⟨_,h58⟩:=hI.p6 l6;obtain⟨q,eq,lq,hq⟩:PB Wr (a1.tmps.getD 8 undef) w1:=aG ⟨14,.data⟩ sy rfl;have hna':=hna;obtain⟨p1,c1,p2,c2,_,_,_,_,_,e57,e64,_⟩:=hna';rw[e57]at h58;have hst:=LB.st (w0:=w0) (s:=s) (a:=some ⟨p1,0,none⟩) (n:=A1.length) (c:=c1) hq om;obtain⟨s1,b1,n1,d1,hg⟩:=hq;refine wp_store_row 25 (.tmp 8) (.tmp 58) rfl q #[.bool s,.slice (some ⟨p1,0,none⟩) A1.length c1] eq h58 25 _ hg (by kernel_rfl) rfl (aN _ _ _ _) ?_;refine hK undef _ trivial ⟨⟨hst.1.1.os,hst.1.1.tape,hst.1.1.output,hst.1.1.size,fun k hk hn=>setRow_other w1 q k _ fun e=>hn fun e2=>by rw[e]at e2;omega⟩,hst.1.2⟩ (fun q h=>by cases h) ⟨fun h=>?_,fun _ h=>?_,fun h=>?_,fun h=>?_,fun h=>?_,fun _=>⟨up 14 l14,up 6 l6,up 12 l12,q,eq,?_⟩⟩
   ·rw[LS 5 dc,l5]at h;cases h
   ·rw[LS 12 dc,l12]at h;cases h
   ·exact⟨up 5 l5,hna.keep hst.1⟩
   ·exact⟨up 5 l5,(hI.p6 l6).2⟩
   ·rw[LS 13 dc]at h;exact⟨up 12 l12,(hI.p13 h).2⟩
   ·show gu _ q s (a1.tmps.getD 57 undef);rw[e57];exact hst.2
  |k+17,hi,_=>exact absurd hi om
 ·obtain⟨_,hna⟩:=hI.p2 (hall 12 dc);obtain⟨_,h65⟩:=hI.p13 (hall 13 dc);obtain⟨_,_,_,q8,e8,hb8⟩:=hI.p16 (hall 16 dc);obtain⟨q9,e9,lq9,hq9⟩:PB Wr (a1.tmps.getD 9 undef) w1:=hval 15 dc;have hne:q9≠q8:=fun e=>hsep 14 15 q8 dc dc dc (by show SH (a1.tmps.getD 8 undef)=_;rw[e8];rfl) (by show SH (a1.tmps.getD 9 undef)=_;rw[e9,e];rfl)
  have hna':=hna;obtain⟨p1,c1,p2,c2,_,_,_,_,_,e57,e64,_⟩:=hna';rw[e64]at h65;have hst:=LB.st (w0:=w0) (s:=t) (a:=some ⟨p2,0,none⟩) (n:=A2.length) (c:=c2) hq9 om;obtain⟨s1,b1,n1,d1,hg⟩:=hq9;refine wpList_store_row rfl 25 (.tmp 9) (.tmp 65) rfl q9 #[.bool t,.slice (some ⟨p2,0,none⟩) A2.length c2] e9 h65 25 _ hg (by kernel_rfl) rfl (aN _ _ _ _) ?_;have old:∀t,t<8→0<t→a1.tmps.getD t undef=a.tmps.getD t undef:=fun t ht h0=>hold t (aj (by revert t;decide))
  rw[e57,e64]at hna;rw[e57]at hb8;have hne':q8≠q9:=Ne.symm hne;exact kk _ _ q8 q9 _ _ hsz (fun t h0 ht=>old t ht h0) e8 e9 hdf (hna.keep hst.1) ((setRow_other w1 q9 q8 _ hne').trans hb8) hst.2 ⟨hst.1.1.os.trans hL.1.os,hst.1.1.tape.trans hL.1.tape,hst.1.1.output.trans hL.1.output,Nat.le_trans hL.1.size hst.1.1.size,fun k hk hn=>(setRow_other w1 q9 k _ fun e=>om).trans (hL.1.block k hk hn)⟩
end
section
open Go Go.RowKit Go.Proofs Ab
theorem and127(n:Int):∃k:Nat,k≤127∧bits .and .i64 n 127=(k:Int):=by
 have q:bits .and .i64 n 127=IntKind.i64.wrap (((BitVec.ofInt 64 n&&&BitVec.ofInt 64 127).toNat:Nat):Int):=rfl;have h:(BitVec.ofInt 64 n&&&BitVec.ofInt 64 127).toNat≤127:=by rw[BitVec.toNat_and];exact Nat.and_le_right
 exact⟨_,h,by rw[q];exact wi om⟩
theorem Iu(w:World):Calls Tryz.prog 4 #[] w (fun e w'=>e= .returned (.bool true)∧Below w.heap.size w w'):=
 SX (vs:=[]) (H:=fun _=>False) Fh (fun _ h=>h.elim) ⟨rfl,fun j v x h=>by simp at h⟩
theorem BJ(s t:Bool)(a b:List Nat)(n:Int)(wa:Wd a)(wb:Wd b)(la:a.length≤10000000)(lb:b.length≤10000000):aF Tryz.prog Tb 3 [zL s a,zL t b,.i .i64 n] (.b true):=by
 refine .WY rfl fun w H vs hJ hT hH hr=>?_
 obtain⟨hr0,hr1⟩:=hr;obtain⟨v0,v1,v2,rfl⟩:∃v0 v1 v2,vs=[v0,v1,v2]:=by
  match vs,hr0 with
  |[v,u,z],_=>exact⟨v,u,z,rfl⟩
 obtain⟨x0,rfl,rx⟩:=wU (hr1 0 v0 _ rfl rfl);obtain⟨y0,rfl,ry⟩:=wU (hr1 1 v1 _ rfl rfl);obtain rfl:=(Rep.up (ov:=fun _=>none) (hr1 2 v2 _ rfl rfl)).bT;obtain⟨xa,xn,xc,rfl⟩:=bK rx;obtain⟨ya,yn,yc,rfl⟩:=bK ry;clear hr1 hr0;refine bW (vs:=[.agg #[.bool s,.slice xa xn xc],.agg #[.bool t,.slice ya yn yc],.int .i64 n]) Tryz.func3 (c:=qf Tryz.f3) rfl (by show 3≤_;decide) fun a0 z0 e0 d0=>?_
 have i0:a0.tmps.getD 0 undef= .agg #[.bool s,.slice xa xn xc]:=e0 0 (by show 0<3;decide);have i1:a0.tmps.getD 1 undef= .agg #[.bool t,.slice ya yn yc]:=e0 1 (by show 1<3;decide);have i2:a0.tmps.getD 2 undef= .int .i64 n:=e0 2 (by show 2<3;decide);change a0.tmps.size=353 at z0;refine wp_seq ?_;refine za0 z0 i0 i1 fun a1 z1 s1 k3 k4 d1=>?_
 have h1:=heap_alloc2_old w (.cells #[.bool s,.slice xa xn xc] 25) (.cells #[.bool t,.slice ya yn yc] 25);have h2:=heap_alloc2_new w (.cells #[.bool s,.slice xa xn xc] 25) (.cells #[.bool t,.slice ya yn yc] 25);have B1:=ah (aQ w (.cells #[.bool s,.slice xa xn xc] 25)) (aQ _ (.cells #[.bool t,.slice ya yn yc] 25));generalize (w.alloc (.cells #[.bool s,.slice xa xn xc] 25)).alloc (.cells #[.bool t,.slice ya yn yc] 25)=w1 at*
 refine wp_seq ?_;refine wp_seq ?_;refine za1 z1 (Iu w1) fun a2 w2 z2 s2 h49 d2 B2=>?_
 refine wp_cond_false (by rw[az,h49]) ?_;refine wp_skip ?_;refine wp_seq ?_;refine za3 z2 fun a3 z3 s3 k7 d3=>?_
 have B3:=aQ w2 (.cells #[.slice none 0 0,.slice none 0 0,.slice none 0 0] 30);have hbn:=Bn.new w2;have hsz3:w2.heap.size<(w2.alloc (.cells #[.slice none 0 0,.slice none 0 0,.slice none 0 0] 30)).heap.size:=by rw[World.size_alloc];omega
 generalize w2.alloc (.cells #[.slice none 0 0,.slice none 0 0,.slice none 0 0] 30)=w3 at*
 have l1:=aS h1;have l2:=aS h2;have t1:=B1.size;have t2:=B2.size;have Wy:=ah B1 B2;have x3:gu w3 w.heap.size s (.slice xa xn xc):=gu.up (gu.up h1 B2) B3;have x4:gu w3 (w.heap.size+1) t (.slice ya yn yc):=gu.up (gu.up h2 B2) B3;have j3:=(s3 3 dc).trans ((s2 3 dc).trans k3);have j4:=(s3 4 dc).trans ((s2 4 dc).trans k4);have j2:=(s3 2 dc).trans ((s2 2 dc).trans ((s1 2 dc).trans i2));refine wp_seq ?_;refine za4 (w0:=w) (b:=w2.heap.size) z3 j3 j4 k7 om om om om om hsz3 (ah Wy B3) hbn x3 x4 hH rx ry om om wa wb fun a4 w4 q8 q9 x y z4 s4 k8 k9 d4 hna hb8 hb9 _=>?_
 obtain⟨p1,c1,p2,c2,vl,vf,vu,u1,u2,rfl,rfl,J,ru1,ru2⟩:=hna;have m2:=(s4 2 dc dc).trans j2;have m7:=(s4 7 dc dc).trans k7;have gd:a4.defers=[]:=d4.trans (d3.trans (d2.trans (d1.trans d0)));have s04:=J.bel.size;have safe:∀{q:Nat},Ai w4 q→Sf w4 w2.heap.size vl vf vu p1 p2 q:=fun h=>⟨h.lt,J.bn.nb h,fun e=>Dn J.r1 h (by rw[e];rfl),fun e=>Dn J.r2 h (by rw[e];rfl)⟩
 have f8:=safe ⟨_,_,_,_,hb8⟩;have f9:=safe ⟨_,_,_,_,hb9⟩;have f0:Sf w4 w2.heap.size vl vf vu p1 p2 0:=⟨by have:=hJ.1;omega,fun h=>by have:=(J.hq 0 h).1;have:=hJ.1;omega,fun e=>by have:=J.hp.1;have:=hJ.1;omega,fun e=>by have:=J.hp.2.1;have:=hJ.1;omega⟩;have hT4:=hJ.up J.bel;obtain⟨m,hm,hme⟩:=and127 n;refine wp_seq ?_;refine za5 z4 m2 hme fun a5 z5 s5 m2' d5=>?_
 refine wp_seq ?_;refine wp_seq ?_;refine za6 z5 fun a6 z6 s6 k10 d6=>?_
 have n2:=(s6 2 dc).trans m2';have n7:=(s6 7 dc).trans ((s5 7 dc dc).trans m7);have n8:=(s6 8 dc).trans ((s5 8 dc dc).trans k8);have n9:=(s6 9 dc).trans ((s5 9 dc dc).trans k9);refine wp_block ?_;refine wp_loop_ghost (fun j a' w'=>∃(k:Nat) (vl vf vu:Value) (A1 A2:List Nat) (L:List (Value×List Nat)) (Fs Us:List Value),k+j=2∧a'.tmps.size=353∧a'.defers=[]∧a'.tmps.getD 2 undef= .int .i64 (m:Int)∧a'.tmps.getD 7 undef= .pointer (some ⟨w2.heap.size,0,none⟩)∧a'.tmps.getD 8 undef= .pointer (some ⟨q8,0,none⟩)∧a'.tmps.getD 9 undef= .pointer (some ⟨q9,0,none⟩)∧a'.tmps.getD 10 undef= .int .i64 (k:Int)∧
  NJ w w' w2.heap.size p1 a.length c1 p2 b.length c2 (20*k) vl vf vu A1 A2 u1 u2 L Fs Us∧(k=0→aO w' (fun q=>q<w'.heap.size) u1 (.l 1 (W (A1++List.replicate 5 0)))∧aO w' (fun q=>q<w'.heap.size) u2 (.l 1 (W (A2++List.replicate 5 0))))∧Tb w'∧gu w' q8 s (.slice (some ⟨p1,0,none⟩) a.length c1)∧gu w' q9 t (.slice (some ⟨p2,0,none⟩) b.length c2)∧Sf w' w2.heap.size vl vf vu p1 p2 0∧Sf w' w2.heap.size vl vf vu p1 p2 q8∧Sf w' w2.heap.size vl vf vu p1 p2 q9)
  2 ⟨0,vl,vf,vu,a,b,[],[],[],rfl,z6,d6.trans (d5.trans gd),n2,n7,n8,n9,k10,J,fun _=>⟨ru1,ru2⟩,hT4,hb8,hb9,f0,f8,f9⟩ ?_
 rintro j a' w' ⟨k,vl,vf,vu,A1,A2,L,Fs,Us,hkj,hz,hd,h2,h7,h8,h9,h10,J,hu,hTw,TB,WI,f0,f8,f9⟩;refine wp_seq ?_;refine wp_seq ?_;by_cases hk:k<2
 ·refine za7t hz h10 hk fun a7 z7 s7 h69 d7=>?_
  refine wp_cond_true (by rw[az,h69]) ?_;refine wp_skip ?_;refine wp_seq ?_;refine wp_block ?_;refine Tm (n:=m) (k:=k) z7 (d7.trans hd) ((s7 2 dc).trans h2) hm ((s7 7 dc).trans h7) ((s7 8 dc).trans h8) ((s7 9 dc).trans h9) ((s7 10 dc).trans h10) hTw TB WI f0 f8 f9 J (fun h=>⟨om,hu h⟩) om la lb fun a8 w8 lI lJ lK XK XL L' Fs' Us' z8 d8 s8 J8 hT8 hx8' hx9' f0' f8' f9'=>?_
  have e8:∀t,t∈[2,7,8,9,10]→a8.tmps.getD t undef=a'.tmps.getD t undef:=fun t ht=>by
   have:∀t,t∈[2,7,8,9,10]→t<11:=dc;exact(s8 t ht).trans (s7 t (this t ht))
  refine za8 (k:=k) z8 ((e8 10 dc).trans h10) om fun a9 z9 s9 k10 d9=>?_
  exact⟨j-1,om,k+1,lI,lJ,lK,XK,XL,L',Fs',Us',om,z9,d9.trans d8,(s9 2 dc).trans ((e8 2 dc).trans h2),(s9 7 dc).trans ((e8 7 dc).trans h7),(s9 8 dc).trans ((e8 8 dc).trans h8),(s9 9 dc).trans ((e8 9 dc).trans h9),k10,by rw[show 20*(k+1)=20*k+20 from om];exact J8,fun h=>om,hT8,hx8',hx9',f0',f8',f9'⟩
 ·obtain rfl:k=2:=om;refine za7f hz h10 hk fun a7 z7 s7 h69 d7=>?_
  refine wp_cond_false (by rw[az,h69]) ?_;refine wp_exit ?_;have lt1:=J.r1.lt p1 rfl;have lt2:=J.r2.lt p2 rfl;have hp:=J.hp;have fin:=LU J.bn sy (by simp[J.lL]) (EU (EU J.XH fun u q hu hq=>?_) fun u q hu hq=>?_) (fun j v hj=>?_)
  ·refine wp_seq ?_;refine za38 (Qf:=fun w9=>aY w' (fun x=>∃(j:Nat) (v:Value),(Value.slice (some ⟨p1,0,none⟩) a.length c1::Value.slice (some ⟨p2,0,none⟩) b.length c2::L.map fun p=>p.1)[j]? =some v∧v.ownBlock=some x) w9) z7 ((s7 7 dc).trans h7) fin fun a9 w9 z9 s9 k6 d9 hQ=>?_
   refine wp_ret ?_;refine⟨d9.trans (d7.trans hd),_,results_tmp rfl _ _ _,_,rfl,⟨hQ.os.trans J.bel.os,hQ.tape.trans J.bel.tape,hQ.output.trans J.bel.output,Nat.le_trans J.bel.size hQ.size,fun q hq=>(hQ.block q (Nat.lt_of_lt_of_le hq J.bel.size) (fun h=>?_)).trans (J.bel.block q hq)⟩,fun _=>False,fun _ h=>h.elim,.inl ?_⟩
   ·obtain⟨j,v,hj,hv⟩:=h;rcases List.mem_cons.1 (List.mem_of_getElem? hj)with rfl|hm
    ·cases hv;exact absurd hp.1 (Nat.not_le_of_lt hq)
    rcases List.mem_cons.1 hm with rfl|hm
    ·cases hv;exact absurd hp.2.1 (Nat.not_le_of_lt hq)
    obtain⟨p,hpL,rfl⟩:=List.mem_map.1 hm;obtain⟨m,_,ho⟩:=J.own p hpL;have:=(ho.lt q hv).1;omega
   ·rw[k6];exact .b true
  ·obtain⟨p,hpL,rfl⟩:=List.mem_map.1 hu;cases hq;exact fun e=>(J.ne p _ hpL e).2.1 rfl
  ·cases hq;rcases List.mem_cons.1 hu with rfl|hu
   ·intro e;cases e;exact hp.2.2 rfl
   obtain⟨p,hpL,rfl⟩:=List.mem_map.1 hu;exact fun e=>(J.ne p _ hpL e).1 rfl
  ·rcases List.mem_cons.1 (List.mem_of_getElem? hj)with rfl|hm
   ·exact⟨_,_,om,JH J.r1⟩
   rcases List.mem_cons.1 hm with rfl|hm
   ·exact⟨_,_,om,JH J.r2⟩
   obtain⟨p,hpL,rfl⟩:=List.mem_map.1 hm;obtain⟨m,hm,ho⟩:=J.own p hpL;exact⟨m,_,hm,dC ho (Nat.zero_le _)⟩
end
section
open Go Go.RowKit Ab
theorem Fp{P:Program}{w:World}{n:String}{d:DataW Unit}:∀{l:List (String×DataW Unit)} {ps:List MemPlace},DataW.LaidVars P w l ps→(n,d)∈l→
 ∃g t cs fuel p,P.globalNamed n=some g∧(P.globals[g]?).map (·.type)=some t∧w.var? P n=some cs∧DataW.trod (fun _=>()) P w 0 (fun _=>true) false fuel t cs.toList=some (d,p)
 |[],ps,_,h=>by cases h
 |(m,e)::r,ps,h,hm=>by
  obtain⟨g,t,cs,fuel,p,q,h1,h2,h3,h4,h5,_⟩:=h;rcases List.mem_cons.1 hm with e1|hm
  ·cases e1;exact⟨g,t,cs,fuel,p,h1,h2,h3,h4⟩
  ·exact Fp h5 hm
theorem MQ{P:Program}{W:World}{name:String}{k:IntKind}{zs:List Int}{l:List (String×DataW Unit)}{g:Nat}{t e:TypeId}{n:Nat}
 (hg:P.globalNamed name=some g) (hty:(P.globals[g]?).map (·.type)=some t) (ht:P.underlying t=some (.array n e)) (he:P.underlying e=some (.int k)) (hce:P.cellsOf e=1) (hct:P.cellsOf t=n)
 (h:laidMet P l W) (hm:(name,Lib.tabData k zs)∈l) (hz:zs≠[]):
 g<W.heap.size∧∀(j:Nat) (x:V),(zs.map fun n=>V.i k n)[j]? =some x→∃v,W.cell? ⟨g,j,none⟩=some v∧aO W (fun b=>b<W.heap.size) v x:=by
 obtain⟨ps,h1,_⟩:=h
 obtain⟨g',t',cs,fuel,p,hg',ht',hvar,hd⟩:=Fp h1 hm
 obtain rfl:=Option.some.inj (hg.symm.trans hg')
 obtain rfl:=Option.some.inj (hty.symm.trans ht')
 have hcs:=Lib.cells_of_tab ht he hce hct hd
 have htab:Lib.TabIs P W name k zs:=by
  unfold Lib.TabIs;rw[hvar,←hcs]
 refine⟨?_,fun j x hx=>?_⟩
 ·have h0:=htab.cell hg 0 (List.length_pos_iff.2 hz);rcases Nat.lt_or_ge g W.heap.size with h3|h3
  ·exact h3
  ·have h5:W.heap[g]? =none:=by simp[h3]
   simp[World.cell?,h5]at h0
 ·simp only[List.getElem?_map,Option.map_eq_some_iff]at hx;obtain⟨z,hz',rfl⟩:=hx;have hj:j<zs.length:=(List.getElem?_eq_some_iff.1 hz').1;refine⟨_,htab.cell hg j hj,?_⟩;rw[List.getD_eq_getElem?_getD,hz'];exact .i _ _
end
