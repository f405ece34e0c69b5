import Derived.StillTail
import Derived.BigFrame
import Derived.Laws.Rows
import Derived.Test.YtoehbmlfnjlchaaGreatDoorHC
import Derived.Test.YtoehbmlfnjlchaaGreatDoorAR1
import Derived.Test.YtoehbmlfnjlchaaGreatDoorHD
import Derived.Test.YtoehbmlfnjlchaaGreatDoorU15
set_option linter.all false
set_option maxHeartbeats 10000000
set_option maxRecDepth 2000000
namespace Go.Proofs.YtoehbmlfnjlchaaGreatDoor
section
open Go Go.RowKit Go.Proofs Ab
theorem aJ(w:World):Below w.heap.size w w:=⟨rfl,rfl,rfl,Nat.le_refl _,fun _ _=>rfl⟩
theorem rW(w:World)(B e sz:Nat):w.ownsRow B e sz (.slice none 0 0) 0 (Wv []):=⟨by simp[Wv],.inl ⟨rfl,rfl⟩⟩
def qt:Code→Code
 | .cond _ a _=>a
 |c=>c
def qe:Code→Code
 | .cond _ _ b=>b
 |c=>c
structure Cl(w0 w:World)(L:List (Value×List Nat)):Prop where
 own:∀p,p∈L→∃m:Nat,m≤maxLen∧w.ownsRow w0.heap.size 54 1 p.1 m (Wv p.2)
 XH:EG (L.map fun p=>p.1)
theorem Cl.keep{w0 w w':World}{L:List (Value×List Nat)}(h:Cl w0 w L)(hb:∀p q,p∈L→p.1.ownBlock=some q→w'.heap[q]? =w.heap[q]?):Cl w0 w' L:=
 ⟨fun p hp=>by obtain⟨m,hm,ho⟩:=h.own p hp;exact⟨m,hm,bg ho fun q hq=>hb p q hp hq⟩,h.XH⟩
def kX(w:World)(A:List Nat)(e:Ending)(w':World):Prop:=∃(u:Value) (n:Nat),e= .returned u∧Below w.heap.size w w'∧w'.ownsRow w.heap.size 54 1 u n (Wv A)∧n≤maxLen
def Dh(w:World)(A:List Nat)(y:Value)(e:Ending)(w':World):Prop:=∃(u:Value) (n:Nat),e= .returned (.tuple #[u,y])∧Below w.heap.size w w'∧w'.ownsRow w.heap.size 54 1 u n (Wv A)∧n≤maxLen
theorem lM{f:FuncId}{args:List V}{A:List Nat}{w:World}{H:Nat→Prop}{vs:List Value}(c:aF Tryz.prog J0 f args (.o 54 1 (W A)))(hH:∀q,H q→q<w.heap.size)(hr:aA w H vs args):Calls Tryz.prog f vs.toArray w (kX w A):=by
 refine((c.Yl rfl) w H vs trivial (MO _ _) hH hr).mono ?_;rintro e w' ⟨v,rfl,hB,N,hN,h⟩;rcases h with h|⟨e,sz,cs,n,xs,he,_,ho,hx,_,hm,_⟩|⟨r,h,_⟩
 ·cases h
 ·cases he;have:=Bv hx;subst this;exact⟨v,n,rfl,hB,ho,hm⟩
 ·cases h
theorem Ij{f:FuncId}{args:List V}{A:List Nat}{r:V}{y:Value}{w:World}{H:Nat→Prop}{vs:List Value}(c:aF Tryz.prog J0 f args (.to 54 1 (W A) [r]))(hy:∀(w':World) (H':Nat→Prop) (z:Value),aO w' H' z r→z=y)(hH:∀q,H q→q<w.heap.size)(hr:aA w H vs args):Calls Tryz.prog f vs.toArray w (Dh w A y):=by
 have c':Yk Tryz.prog J0 f args 54 1 (W A) [r]:=c;refine(c'.2 w H vs trivial (MO _ _) hH hr).mono ?_;rintro e w' ⟨u,us,n,xs,N,rfl,hB,ho,_,_,hx,_,hm,hus⟩;have:=Bv hx;subst this;match us,hus with
 |[z],hus=>
  have:=hy _ _ z (hus.2 0 z r rfl rfl);subst this;exact⟨u,n,rfl,hB,ho,hm⟩
theorem Cl.nil(w:World):Cl w w []:=⟨fun p hp=>by simp at hp,fun i j vi vj q _ h=>by simp at h⟩
theorem Cl.lt{w0 w:World}{L:List (Value×List Nat)}(h:Cl w0 w L){p:Value×List Nat}{q:Nat}(hp:p∈L)(hq:p.1.ownBlock=some q):w0.heap.size≤q∧q<w.heap.size:=by
 obtain⟨m,_,ho⟩:=h.own p hp;exact ho.lt q hq
theorem x_{L M:List Value}(h:EG L)(h2:EG M)(hx:∀v u q,v∈L→u∈M→v.ownBlock=some q→u.ownBlock≠some q):EG (L++M):=by
 intro i j vi vj q hij hi hj hq;rw[List.getElem?_append]at hi hj;split at hi<;>split at hj
 ·exact h i j vi vj q hij hi hj hq
 ·exact hx vi vj q (List.mem_of_getElem? hi) (List.mem_of_getElem? hj) hq
 ·exact fun e=>hx vj vi q (List.mem_of_getElem? hj) (List.mem_of_getElem? hi) e hq
 ·exact h2 _ _ vi vj q om hi hj hq
theorem Cl.step{w0 w1 w:World}{L M:List (Value×List Nat)}(h:Cl w0 w1 L)(hs:w0.heap.size≤w1.heap.size)(hb:Below w1.heap.size w1 w)(h2:Cl w1 w M):Cl w0 w (L++M):=by
 have h1:Cl w0 w L:=h.keep fun p q hp hq=>hb.block q (h.lt hp hq).2
 refine⟨fun p hp=>?_,?_⟩
 ·rcases List.mem_append.1 hp with hp|hp
  ·exact h1.own p hp
  ·obtain⟨m,hm,ho⟩:=h2.own p hp;exact⟨m,hm,dC ho hs⟩
 ·rw[List.map_append];refine x_ h1.XH h2.XH fun v u q hv hu hq hq2=>?_
  obtain⟨p,hp,rfl⟩:=List.mem_map.1 hv;obtain⟨p2,hp2,rfl⟩:=List.mem_map.1 hu;have:=(h.lt hp hq).2;have:=(h2.lt hp2 hq2).1;omega
theorem Cl.below{w0 w1 w:World}{L:List (Value×List Nat)}(h:Cl w0 w1 L)(hb:Below w1.heap.size w1 w):Cl w0 w L:=h.keep fun p q hp hq=>hb.block q (h.lt hp hq).2
theorem Cl.base{w0 w1 w:World}{L:List (Value×List Nat)}(h:Cl w1 w L)(hs:w0.heap.size≤w1.heap.size):Cl w0 w L:=
 ⟨fun p hp=>by obtain⟨m,hm,ho⟩:=h.own p hp;exact⟨m,hm,dC ho hs⟩,h.XH⟩
theorem uU(u:Value):EG [u]:=fun i j vi vj q hij hi hj _=>by
 have h1:=(List.getElem?_eq_some_iff.1 hi).1;have h2:=(List.getElem?_eq_some_iff.1 hj).1;simp only[List.length_singleton]at h1 h2;omega
theorem Cl.one{w w1:World}{u:Value}{A:List Nat}{n:Nat}(ho:w1.ownsRow w.heap.size 54 1 u n (Wv A))(hn:n≤maxLen):Cl w w1 [(u,A)]:=
 ⟨fun p hp=>by rw[List.mem_singleton.1 hp];exact⟨n,hn,ho⟩,uU u⟩
theorem ah{w w1 w2:World}(h1:Below w.heap.size w w1)(h2:Below w1.heap.size w1 w2):Below w.heap.size w w2:=by
 have a:=h1.size;have b:=h2.size;exact⟨h2.os.trans h1.os,h2.tape.trans h1.tape,h2.output.trans h1.output,om,fun q hq=>(h2.block q om).trans (h1.block q hq)⟩
theorem aQ(w:World)(o:Obj):Below w.heap.size w (w.alloc o):=by
 have h:Below w.heap.size w w:=⟨rfl,rfl,rfl,Nat.le_refl _,fun _ _=>rfl⟩;exact h.alloc (Nat.le_refl _) o
theorem Ry{w:World}{H:Nat→Prop}{B p n c:Nat}{A Z:List Nat}(ho:w.ownsRow B 54 1 (.slice (some ⟨p,0,none⟩) (n+5) c) (n+5) (Wv (A++Z)))(hA:A.length=n)(hn:n≤1000000000000)(hH:H p):aO w H (.slice (some ⟨p,0,none⟩) n c) (.l 1 (W A)):=by
 have hc:n+5≤c:=by
  rcases ho.2 with ⟨h,_⟩|⟨g,cap,cur,h,h1,h2,h3,_⟩
  ·cases h
  ·cases h;exact h3
 refine .l _ n c 1 _ (fun j=>(Wv (A++Z))[j]?.getD undef) p 0 Nat.one_pos (by rw[aU,hA];omega) (by unfold maxLen;omega) om (.inr ⟨rfl,hH⟩) (fun j hj=>?_) (fun j x hx=>?_)
 ·rw[aU]at hj;rw[Nat.zero_add,ho.cellAt j om];have hl:j<(Wv (A++Z)).length:=by simp only[Wv,List.length_map,List.length_append];omega
  rw[List.getElem?_eq_getElem hl];rfl
 ·have hj:j<A.length:=by
   have:=(List.getElem?_eq_some_iff.1 hx).1;rwa[aU]at this
  have h1:(Wv (A++Z))[j]? =some (.int .u64 (A[j]:Int)):=by
   simp only[Wv,List.getElem?_map,List.getElem?_append_left hj,List.getElem?_eq_getElem hj];rfl
  have h2:(W A)[j]? =some (.i .u64 (A[j]:Int)):=by
   simp only[W,List.getElem?_map,List.getElem?_eq_getElem hj];rfl
  rw[h1];rw[h2]at hx;cases hx;exact .i _ _
theorem Rz{w:World}{H:Nat→Prop}{B e:Nat}{v:Value}{Fv:List Value}{L:List (List Nat)}(ho:w.ownsRow B e 1 v Fv.length Fv)(hl:Fv.length=L.length)(hm:Fv.length≤1000000)(hr:∀(j:Nat) (x:Value) (A:List Nat),Fv[j]? =some x→L[j]? =some A→aO w H x (.l 1 (W A)))(hH:∀q,v.ownBlock=some q→H q):aO w H v (.l 1 (LA L)):=by
 refine Bo Nat.one_pos ho ⟨by rw[QH,hl],fun j x y h1 h2=>?_⟩ (by unfold maxLen;omega) hH;simp only[LA,List.getElem?_map,Option.map_eq_some_iff]at h2;obtain⟨A,h3,rfl⟩:=h2;exact hr j x A h1 h3
theorem Bn.ip{w:World}{H:Nat→Prop}{b:Nat}{vl vf vu:Value}{Lv Fv Uv:List Value}{L:List (List Nat)}(h:Bn w b vl vf vu Lv Fv Uv)(hH:∀q,Bq b vl vf vu q→H q)(lf:Fv.length=L.length)(lu:Uv.length=L.length)(hm:L.length≤1000000)
 (rf:∀(j:Nat) (x:Value) (A:List Nat),Fv[j]? =some x→L[j]? =some A→aO w H x (.l 1 (W A))) (ru:∀(j:Nat) (x:Value) (A:List Nat),Uv[j]? =some x→L[j]? =some A→aO w H x (.l 1 (W A))):aO w H (.pointer (some ⟨b,0,none⟩)) (.ip [.any,.l 1 (LA L),.l 1 (LA L)] 0):=by
 obtain⟨cap,hbox⟩:=h.box
 have e0:=hbox.cellAt 0 dc
 have e1:=hbox.cellAt 1 dc
 have e2:=hbox.cellAt 2 dc
 have r1:=Rz h.rf lf om rf fun q hq=>hH q (.inr (.inr (.inl hq)))
 have r2:=Rz h.ru lu om ru fun q hq=>hH q (.inr (.inr (.inr hq)))
 refine .ip _ 0 (fun j=>[vl,vf,vu].getD j undef) b 0 (hH b (.inl rfl)) (fun j hj=>?_) (fun j x hx=>?_)
 ·match j,hj with
  |0,_=>exact e0
  |1,_=>exact e1
  |2,_=>exact e2
 ·match j,hx with
  |0,hx=>cases hx;exact .any _
  |1,hx=>cases hx;exact r1
  |2,hx=>cases hx;exact r2
def up(f:Nat→Value)(t:Nat)(v:Value):Nat→Value:=fun s=>if s=t then v else f s
theorem iC{f:Nat→Value}{t s:Nat}{v:Value}(h:s≠t):up f t v s=f s:=if_neg h
theorem XI{f:Nat→Value}{t:Nat}{v:Value}:up f t v t=v:=if_pos rfl
theorem Dt{a a':Act}{f:Nat→Value}{t1:Nat}{v1:Value}(hf:∀t,t<39→a.tmps.getD t undef=f t)(hs:∀t,t<39→t≠t1→a'.tmps.getD t undef=a.tmps.getD t undef)(h1:a'.tmps.getD t1 undef=v1):∀t,t<39→a'.tmps.getD t undef=up f t1 v1 t:=fun t ht=>by
 by_cases e:t=t1
 ·rw[e,XI];exact h1
 ·rw[iC e,hs t ht e,hf t ht]
theorem LZ{w:World}{H:Nat→Prop}{x y:Value}{u v:V}(h1:aO w H x u)(h2:aO w H y v):aA w H [x,y] [u,v]:=⟨rfl,fun j a b e1 e2=>by
 match j,e1,e2 with
 |0,e1,e2=>cases e1;cases e2;exact h1
 |1,e1,e2=>cases e1;cases e2;exact h2⟩
theorem z_{w:World}{H:Nat→Prop}{x:Value}{u:V}(h1:aO w H x u):aA w H [x] [u]:=⟨rfl,fun j a b e1 e2=>by
 match j,e1,e2 with
 |0,e1,e2=>cases e1;cases e2;exact h1⟩
theorem pU{w:World}{B n:Nat}{v:Value}{A:List Nat}(h:w.ownsRow B 54 1 v n (Wv A))(hn:n≤maxLen):aO w (fun q=>q<w.heap.size) v (.l 1 (W A)):=Bo Nat.one_pos h (CW A) hn fun q hq=>(h.lt q hq).2
theorem Wq{w:World}{B n:Nat}{v:Value}{A:List Nat}(h:w.ownsRow B 54 1 v n (Wv A))(hn:n≤maxLen):A.length≤9223372036854775807:=by
 have h1:=h.1;simp only[Wv,List.length_map]at h1;unfold maxLen at hn;omega
theorem Cl.rep{w0 w:World}{L:List (Value×List Nat)}(h:Cl w0 w L){v:Value}{A:List Nat}(hp:(v,A)∈L):aO w (fun q=>q<w.heap.size) v (.l 1 (W A))∧A.length≤9223372036854775807∧∃a n c,v= .slice a n c:=by
 obtain⟨m,hm,ho⟩:=h.own _ hp;obtain⟨a,c,e⟩:=aB ho;exact⟨pU ho hm,Wq ho hm,a,m,c,e⟩
structure Outs(w0:World)(b:Nat)(vl vf vu:Value)(Lv Fv Uv vs:List Value)(w':World)(lI lJ lK:Value)(Fs Us:List Value):Prop where
 bel:aY w0 (Bq b vl vf vu) w'
 bn:Bn w' b lI lJ lK (Lv++vs) (Fv++Fs) (Uv++Us)
 lf:Fs.length=vs.length
 lu:Us.length=vs.length
 ff:∀v,v∈Fs→∃a c,v= .slice a 0 c
 fu:∀v,v∈Us→∃a c,v= .slice a 0 c
structure NJ(W0 w:World)(b p1 n1 c1 p2 n2 c2 m:Nat)(vl vf vu:Value)(A1 A2:List Nat)(u1 u2:Value)(L:List (Value×List Nat))(Fs Us:List Value):Prop where
 bel:Below W0.heap.size W0 w
 bn:Bn w b vl vf vu (.slice (some ⟨p1,0,none⟩) n1 c1:: .slice (some ⟨p2,0,none⟩) n2 c2::L.map fun p=>p.1) (.slice (some ⟨p1,0,none⟩) (n1+5) c1:: .slice (some ⟨p2,0,none⟩) (n2+5) c2::Fs) (u1::u2::Us)
 lL:L.length=m
 lF:Fs.length=m
 lU:Us.length=m
 fF:∀v,v∈Fs→∃a c,v= .slice a 0 c
 fU:∀v,v∈Us→∃a c,v= .slice a 0 c
 f1:∃a n c,u1= .slice a n c
 f2:∃a n c,u2= .slice a n c
 r1:w.ownsRow 0 54 1 (.slice (some ⟨p1,0,none⟩) (n1+5) c1) (n1+5) (Wv (A1++List.replicate 5 0))
 r2:w.ownsRow 0 54 1 (.slice (some ⟨p2,0,none⟩) (n2+5) c2) (n2+5) (Wv (A2++List.replicate 5 0))
 l1:A1.length=n1
 l2:A2.length=n2
 xq:Wd A1
 wd2:Wd A2
 hq:∀q,Bq b vl vf vu q→W0.heap.size≤q∧q≠p1∧q≠p2
 hp:W0.heap.size≤p1∧W0.heap.size≤p2∧p1≠p2
 own:∀p,p∈L→∃m:Nat,m≤1000000000∧w.ownsRow W0.heap.size 54 1 p.1 m (Wv p.2)
 XH:EG (L.map fun p=>p.1)
 ne:∀p q,p∈L→p.1.ownBlock=some q→q≠p1∧q≠p2∧¬Bq b vl vf vu q
theorem NJ.XJ{W0 w:World}{b p1 n1 c1 p2 n2 c2 m:Nat}{vl vf vu:Value}{A1 A2:List Nat}{u1 u2:Value}{L:List (Value×List Nat)}{Fs Us:List Value}(J:NJ W0 w b p1 n1 c1 p2 n2 c2 m vl vf vu A1 A2 u1 u2 L Fs Us):kF w p1 n1 c1∧kF w p2 n2 c2:=⟨⟨A1,J.l1,J.xq,J.r1⟩,⟨A2,J.l2,J.wd2,J.r2⟩⟩
theorem NJ.next{W0 w w3 w4:World}{b p1 n1 c1 p2 n2 c2 m d:Nat}{vl vf vu:Value}{A1 A2:List Nat}{u1 u2:Value}{L M:List (Value×List Nat)}{Fs Us Fs' Us':List Value}{lI lJ lK:Value}(J:NJ W0 w b p1 n1 c1 p2 n2 c2 m vl vf vu A1 A2 u1 u2 L Fs Us)
 (O:Outs w b vl vf vu (.slice (some ⟨p1,0,none⟩) n1 c1:: .slice (some ⟨p2,0,none⟩) n2 c2::L.map fun p=>p.1) (.slice (some ⟨p1,0,none⟩) (n1+5) c1:: .slice (some ⟨p2,0,none⟩) (n2+5) c2::Fs) (u1::u2::Us) (M.map fun p=>p.1) w3 lI lJ lK Fs' Us') (hq':∀q,Bq b lI lJ lK q→Bq b vl vf vu q∨w.heap.size≤q) (C:Cl w w3 M) (hM:∀p,p∈M→p.2.length≤1000000000) (ne':∀p q,p∈M→p.1.ownBlock=some q→¬Bq b lI lJ lK q) (hd:M.length=d)
 (hb:aY w3 (fun x=>x=p1∨x=p2) w4) (R1:kF w4 p1 n1 c1) (R2:kF w4 p2 n2 c2):∃XK XL,NJ W0 w4 b p1 n1 c1 p2 n2 c2 (m+d) lI lJ lK XK XL u1 u2 (L++M) (Fs++Fs') (Us++Us'):=by
 obtain⟨XK,l1,xq,r1⟩:=R1
 obtain⟨XL,l2,wd2,r2⟩:=R2
 have lt1:p1<w.heap.size:=(J.r1.lt p1 rfl).2
 have lt2:p2<w.heap.size:=(J.r2.lt p2 rfl).2
 have s0:=J.bel.size
 have s3:=O.bel.size
 have s4:=hb.size
 have hp:=J.hp
 have nq:∀q,Bq b lI lJ lK q→W0.heap.size≤q∧q≠p1∧q≠p2:=fun q h=>by
  rcases hq' q h with h|h
  ·exact J.hq q h
  ·omega
 have ownL:∀p,p∈L→∃m:Nat,m≤1000000000∧w4.ownsRow W0.heap.size 54 1 p.1 m (Wv p.2):=fun p h=>by
  obtain⟨m,hm,ho⟩:=J.own p h;refine⟨m,hm,bg ho fun q hq=>?_⟩;have hl:=(ho.lt q hq).2;obtain⟨x1,x2,x3⟩:=J.ne p q h hq;exact(hb.block q om (fun e=>e.elim x1 x2)).trans (O.bel.block q hl x3)
 have ltL:∀p q,p∈L→p.1.ownBlock=some q→q<w.heap.size:=fun p q h hq=>by
  obtain⟨m,hm,ho⟩:=J.own p h;exact(ho.lt q hq).2
 refine⟨XK,XL,⟨hb.os.trans (O.bel.os.trans J.bel.os),hb.tape.trans (O.bel.tape.trans J.bel.tape),hb.output.trans (O.bel.output.trans J.bel.output),om,fun q hq=>?_⟩,?_,by rw[List.length_append,J.lL,hd],by rw[List.length_append,J.lF,O.lf,List.length_map,hd],by rw[List.length_append,J.lU,O.lu,List.length_map,hd],fun v hv=>(List.mem_append.1 hv).elim (J.fF v) (O.ff v),fun v hv=>(List.mem_append.1 hv).elim (J.fU v) (O.fu v),J.f1,J.f2,r1,r2,l1,l2,xq,wd2,nq,hp,fun p h=>?_,?_,fun p q h hq=>?_⟩
 ·exact(hb.block q om (fun e=>om)).trans ((O.bel.block q om (fun h=>by have:=(J.hq q h).1;omega)).trans (J.bel.block q hq))
 ·have h:=O.bn.keep (w':=w4) fun q hq=>by
   have hl:=O.bn.lt q hq;obtain⟨_,x1,x2⟩:=nq q hq;exact hb.block q hl (fun e=>e.elim x1 x2)
  rw[List.map_append];exact h
 ·rcases List.mem_append.1 h with h|h
  ·exact ownL p h
  ·obtain⟨m,_,ho⟩:=C.own p h;have hl:=ho.1;simp only[Wv,List.length_map]at hl;have:=hM p h;exact⟨m,om,dC (bg ho fun q hq=>by
    have h2:=ho.lt q hq;exact hb.block q h2.2 (fun e=>om)) s0⟩
 ·rw[List.map_append];refine x_ J.XH C.XH fun v u q hv hu hq hq2=>?_
  obtain⟨p,hp,rfl⟩:=List.mem_map.1 hv;obtain⟨p2,hp2,rfl⟩:=List.mem_map.1 hu;have:=ltL p q hp hq;have:=(C.lt hp2 hq2).1;omega
 ·rcases List.mem_append.1 h with h|h
  ·obtain⟨x1,x2,x3⟩:=J.ne p q h hq;exact⟨x1,x2,fun e=>(hq' q e).elim x3 fun e=>by have:=ltL p q h hq;omega⟩
  ·have:=(C.lt h hq).1;exact⟨om,om,ne' p q h hq⟩
theorem Bn.new(w:World):Bn (w.alloc (.cells #[.slice none 0 0,.slice none 0 0,.slice none 0 0] 30)) w.heap.size (.slice none 0 0) (.slice none 0 0) (.slice none 0 0) [] [] []:=
 ⟨⟨1,World.ownsRow_lit (base:=0) (e:=30) (size:=3) w #[.slice none 0 0,.slice none 0 0,.slice none 0 0] 1 (Nat.zero_le _) (by unfold maxLen;omega) rfl⟩,⟨rfl,.inl ⟨rfl,rfl⟩⟩,⟨rfl,.inl ⟨rfl,rfl⟩⟩,⟨rfl,.inl ⟨rfl,rfl⟩⟩,fun q h=>(by cases h),fun q h=>(by cases h),fun q h=>(by cases h)⟩
def NA(w0:World)(a b:List Nat)(g:Nat)(x y:Value)(w:World):Prop:=
 ∃p1 c1 p2 c2 vl vf vu u1 u2,x= .slice (some ⟨p1,0,none⟩) a.length c1∧y= .slice (some ⟨p2,0,none⟩) b.length c2∧NJ w0 w g p1 a.length c1 p2 b.length c2 0 vl vf vu a b u1 u2 [] [] []∧aO w (fun q=>q<w.heap.size) u1 (.l 1 (W (a++List.replicate 5 0)))∧aO w (fun q=>q<w.heap.size) u2 (.l 1 (W (b++List.replicate 5 0)))
theorem bK{w:World}{H:Nat→Prop}{v:Value}{sz:Nat}{cs:List V}(h:aO w H v (.l sz cs)):∃a n c,v= .slice a n c:=by
 obtain⟨a,n,cap,_,_,_,rfl,_⟩:=(Rep.up (ov:=fun _=>none) h).l_;exact⟨a,n,cap,rfl⟩
theorem JH{w:World}{B e n c k:Nat}{p:Nat}{xs:List Value}(h:w.ownsRow B e 1 (.slice (some ⟨p,0,none⟩) (n+k) c) (n+k) xs):w.ownsRow B e 1 (.slice (some ⟨p,0,none⟩) n c) n (xs.take n):=by
 rcases h.2 with ⟨h1,_⟩|⟨g,cap,cur,e1,h1,h2,h3,h4,h5,h6⟩
 ·cases h1
 ·cases e1;refine⟨by rw[List.length_take,h.1];omega,.inr ⟨_,_,cur,rfl,h1,h2,om,h4,h5,?_⟩⟩;rw[←h6,List.take_take];congr 1;omega
theorem EU{v:Value}{L:List Value}(h:EG L)(hx:∀u q,u∈L→v.ownBlock=some q→u.ownBlock≠some q):EG (v::L):=
 x_ (uU v) h fun z u q hz hu hq=>by rw[List.mem_singleton.1 hz]at hq;exact hx u q hu hq
end
section
open Go Go.RowKit Go.Proofs Ab
theorem iw{listed:Array Bool}{i j:Nat}(d:Bool):(listed.setIfInBounds i true).getD j d=if i=j∧i<listed.size then true else listed.getD j d:=by
 by_cases hij:i=j
 ·subst hij;by_cases hs:i<listed.size
  ·simp[hs]
  ·simp[hs]
 ·rw[if_neg (fun h=>hij h.1)];simp only[Array.getD_eq_getD_getElem?,Array.getElem?_setIfInBounds_ne hij]
def EW(m n:Nat):Array Bool:=((List.range m).map fun j=>decide (j<n)).toArray
def wt(l:List Oper)(n i:Nat):Nat→Nat→Bool
 |0,t=>Region.waitsFor .any l.toArray t i
 |f+1,t=>Region.waitsFor .any l.toArray t i||(List.range n).any fun m=>Region.waitsFor .any l.toArray t m&&wt l n i f m
def rC(l:List Oper)(n:Nat):Bool:=
 decide (n<l.length)&&((List.range n).all fun i=>((l[i]?).map fun o=>o.dst != some 0&&(o.after.all fun e=>!Region.binds .any e||decide (e.on<i))&&((List.range n).all fun j=>decide (i=j)||((l[j]?).map fun p=>p.dst.isNone||p.dst != o.dst).getD false)).getD false)&&
 ((List.range l.length).all fun t=>decide (t<n)||((List.range l.length).any fun m=>decide (n≤m)&&Region.waitsFor .any l.toArray t m)||((List.range n).all fun i=>wt l n i 5 t))&&Region.seqB .any l.toArray (l.length-n) n (EW l.length n)
theorem EX{l:List Oper}{n:Nat}(h:rC l n=true):n<l.length:=by
 simp only[rC,Bool.and_eq_true,decide_eq_true_eq]at h;exact h.1.1.1
theorem L6{l:List Oper}{n:Nat}(h:rC l n=true):Region.seqB .any l.toArray (l.length-n) n (EW l.length n)=true:=by
 simp only[rC,Bool.and_eq_true]at h;exact h.2
theorem zV{l:List Oper}{n i:Nat}(h:rC l n=true)(hi:i<n):∃o,l[i]? =some o∧(∀e,e∈o.after→Region.binds .any e=true→e.on<i)∧∀d,o.dst=some d→d≠0∧∀j p,j<n→i≠j→l[j]? =some p→p.dst≠some d:=by
 have hn:=EX h;simp only[rC,Bool.and_eq_true]at h;have h1:=List.all_eq_true.1 h.1.1.2 i (List.mem_range.2 hi);have hg:l[i]? =some l[i]:=List.getElem?_eq_getElem om;rw[hg]at h1;simp only[Option.map_some,Option.getD_some,Bool.and_eq_true]at h1;obtain⟨⟨h3,h4⟩,h5⟩:=h1;refine⟨l[i],hg,fun e he hb=>by
  have h7:=Array.all_eq_true_iff_forall_mem.1 h4 e he;rw[hb]at h7;simpa using h7,fun d hd=>⟨fun h0=>?_,fun j p hj hij hp=>?_⟩⟩
 ·rw[hd,h0]at h3;simp at h3
 have h6:=List.all_eq_true.1 h5 j (List.mem_range.2 hj);rw[hp]at h6;simp only[Bool.or_eq_true,decide_eq_true_eq,Option.map_some,Option.getD_some,bne_iff_ne,ne_eq]at h6;rcases h6 with h6|h6|h6
 ·exact absurd h6 hij
 ·intro h8;rw[h8]at h6;cases h6
 ·rw[hd]at h6;exact h6
theorem Ik{l:List Oper}{n t i:Nat}(h:rC l n=true)(ht:n≤t)(htl:t<l.length)(hi:i<n):(∃m,n≤m∧m<l.length∧Region.waitsFor .any l.toArray t m=true)∨wt l n i 5 t=true:=by
 simp only[rC,Bool.and_eq_true]at h;have h1:=List.all_eq_true.1 h.1.2 t (List.mem_range.2 htl);simp only[Bool.or_eq_true,decide_eq_true_eq]at h1;rcases h1 with (h1|h1)|h1
 ·omega
 ·obtain⟨m,hm,hw⟩:=List.any_eq_true.1 h1;simp only[Bool.and_eq_true,decide_eq_true_eq]at hw;exact .inl ⟨m,hw.1,List.mem_range.1 hm,hw.2⟩
 ·exact .inr (List.all_eq_true.1 h1 i (List.mem_range.2 hi))
theorem RD{listed:Array Bool}{m n:Nat}(hs:listed.size=m)(h1:∀j,j<n→listed.getD j true=true)(h2:∀j,n≤j→j<m→listed.getD j true=false):listed=EW m n:=by
 refine Array.ext (by simp[EW,hs]) fun j h3 h4=>?_
 have e:listed.getD j true=listed[j]:=by simp[h3]
 rw[←e];simp only[EW,List.getElem_toArray,List.getElem_map,List.getElem_range];by_cases h:j<n
 ·rw[h1 j h,decide_eq_true h]
 ·rw[h2 j om om,decide_eq_false h]
def jS(l:List Oper)(i:Nat):Nat:=((l[i]?).bind fun o=>o.dst).getD 0
structure HI(L:World→World→Prop)(l:List Oper)(n N:Nat)(a0:Act)(w0:World)(Φ:Nat→Value→World→Prop)(bk:Nat→Value→Option Nat)(listed:Array Bool)(a:Act)(w:World):Prop where
 ls:listed.size=l.length
 tl:∀t,n≤t→t<l.length→listed.getD t true=false
 sz:a.tmps.size=N
 df:a.defers=a0.defers
 bel:L w0 w
 old:∀t,(∀j,j<n→jS l j≠t)→a.tmps.getD t undef=a0.tmps.getD t undef
 val:∀j,j<n→listed.getD j true=true→Φ j (a.tmps.getD (jS l j) undef) w
 cl:∀j o e,j<n→listed.getD j true=true→l[j]? =some o→e∈o.after→Region.binds .any e=true→listed.getD e.on true=true
 sep:∀i j q,i<n→j<n→i≠j→listed.getD i true=true→listed.getD j true=true→bk i (a.tmps.getD (jS l i) undef)=some q→bk j (a.tmps.getD (jS l j) undef)≠some q
theorem JI{listed:Array Bool}{k:Nat}{d:Bool}(h:listed.getD k d=true):listed.getD k true=true:=by
 by_cases hk:k<listed.size
 ·simp[hk]at h ⊢;exact h
 ·simp[hk]
theorem L_{l:List Oper}{n k:Nat}{listed:Array Bool}(hcl:∀j o e,j<n→listed.getD j true=true→l[j]? =some o→e∈o.after→Region.binds .any e=true→listed.getD e.on true=true):∀(f t:Nat) (o:Oper),l[t]? =some o→(∀e,e∈o.after→Region.binds .any e=true→listed.getD e.on true=true)→wt l n k f t=true→listed.getD k true=true:=by
 have dir:∀(t m:Nat) (o:Oper),l[t]? =some o→(∀e,e∈o.after→Region.binds .any e=true→listed.getD e.on true=true)→Region.waitsFor .any l.toArray t m=true→listed.getD m true=true:=fun t m o ho h hw=>by
  obtain⟨oj,hoj,e,he,hb,hon⟩:=Region.waitsFor_spec hw;rw[List.getElem?_toArray]at hoj;obtain rfl:oj=o:=Option.some.inj (hoj.symm.trans ho);rw[←hon];exact h e he hb
 intro f;induction f with
 |zero=>exact fun t o ho h hw=>dir t k o ho h hw
 |succ f ih=>
  intro t o ho h hw;simp only[wt,Bool.or_eq_true]at hw;rcases hw with hw|hw
  ·exact dir t k o ho h hw
  ·obtain⟨m,hm,hw2⟩:=List.any_eq_true.1 hw;simp only[Bool.and_eq_true]at hw2;have hmn:=List.mem_range.1 hm;have hml:=dir t m o ho h hw2.1;cases hg:l[m]? with
   |some p=>exact ih m p hg (fun e he hb=>hcl m p e hmn hml hg he hb) hw2.2
   |none=>
    exfalso;have hn2:=hw2.2;have:∀f,wt l n k f m=false:=fun f=>by
     have h0:∀i,Region.waitsFor .any l.toArray m i=false:=fun i=>by
      cases hwf:Region.waitsFor .any l.toArray m i with
      |false=>rfl
      |true=>
       obtain⟨oj,hoj,_⟩:=Region.waitsFor_spec hwf;rw[List.getElem?_toArray,hg]at hoj;cases hoj
     cases f with
     |zero=>exact h0 k
     |succ f=>simp[wt,h0]
    rw[this]at hn2;cases hn2
def unl(n:Nat)(listed:Array Bool):Nat:=((List.range n).filter fun i=>!listed.getD i true).length
def RF(l:List Oper)(n:Nat):Bool:=rC l n&&((List.range n).all fun i=>((l[i]?).map fun o=>o.dst.isSome).getD false)
theorem or_if{c:Prop}[Decidable c]{A B C:Prop}(h:if c then A else C):if c then A∨B else C:=by
 by_cases hc:c
 ·rw[if_pos hc]at h ⊢;exact .inl h
 ·rw[if_neg hc]at h ⊢;exact h
theorem BD{o:Oper}{ops:Array Oper}{tmps:Array Value}{j d N:Nat}{b want:Bool}(hg:o.guard=some (j,want))(hd:(ops[j]?).bind (·.dst)=some d)(hs:tmps.size=N)(h:tmps.getD d undef= .bool b)(hdN:d<N):Region.wanted o (yielded ops tmps)=(b==want):=by
 have hv:tmps[d]? =some (.bool b):=by
  have hl:d<tmps.size:=om;rw[Array.getElem?_eq_getElem hl];simp only[Array.getD_eq_getD_getElem?,Array.getElem?_eq_getElem hl,Option.getD_some]at h;rw[h]
 unfold Region.wanted;rw[hg];simp only[yielded,hd,Option.bind_some,hv];cases b<;>cases want<;>rfl
theorem uV{o:Oper}{ops:Array Oper}{tmps:Array Value}{j d N:Nat}{b want:Bool}{X Y:Prop}(hg:o.guard=some (j,want))(hd:(ops[j]?).bind (·.dst)=some d)(hs:tmps.size=N)(h:tmps.getD d undef= .bool b)(hdN:d<N)(hb:(b==want)=true)(hX:X):if Region.wanted o (yielded ops tmps)then X else Y:=by
 rw[BD hg hd hs h hdN,if_pos hb];exact hX
theorem uX{o:Oper}{ops:Array Oper}{tmps:Array Value}{j d N:Nat}{b want:Bool}{X Y:Prop}(hg:o.guard=some (j,want))(hd:(ops[j]?).bind (·.dst)=some d)(hs:tmps.size=N)(h:tmps.getD d undef= .bool b)(hdN:d<N)(hb:(b==want)=false)(hY:Y):if Region.wanted o (yielded ops tmps)then X else Y:=by
 rw[BD hg hd hs h hdN,if_neg (by rw[hb];decide)];exact hY
theorem bP{o:Oper}{y:Nat→Option Bool}{X Y:Prop}(hg:o.guard=none)(hX:X):if Region.wanted o y then X else Y:=by
 rw[if_pos (by unfold Region.wanted;rw[hg])];exact hX
def headB(l:List Oper)(n:Nat):Bool:=RF l n&&((List.range n).all fun i=>((l[i]?).map fun o=>o.guard.isNone).getD false)
theorem uf(I:Array Bool→Act→World→Prop)(L:World→World→Prop)(hL0:∀w,L w {w with drawn:=w.drawn+1})(hLt:∀a b c,L a b→L b c→L a c){P:Program}{id:Nat}{l:List Oper}{Q:Exit→Act→World→Prop}{n N:Nat}{a0:Act}{w:World}(Φ:Nat→Value→World→Prop)(bk:Nat→Value→Option Nat)(hm:P.follows .mixedOrders=true)(hB:rC l n=true)(hz:a0.tmps.size=N)(hN:((List.range n).all fun i=>decide (jS l i<N))=true)
 (hst:∀i v w w',i<n→Φ i v w→L w w'→Φ i v w') (hbk:∀i v w q,i<n→Φ i v w→bk i v=some q→q<w.heap.size)
 (hno:∀i o v v' w,i<n→l[i]? =some o→o.dst=none→Φ i v w→Φ i v' w∧bk i v'=none)
 (hI0:I (Array.replicate l.length false) a0 {w with drawn:=w.drawn+1})
 (hstep:∀i o a w1 listed,i<n→l[i]? =some o→listed.size=l.length→listed.getD i true=false→(∀e,e∈o.after→Region.binds .any e=true→listed.getD e.on true=true)→I listed a w1→a.tmps.size=N→L w w1→(∀t,(∀j,j<n→jS l j≠t)→a.tmps.getD t undef=a0.tmps.getD t undef)→(∀e,e∈o.after→Region.binds .any e=true→Φ e.on (a.tmps.getD (jS l e.on) undef) w1)→
   ∀K:Act→World→Prop,(∀v w',Φ i v w'→L w1 w'→(∀q,bk i v=some q→w1.heap.size≤q)→I (listed.setIfInBounds i true) (a.put o.dst v) w'→K (a.put o.dst v) w')→if Region.wanted o (yielded l.toArray a.tmps)then o.wp P a w1 K Q else K (a.put o.dst undef) w1)
 (hfin:∀a w1 listed,(∀j,j<n→listed.getD j true=true)→I listed a w1→a.tmps.size=N→a.defers=a0.defers→L w w1→(∀t,(∀j,j<n→jS l j≠t)→a.tmps.getD t undef=a0.tmps.getD t undef)→(∀j,j<n→Φ j (a.tmps.getD (jS l j) undef) w1)→(∀i j q,i<n→j<n→i≠j→bk i (a.tmps.getD (jS l i) undef)=some q→bk j (a.tmps.getD (jS l j) undef)≠some q)→wpList P l.toArray Q (l.drop n) a w1):(Code.region id l.toArray true).wp P Q a0 w:=by
 have hnl:=EX hB
 have hseq:=L6 hB
 have dl:∀i o d,l[i]? =some o→o.dst=some d→jS l i=d:=fun i o d h1 h2=>by simp[jS,h1,h2]
 have key:∀(c:Nat) (listed:Array Bool) (a:Act) (w1:World),unl n listed=c→HI L l n N a0 w Φ bk listed a w1→I listed a w1→wpAny P .any l.toArray Q (c+(l.length-n)) listed a w1:=by
  intro c;induction c with
  |zero=>
   intro listed a w1 hc I hI;have all:∀j,j<n→listed.getD j true=true:=fun j hj=>by
    cases hl:listed.getD j true with
    |true=>rfl
    |false=>
     have hm:j∈(List.range n).filter fun i=>!listed.getD i true:=List.mem_filter.2 ⟨List.mem_range.2 hj,by rw[hl];rfl⟩
     rw[List.eq_nil_of_length_eq_zero hc]at hm;cases hm
   have e:=RD I.ls all I.tl;have:=wpAny_of_seq (md:= .any) (Q':=Q) (l.drop n) n listed a w1 (fun j=>by simp[List.getElem?_drop]) (by rw[List.length_drop,e];exact hseq) (hfin a w1 listed all hI I.sz I.df I.bel I.old (fun j hj=>I.val j hj (all j hj)) fun i j q hi hj hij=>I.sep i j q hi hj hij (all i hi) (all j hj));rw[List.length_drop]at this;rw[Nat.zero_add];exact this
  |succ c ih=>
   intro listed a w1 hc I hI;have hex:∃i,i<n∧listed.getD i true=false:=by
    have hne:(List.range n).filter (fun i=>!listed.getD i true)≠[]:=fun h=>by
     unfold unl at hc;rw[h]at hc;cases hc
    obtain⟨i,hi⟩:=List.exists_mem_of_ne_nil _ hne;obtain⟨h1,h2⟩:=List.mem_filter.1 hi;exact⟨i,List.mem_range.1 h1,by cases h:listed.getD i true with
     |false=>rfl
     |true=>rw[h]at h2;cases h2⟩
   have hlt:∀i,i∈Region.ready .any l.toArray listed→i<n:=fun i hi=>by
    obtain⟨h1,o,h2,h3⟩:=mem_ready.1 hi;have hil:i<l.length:=by have:=(Array.getElem?_eq_some_iff.1 h2).1;simpa using this
    refine Nat.lt_of_not_le fun hni=>?_
    obtain⟨k,hk,hku⟩:=hex;rcases Ik hB hni hil hk with ⟨m,hm,hml,hw⟩|hw
    ·obtain⟨oj,hoj,e,he,hb,hon⟩:=Region.waitsFor_spec hw;obtain rfl:oj=o:=Option.some.inj (hoj.symm.trans h2);have h5:=JI (h3 e he hb);rw[hon,I.tl m hm hml]at h5;cases h5
    ·have h5:=L_ I.cl 5 i o (by rw[List.getElem?_toArray]at h2;exact h2) (fun e he hb=>JI (h3 e he hb)) hw;rw[hku]at h5;cases h5
   have hrd:Region.ready .any l.toArray listed≠[]:=fun h=>by
    have:∀j,j<n→listed.getD j true=true:=fun j=>by
     induction j using Nat.strongRecOn with
     |_ j ihj=>
      intro hj;cases hl:listed.getD j true with
      |true=>rfl
      |false=>
       obtain⟨o,ho,hbk',_⟩:=zV hB hj;have hm:j∈Region.ready .any l.toArray listed:=by
        refine mem_ready.2 ⟨hl,o,by rw[List.getElem?_toArray];exact ho,fun e he hb=>?_⟩;have h1:=hbk' e he hb;have h2:=ihj e.on h1 om;have hs:=I.ls;simp only[Array.getD_eq_getD_getElem?,Array.getElem?_eq_getElem (show e.on<listed.size by omega),Option.getD_some]at h2 ⊢;exact h2
       rw[h]at hm;cases hm
    obtain⟨i,hi,hu⟩:=hex;rw[this i hi]at hu;cases hu
   rw[show c+1+(l.length-n)=(c+(l.length-n))+1 from om];refine⟨fun h=>absurd h hrd,fun i hi=>?_⟩;have hin:=hlt i hi;obtain⟨h1,o,h2,h3⟩:=mem_ready.1 hi;rw[List.getElem?_toArray]at h2;obtain⟨o',ho',hba,hdd'⟩:=zV hB hin;have:o'=o:=Option.some.inj (ho'.symm.trans h2);subst this;have hs:=I.ls;have lt:∀e,e∈o'.after→Region.binds .any e=true→listed.getD e.on true=true:=fun e he hb=>by
    have h4:=h3 e he hb;have h5:=hba e he hb;simp only[Array.getD_eq_getD_getElem?,Array.getElem?_eq_getElem (show e.on<listed.size by omega),Option.getD_some]at h4 ⊢;exact h4
   unfold wpOp;rw[List.getElem?_toArray];simp only[ho'];refine or_if (hstep i o' a w1 listed hin ho' hs h1 lt hI I.sz I.bel I.old (fun e he hb=>I.val e.on (by have:=hba e he hb;omega) (lt e he hb)) _ fun v w' hv hbw hnew hI'=>ih _ _ _ ?_ ?_ hI')
   ·have hx:unl n (listed.setIfInBounds i true)+1=unl n listed:=by
     unfold unl;have:∀L:List Nat,L.Nodup→i∈L→(L.filter fun j=>!(listed.setIfInBounds i true).getD j true).length+1=(L.filter fun j=>!listed.getD j true).length:=by
      intro L;induction L with
      |nil=>intro _ h;cases h
      |cons z L ihL=>
       intro hnd hm;have hnd':=List.nodup_cons.1 hnd;rcases List.mem_cons.1 hm with rfl|hm
       ·have e1:(!(listed.setIfInBounds i true).getD i true)=false:=by rw[iw,if_pos ⟨rfl,om⟩];rfl
        have e2:(!listed.getD i true)=true:=by rw[h1];rfl
        have e3:(L.filter fun j=>!(listed.setIfInBounds i true).getD j true)=L.filter fun j=>!listed.getD j true:=List.filter_congr fun j hj=>by
         rw[iw,if_neg (fun h:i=j∧i<listed.size=>hnd'.1 (h.1▸hj))]
        simp only[List.filter_cons,e1,e2,e3,if_true,Bool.false_eq_true,if_false,List.length_cons]
       ·have hzi:i≠z:=fun h=>hnd'.1 (h▸hm)
        have ih2:=ihL hnd'.2 hm;have e1:(!(listed.setIfInBounds i true).getD z true)=!listed.getD z true:=by rw[iw,if_neg (fun h=>hzi h.1)]
        simp only[List.filter_cons,e1];split
        ·simp only[List.length_cons];omega
        ·exact ih2
     exact this _ List.nodup_range (List.mem_range.2 hin)
    omega
   ·have lm:∀k,listed.getD k true=true→(listed.setIfInBounds i true).getD k true=true:=fun k hk=>by rw[iw];split<;>first|rfl|exact hk
    have ln:∀j,j≠i→(listed.setIfInBounds i true).getD j true=listed.getD j true:=fun j hj=>by rw[iw,if_neg (fun h=>hj h.1.symm)]
    have wB:L w w':=hLt _ _ _ I.bel hbw;cases hd:o'.dst with
    |none=>
     obtain⟨h7,h8⟩:Φ i (a.tmps.getD (jS l i) undef) w'∧bk i (a.tmps.getD (jS l i) undef)=none:=hno i o' v _ w' hin ho' hd hv;refine⟨by simp[hs],fun t ht htl=>by rw[ln t om];exact I.tl t ht htl,I.sz,I.df,wB,I.old,fun j hj hjl=>?_,fun j p e hj hjl hp he hb=>?_,fun x y q hx hy hxy hlx hly=>?_⟩
     ·by_cases hij:j=i
      ·subst hij;exact h7
      ·rw[ln j hij]at hjl;exact hst j _ _ _ hj (I.val j hj hjl) hbw
     ·by_cases hij:j=i
      ·subst hij;obtain rfl:p=o':=Option.some.inj (hp.symm.trans ho');exact lm _ (lt e he hb)
      ·rw[ln j hij]at hjl;exact lm _ (I.cl j p e hj hjl hp he hb)
     ·by_cases hxi:x=i
      ·subst hxi;intro hq;rw[show(a.put none v)=a from rfl,h8]at hq;cases hq
      ·rw[ln x hxi]at hlx;by_cases hyi:y=i
       ·subst hyi;intro _ hq;rw[show(a.put none v)=a from rfl,h8]at hq;cases hq
       ·rw[ln y hyi]at hly;exact I.sep x y q hx hy hxy hlx hly
    |some d=>
     obtain⟨hd0,hdd⟩:=hdd' d hd;have hdi:jS l i=d:=dl i o' d ho' hd;have hdN:d<N:=by
      have:=List.all_eq_true.1 hN i (List.mem_range.2 hin);rw[hdi]at this;exact of_decide_eq_true this
     have hne:∀j,j<n→i≠j→jS l j≠d:=fun j hj hij=>by
      obtain⟨p,hp,_,_⟩:=zV hB hj;have h3:=hdd j p hj hij hp;cases hpd:p.dst with
      |none=>rw[show jS l j=0 by simp[jS,hp,hpd]];exact Ne.symm hd0
      |some dj=>
       rw[dl j p dj hp hpd];intro h;exact h3 (by rw[hpd,h])
     have hput:(a.put (some d) v).tmps=a.tmps.setIfInBounds d v:=rfl;have gi:(a.put (some d) v).tmps.getD d undef=v:=by rw[hput];exact aC (by rw[I.sz];exact hdN)
     have gn:∀t,t≠d→(a.put (some d) v).tmps.getD t undef=a.tmps.getD t undef:=fun t ht=>by rw[hput];exact ae (Ne.symm ht)
     refine⟨by simp[hs],fun t ht htl=>by rw[ln t om];exact I.tl t ht htl,by rw[hput];simp[I.sz],I.df,wB,fun t ht=>?_,fun j hj hjl=>?_,fun j p e hj hjl hp he hb=>?_,fun x y q hx hy hxy hlx hly=>?_⟩
     ·have:t≠d:=fun h=>ht i hin (by rw[hdi,h])
      rw[gn t this];exact I.old t ht
     ·by_cases hij:j=i
      ·subst hij;rw[hdi,gi];exact hv
      ·rw[ln j hij]at hjl;rw[gn _ (hne j hj (Ne.symm hij))];exact hst j _ _ _ hj (I.val j hj hjl) hbw
     ·by_cases hij:j=i
      ·subst hij;obtain rfl:p=o':=Option.some.inj (hp.symm.trans ho');exact lm _ (lt e he hb)
      ·rw[ln j hij]at hjl;exact lm _ (I.cl j p e hj hjl hp he hb)
     ·by_cases hxi:x=i
      ·subst hxi;have hyx:y≠x:=Ne.symm hxy;rw[ln y hyx]at hly;rw[hdi,gi,gn _ (hne y hy hxy)];intro hq hq2;have:=hnew q hq;have:=hbk y _ _ q hy (I.val y hy hly) hq2;omega
      ·rw[ln x hxi]at hlx;by_cases hyi:y=i
       ·subst hyi;rw[hdi,gi,gn _ (hne x hx (Ne.symm hxi))];intro hq hq2;have:=hnew q hq2;have:=hbk x _ _ q hx (I.val x hx hlx) hq;omega
       ·rw[ln y hyi]at hly;rw[gn _ (hne x hx (Ne.symm hxi)),gn _ (hne y hy (Ne.symm hyi))];exact I.sep x y q hx hy hxy hlx hly
 refine wp_region_any hm ?_
 have e0:∀j,(Array.replicate l.length false).getD j true=decide (¬j<l.length):=fun j=>by
  by_cases h:j<l.length
  ·simp[h]
  ·simp[h]
 have c0:unl n (Array.replicate l.length false)=n:=by
  unfold unl;rw[List.filter_eq_self.2 fun j hj=>by rw[e0,decide_eq_false (by have:=List.mem_range.1 hj;omega)];rfl,List.length_range]
 have:=key n (Array.replicate l.length false) a0 {w with drawn:=w.drawn+1} c0 ⟨sy,fun t _ htl=>(by rw[e0];exact decide_eq_false om),hz,rfl,hL0 _,fun _ _=>rfl,fun j hj hl=>(by
  rw[e0,decide_eq_false om]at hl;cases hl),fun j p e hj hl=>(by
  rw[e0,decide_eq_false om]at hl;cases hl),fun i j q hi _ _ hl=>(by
  rw[e0,decide_eq_false om]at hl;cases hl)⟩ hI0
 rw[show n+(l.length-n)=l.toArray.size from by simp;omega]at this
 have hr:Array.replicate l.toArray.size false=Array.replicate l.length false:=sy
 rw[hr]
 exact this
theorem zW(L:World→World→Prop)(hL0:∀w,L w {w with drawn:=w.drawn+1})(hLt:∀a b c,L a b→L b c→L a c){P:Program}{id:Nat}{l:List Oper}{Q:Exit→Act→World→Prop}{n N:Nat}{a0:Act}{w:World}(Φ:Nat→Value→World→Prop)(bk:Nat→Value→Option Nat)(hm:P.follows .mixedOrders=true)(hB:rC l n=true)(hz:a0.tmps.size=N)(hN:((List.range n).all fun i=>decide (jS l i<N))=true)
 (hst:∀i v w w',i<n→Φ i v w→L w w'→Φ i v w') (hbk:∀i v w q,i<n→Φ i v w→bk i v=some q→q<w.heap.size)
 (hno:∀i o v v' w,i<n→l[i]? =some o→o.dst=none→Φ i v w→Φ i v' w∧bk i v'=none)
 (hstep:∀i o a w1,i<n→l[i]? =some o→a.tmps.size=N→L w w1→(∀t,(∀j,j<n→jS l j≠t)→a.tmps.getD t undef=a0.tmps.getD t undef)→(∀e,e∈o.after→Region.binds .any e=true→Φ e.on (a.tmps.getD (jS l e.on) undef) w1)→
   ∀K:Act→World→Prop,(∀v w',Φ i v w'→L w1 w'→(∀q,bk i v=some q→w1.heap.size≤q)→K (a.put o.dst v) w')→if Region.wanted o (yielded l.toArray a.tmps)then o.wp P a w1 K Q else K (a.put o.dst undef) w1)
 (hfin:∀a w1,a.tmps.size=N→a.defers=a0.defers→L w w1→(∀t,(∀j,j<n→jS l j≠t)→a.tmps.getD t undef=a0.tmps.getD t undef)→(∀j,j<n→Φ j (a.tmps.getD (jS l j) undef) w1)→(∀i j q,i<n→j<n→i≠j→bk i (a.tmps.getD (jS l i) undef)=some q→bk j (a.tmps.getD (jS l j) undef)≠some q)→wpList P l.toArray Q (l.drop n) a w1):(Code.region id l.toArray true).wp P Q a0 w:=
 uf (fun _ _ _=>True) L hL0 hLt Φ bk hm hB hz hN hst hbk hno trivial (fun i o a w1 _ hi ho _ _ _ _ h1 h2 h3 h4 K hK=>hstep i o a w1 hi ho h1 h2 h3 h4 K fun v w' p q r=>hK v w' p q r trivial) fun a w1 _ _ _=>hfin a w1
theorem ug{P:Program}{id:Nat}{l:List Oper}{Q:Exit→Act→World→Prop}{n N:Nat}{a0:Act}{w:World}(Φ:Nat→Value→World→Prop)(bk:Nat→Value→Option Nat)(hm:P.follows .mixedOrders=true)(hB:RF l n=true)(hz:a0.tmps.size=N)(hN:((List.range n).all fun i=>decide (jS l i<N))=true)
 (hst:∀i v w w',i<n→Φ i v w→Below w.heap.size w w'→Φ i v w') (hbk:∀i v w q,i<n→Φ i v w→bk i v=some q→q<w.heap.size)
 (hstep:∀i o a w1,i<n→l[i]? =some o→a.tmps.size=N→Below w.heap.size w w1→(∀t,(∀j,j<n→jS l j≠t)→a.tmps.getD t undef=a0.tmps.getD t undef)→(∀e,e∈o.after→Region.binds .any e=true→Φ e.on (a.tmps.getD (jS l e.on) undef) w1)→
   ∀K:Act→World→Prop,(∀v w',Φ i v w'→Below w1.heap.size w1 w'→(∀q,bk i v=some q→w1.heap.size≤q)→K (a.put o.dst v) w')→if Region.wanted o (yielded l.toArray a.tmps)then o.wp P a w1 K Q else K (a.put o.dst undef) w1)
 (hfin:∀a w1,a.tmps.size=N→a.defers=a0.defers→Below w.heap.size w w1→(∀t,(∀j,j<n→jS l j≠t)→a.tmps.getD t undef=a0.tmps.getD t undef)→(∀j,j<n→Φ j (a.tmps.getD (jS l j) undef) w1)→(∀i j q,i<n→j<n→i≠j→bk i (a.tmps.getD (jS l i) undef)=some q→bk j (a.tmps.getD (jS l j) undef)≠some q)→wpList P l.toArray Q (l.drop n) a w1):(Code.region id l.toArray true).wp P Q a0 w:=by
 simp only[RF,Bool.and_eq_true]at hB
 refine zW (fun w w'=>Below w.heap.size w w') (fun w=>⟨rfl,rfl,rfl,Nat.le_refl _,fun _ _=>rfl⟩) (fun a b c h1 h2=>⟨h2.os.trans h1.os,h2.tape.trans h1.tape,h2.output.trans h1.output,Nat.le_trans h1.size h2.size,fun q hq=>(h2.block q (Nat.lt_of_lt_of_le hq h1.size)).trans (h1.block q hq)⟩) Φ bk hm hB.1 hz hN hst hbk (fun i o v v' w hi ho hd=>?_) hstep hfin
 have h5:=List.all_eq_true.1 hB.2 i (List.mem_range.2 hi)
 rw[ho]at h5
 simp only[Option.map_some,Option.getD_some]at h5
 rw[hd]at h5;cases h5
theorem fA{P:Program}{id:Nat}{l:List Oper}{Q:Exit→Act→World→Prop}{n N:Nat}{a0:Act}{w:World}(Φ:Nat→Value→World→Prop)(bk:Nat→Value→Option Nat)(hm:P.follows .mixedOrders=true)(hB:headB l n=true)(hz:a0.tmps.size=N)(hN:((List.range n).all fun i=>decide (jS l i<N))=true)
 (hst:∀i v w w',i<n→Φ i v w→Below w.heap.size w w'→Φ i v w') (hbk:∀i v w q,i<n→Φ i v w→bk i v=some q→q<w.heap.size)
 (hstep:∀i o a w1,i<n→l[i]? =some o→a.tmps.size=N→Below w.heap.size w w1→(∀t,(∀j,j<n→jS l j≠t)→a.tmps.getD t undef=a0.tmps.getD t undef)→(∀e,e∈o.after→Region.binds .any e=true→Φ e.on (a.tmps.getD (jS l e.on) undef) w1)→
   ∀K:Act→World→Prop,(∀v w',Φ i v w'→Below w1.heap.size w1 w'→(∀q,bk i v=some q→w1.heap.size≤q)→K (a.put o.dst v) w')→o.wp P a w1 K Q)
 (hfin:∀a w1,a.tmps.size=N→a.defers=a0.defers→Below w.heap.size w w1→(∀t,(∀j,j<n→jS l j≠t)→a.tmps.getD t undef=a0.tmps.getD t undef)→(∀j,j<n→Φ j (a.tmps.getD (jS l j) undef) w1)→(∀i j q,i<n→j<n→i≠j→bk i (a.tmps.getD (jS l i) undef)=some q→bk j (a.tmps.getD (jS l j) undef)≠some q)→wpList P l.toArray Q (l.drop n) a w1):(Code.region id l.toArray true).wp P Q a0 w:=by
 simp only[headB,Bool.and_eq_true]at hB
 refine ug Φ bk hm hB.1 hz hN hst hbk (fun i o a w1 hi ho h1 h2 h3 h4 K hK=>?_) hfin
 have h5:=List.all_eq_true.1 hB.2 i (List.mem_range.2 hi)
 rw[ho]at h5
 rw[if_pos (by unfold Region.wanted;rw[Option.isNone_iff_eq_none.1 h5])]
 exact hstep i o a w1 hi ho h1 h2 h3 h4 K hK
def RG(l:List Oper)(n:Nat):Bool:=
 decide (n≤l.length)&&((List.range n).all fun i=>((l[i]?).map fun o=>o.guard.isNone&&o.dst.isSome&&(o.after.all fun e=>!Region.binds .any e||decide (e.on<i))&&((List.range n).all fun j=>decide (i=j)||((l[j]?).map fun p=>p.dst != o.dst).getD false)).getD false)
theorem EY{l:List Oper}{n i:Nat}(h:RG l n=true)(hi:i<n):∃o d,l[i]? =some o∧o.guard=none∧o.dst=some d∧(∀e,e∈o.after→Region.binds .any e=true→e.on<i)∧∀j p,j<n→i≠j→l[j]? =some p→p.dst≠some d:=by
 simp only[RG,Bool.and_eq_true,decide_eq_true_eq]at h;have h1:=List.all_eq_true.1 h.2 i (List.mem_range.2 hi);have hg:l[i]? =some (l[i]' om):=List.getElem?_eq_getElem om;rw[hg]at h1;simp only[Option.map_some,Option.getD_some,Bool.and_eq_true,Option.isNone_iff_eq_none]at h1;obtain⟨⟨⟨h2,h3⟩,h4⟩,h5⟩:=h1;obtain⟨d,hd⟩:=Option.isSome_iff_exists.1 h3;refine⟨_,d,hg,h2,hd,fun e he hb=>by
  have h7:=Array.all_eq_true_iff_forall_mem.1 h4 e he;rw[hb]at h7;simpa using h7,fun j p hj hij hp=>?_⟩
 have h6:=List.all_eq_true.1 h5 j (List.mem_range.2 hj);rw[hp]at h6;simp only[Bool.or_eq_true,decide_eq_true_eq,Option.map_some,Option.getD_some,bne_iff_ne,ne_eq]at h6;rcases h6 with h6|h6
 ·exact absurd h6 hij
 ·rw[hd]at h6;exact h6
theorem rD{P:Program}{id:Nat}{l:List Oper}{Q:Exit→Act→World→Prop}{n N:Nat}{a0:Act}{w:World}(Φ:Nat→Value→World→Prop)(bk:Nat→Value→Option Nat)(_hm:P.follows .mixedOrders=true)(hB:RG l n=true)(hz:a0.tmps.size=N)(hN:((List.range n).all fun i=>decide (jS l i<N))=true)
 (hst:∀i v w w',i<n→Φ i v w→Below w.heap.size w w'→Φ i v w') (hbk:∀i v w q,i<n→Φ i v w→bk i v=some q→q<w.heap.size)
 (hstep:∀i o a w1,i<n→l[i]? =some o→a.tmps.size=N→Below w.heap.size w w1→(∀t,(∀j,j<n→jS l j≠t)→a.tmps.getD t undef=a0.tmps.getD t undef)→(∀e,e∈o.after→Region.binds .any e=true→Φ e.on (a.tmps.getD (jS l e.on) undef) w1)→
   ∀K:Act→World→Prop,(∀v w',Φ i v w'→Below w1.heap.size w1 w'→(∀q,bk i v=some q→w1.heap.size≤q)→K (a.put o.dst v) w')→o.wp P a w1 K Q)
 (hfin:∀a w1,a.tmps.size=N→a.defers=a0.defers→Below w.heap.size w w1→(∀t,(∀j,j<n→jS l j≠t)→a.tmps.getD t undef=a0.tmps.getD t undef)→(∀j,j<n→Φ j (a.tmps.getD (jS l j) undef) w1)→(∀i j q,i<n→j<n→i≠j→bk i (a.tmps.getD (jS l i) undef)=some q→bk j (a.tmps.getD (jS l j) undef)≠some q)→wpList P l.toArray Q (l.drop n) a w1):(Code.region id l.toArray false).wp P Q a0 w:=by
 have dl:∀i o d,l[i]? =some o→o.dst=some d→jS l i=d:=fun i o d h1 h2=>by simp[jS,h1,h2]
 have key:∀(c k:Nat) (a:Act) (w1:World),k+c=n→a.tmps.size=N→a.defers=a0.defers→Below w.heap.size w w1→(∀t,(∀j,j<n→jS l j≠t)→a.tmps.getD t undef=a0.tmps.getD t undef)→(∀j,j<k→Φ j (a.tmps.getD (jS l j) undef) w1)→(∀i j q,i<k→j<k→i≠j→bk i (a.tmps.getD (jS l i) undef)=some q→bk j (a.tmps.getD (jS l j) undef)≠some q)→wpList P l.toArray Q (l.drop k) a w1:=by
  intro c;induction c with
  |zero=>
   intro k a w1 hk h1 h2 h3 h4 h5 h6;obtain rfl:k=n:=om;exact hfin a w1 h1 h2 h3 h4 h5 h6
  |succ c ih=>
   intro k a w1 hk h1 h2 h3 h4 h5 h6;have hin:k<n:=om;obtain⟨o,d,ho,hg,hd,hba,hdd⟩:=EY hB hin;have hkl:k<l.length:=(List.getElem?_eq_some_iff.1 ho).1;have hdr:l.drop k=o::l.drop (k+1):=by
    rw[List.drop_eq_getElem_cons hkl];congr 1;rw[List.getElem?_eq_getElem hkl]at ho;exact Option.some.inj ho
   rw[hdr];refine BigFrame.wpList_want (by unfold Region.wanted;rw[hg]) fun K hK=>?_
   refine hstep k o a w1 hin ho h1 h3 h4 (fun e he hb=>h5 e.on (hba e he hb)) K fun v w' hv hbw hnew=>hK _ _ ?_
   have hdi:jS l k=d:=dl k o d ho hd;have hdN:d<N:=by
    have:=List.all_eq_true.1 hN k (List.mem_range.2 hin);rw[hdi]at this;exact of_decide_eq_true this
   have hne:∀j,j<n→k≠j→jS l j≠d:=fun j hj hij=>by
    obtain⟨p,dj,hp,_,hpd,_,_⟩:=EY hB hj;rw[dl j p dj hp hpd];intro h;exact hdd j p hj hij hp (by rw[hpd,h])
   have hput:(a.put o.dst v).tmps=a.tmps.setIfInBounds d v:=by rw[hd];rfl
   have gi:(a.put o.dst v).tmps.getD d undef=v:=by rw[hput];exact aC (by rw[h1];exact hdN)
   have gn:∀t,t≠d→(a.put o.dst v).tmps.getD t undef=a.tmps.getD t undef:=fun t ht=>by rw[hput];exact ae (Ne.symm ht)
   have wB:Below w.heap.size w w':=by
    have s1:=h3.size;have s2:=hbw.size;exact⟨hbw.os.trans h3.os,hbw.tape.trans h3.tape,hbw.output.trans h3.output,om,fun q hq=>(hbw.block q om).trans (h3.block q hq)⟩
   refine ih (k+1) _ w' om (by rw[hput];simp[h1]) (by rw[hd];exact h2) wB (fun t ht=>?_) (fun j hj=>?_) fun x y q hx hy hxy=>?_
   ·have:t≠d:=fun h=>ht k hin (by rw[hdi,h])
    rw[gn t this];exact h4 t ht
   ·by_cases hij:j=k
    ·subst hij;rw[hdi,gi];exact hv
    ·rw[gn _ (hne j om (Ne.symm hij))];exact hst j _ _ _ om (h5 j om) hbw
   ·by_cases hxi:x=k
    ·subst hxi;rw[hdi,gi,gn _ (hne y om hxy)];intro hq hq2;have:=hnew q hq;have:=hbk y _ _ q om (h5 y om) hq2;omega
    ·by_cases hyi:y=k
     ·subst hyi;rw[hdi,gi,gn _ (hne x om (Ne.symm hxi))];intro hq hq2;have:=hnew q hq2;have:=hbk x _ _ q om (h5 x om) hq;omega
     ·rw[gn _ (hne x om (Ne.symm hxi)),gn _ (hne y om (Ne.symm hyi))];exact h6 x y q om om hxy
 refine wp_region_lit ?_
 have:=key n 0 a0 w om hz rfl ⟨rfl,rfl,rfl,Nat.le_refl _,fun _ _=>rfl⟩ (fun _ _=>rfl) (fun j hj=>om) fun i j q hi=>om
 rw[List.drop_zero]at this
 exact this
end
section
open Go Go.RowKit Ab
def bz_DQ1:=an @wi (an @bI (an @Nat.div_one (an @Nat.mul_one (an @aU (an @gU (an @gQ (an @fK @dD)))))))
theorem wordO(a:List Nat)(w:Nat)(ha:Wd a)(hw0:0<w)(hw:w<18446744073709551616)(la:a.length≤1099511627776):
 aF Tryz.prog J0 71 [.l 1 (W a),.i .u64 (w:Int)] (.to 54 1 (W (dg B (nv B a/w))) [.i .u64 ((nv B a%w:Nat):Int),.i .i64 0]):=by
 have hno:=oJ (fl B a.length (nv B a/w)) (by rw[bC];omega)
 rw[sJ B2 (Nat.lt_of_le_of_lt (Nat.div_le_self _ _) (b_ ha))]at hno
 refine aF.mkt dB eY Tryz.func71 rfl (ac:=a71) (by kernel_rfl) rfl dc rfl dc ?_
 apply fE
 unfold a71
 simp only[ak,aH,qm,qr,qn]
 have MM:=Ep a w ha hw0 hw la
 refine tu (ai @aW @bz_DQ1) ?_
 exact⟨⟨_,_,rfl,rfl,rfl⟩,⟨rfl,rfl⟩,⟨rfl,rfl⟩,trivial⟩
end
section
open Go Go.RowKit Ab
def fB:=an @wi (an @bI (an @Nat.div_one (an @Nat.mul_one (an @aU (an @gU @gQ)))))
def twoK(A1 A2:List Nat)(s:St):Prop:=∃i j n m,i≠j∧s.get 4= .ow 1 i n∧s.get 5= .ow 1 j m∧s.ob i=some ⟨54,1,W A1,true,false⟩∧s.ob j=some ⟨54,1,W A2,true,false⟩
theorem Il(a b:List Nat)(ha:Wd a)(hb:Wd b)(la:a.length≤1000000000)(h2:2≤b.length)(hab:b.length≤a.length)(htop:b.getD (b.length-1) 0≠0):
 qi (aF Tryz.prog J0) (ik Tryz.prog) a72 (fun ex s=>(ex= .normal∨ex= .ret)∧twoK (dg B (nv B a/nv B b)) (dg B (nv B a%nv B b)) s) ⟨[(0,.l 1 (W a)),(1,.l 1 (W b))],[],0⟩:=by
 have hbt:=dI hb (b.length-1)
 obtain⟨n1,n2,n3⟩:=Vy hb om htop
 have hlz:=Bc (b.getD (b.length-1) 0) hbt
 have hs64:64-bl (b.getD (b.length-1) 0)≤64:=om
 have Ws:=Ej b ((64-bl (b.getD (b.length-1) 0):Nat):Int) hb om
 have hsha:=Ej a ((64-bl (b.getD (b.length-1) 0):Nat):Int) ha om
 rw[mV,if_neg om,bI]at Ws hsha
 have hA:=b_ ha
 have hsc:=AV (U:=nv B a) (y:=nv B b) (s:=64-bl (b.getD (b.length-1) 0))
 have Io:=Qk (s:=64-bl (b.getD (b.length-1) 0)) hab om hA n3
 have hAs:nv B a*2^(64-bl (b.getD (b.length-1) 0))<B^(a.length+1):=by
  have h64:2^(64-bl (b.getD (b.length-1) 0))≤B:=Nat.pow_le_pow_right (n:=2) dc hs64;rw[Nat.pow_succ];exact Nat.lt_of_lt_of_le ((Nat.mul_lt_mul_right (Nat.two_pow_pos _)).2 hA) (Nat.mul_le_mul_left _ h64)
 generalize 64-bl (b.getD (b.length-1) 0)=s at*
 obtain⟨n,hn⟩:∃n,n=b.length:=⟨_,rfl⟩
 obtain⟨m,hm⟩:∃m,m=a.length:=⟨_,rfl⟩
 obtain⟨Vs,hVs⟩:∃v,v=nv B b*2^s:=⟨_,rfl⟩
 obtain⟨As,hAe⟩:∃v,v=nv B a*2^s:=⟨_,rfl⟩
 rw[←hVs,←hn]at n1 n2
 rw[←hVs]at Ws hsc Io
 rw[←hAe]at hsha hsc hAs Io
 rw[←hm]at hAs Io
 rw[←hn]at Io
 have hvl:dg B Vs=fl B n Vs:=(I7 dc (.inr n1) n2).symm
 rw[hvl]at Ws
 have hupl:=vY (by decide:2≤B) hAs
 have hcat:[dg B As,List.replicate (m+1-(dg B As).length) 0].flatten=fl B (m+1) As:=by
  rw[←fl_pad hAs];simp
 have hcon:=Eu [dg B As,List.replicate (m+1-(dg B As).length) 0] sy (by rw[hcat,bC];omega)
 rw[hcat]at hcon
 have hlu:(fl B (m+1) As).length=m+1:=bC _ _
 have hlv:(fl B n Vs).length=n:=bC _ _
 have RH:((m:Int)+1-((dg B As).length:Int)).toNat=m+1-(dg B As).length:=om
 have hge:(0:Int)≤(m:Int)+1-((dg B As).length:Int):=om
 apply fE
 unfold a72
 simp only[ak,aH,qm,qr,qn]
 have hQ1:((m:Int)+1-(n:Int)).toNat=m+1-n:=om
 have hQ0:(0:Int)≤(m:Int)+1-(n:Int):=om
 repeat first|(refine hK _ ?_;clear hK K)|simp only[Sv,↓reduceIte,Nat.reduceEqDiff]|((first|refine aI (fun K hK=>?_)|refine aT (fun K hK=>?_)|refine aK (fun K hK=>?_));refine dn (ai @Bi (ai (Eq.symm hn) (ai @dD @fB))) ?_)
 refine pq _ _ (hlz) ?_ ?_
 ·exact Tv (ai @Bi (ai (Eq.symm hn) (ai @dD @fB)))
 refine dn (ai @Bi (ai (Eq.symm hn) (ai @dD @fB))) ?_
 repeat first|(refine hK _ ?_;clear hK K)|simp only[Sv,↓reduceIte,Nat.reduceEqDiff]|((first|refine aI (fun K hK=>?_)|refine aT (fun K hK=>?_)|refine aK (fun K hK=>?_));refine dn @fB ?_)
 refine pq _ _ (Ws) ?_ ?_
 ·exact Tv @fB
 refine dn @fB ?_
 repeat first|(refine hK _ ?_;clear hK K)|simp only[Sv,↓reduceIte,Nat.reduceEqDiff]|((first|refine aI (fun K hK=>?_)|refine aT (fun K hK=>?_)|refine aK (fun K hK=>?_));refine dn @fB ?_)
 refine pq _ _ (hsha) ?_ ?_
 ·exact Tv @fB
 refine dn @fB ?_
 repeat first|(refine hK _ ?_;clear hK K)|simp only[Sv,↓reduceIte,Nat.reduceEqDiff]|((first|refine aI (fun K hK=>?_)|refine aT (fun K hK=>?_)|refine aK (fun K hK=>?_));refine dn (ai @Eh (ai @RH (ai (Eq.symm hm) @fB))) ?_)
 refine pq _ _ (hcon) ?_ ?_
 ·exact Tv (ai @Eh (ai @RH (ai (Eq.symm hm) @fB)))
 refine dn (ai @Eh (ai @RH (ai (Eq.symm hm) @fB))) ?_
 try (refine hK _ ?_;clear hK K)
 refine aP (ai @Eh (ai @hQ1 (ai @hlu @fB))) ?_
 have hVn:0<Vs:=Nat.lt_of_lt_of_le (Nat.pow_pos dc) n1
 refine bD [] Nat (fun i=>⟨[(6,.i .i64 (n:Int)),(7,.i .i64 (s:Int)),(8,.l 1 (W (fl B n Vs))),(12,.ow 1 0 (m+1)),(13,.ow 1 1 (m+1-n)),(14,.i .i64 ((i:Int)-1))],
  [(0,some ⟨54,1,W (uL As Vs m n i),true,false⟩),(1,some ⟨54,1,W (qL As Vs (m+1-n) i),true,false⟩)],2⟩)
  (fun i=>i≤m+1-n) (fun i=>i) (m+1-n) (Nat.le_refl _) (by exact ni) (by
  refine iP trivial ?_
  refine⟨om,?_,?_⟩
  ·rw[←uL_top om Io]
  ·unfold qL;rw[Nat.sub_self,Nat.div_eq_of_lt Io];simp[fl]) ?_
 intro i hi Q' hQ he hr
 cases i with
 |zero=>
  have hu0:(uL As Vs m n 0).take n=fl B n (As%Vs):=by
   unfold uL;rw[Nat.pow_zero,Nat.div_one,fl,List.nil_append,List.take_append_of_le_length (by rw[bC];exact Nat.le_refl _),List.take_of_length_le (by rw[bC];exact Nat.le_refl _)]
  have hul:(uL As Vs m n 0).length=m+1:=by unfold uL;rw[List.length_append,List.length_append,bC,bC,List.length_replicate];omega
  have hq0:qL As Vs (m+1-n) 0=fl B (m+1-n) (As/Vs):=by unfold qL;rw[Nat.pow_zero,Nat.div_one];rfl
  have hRn:As%Vs<B^n:=Nat.lt_trans (Nat.mod_lt _ hVn) n2;have hQb:As/Vs<B^(m+1-n):=by
   refine(Nat.div_lt_iff_lt_mul hVn).2 ?_;rw[Nat.mul_comm];exact(Nat.div_lt_iff_lt_mul (Nat.pow_pos dc)).1 Io
  have hsh:=shrO (fl B n (As%Vs)) (s:Int) (jG dc _ _) (by rw[bC];omega) om;rw[xC,if_neg om,bI,kQ,Nat.mod_eq_of_lt hRn,hsc.2]at hsh;have hno:=oJ (fl B (m+1-n) (As/Vs)) (by rw[bC];omega);rw[sJ (by decide:2≤B) hQb]at hno;try (refine hK _ ?_;clear hK K)
  refine aP @fB ?_;refine he _ _ ?_;rw[hq0,←hsc.1];try (refine hK _ ?_;clear hK K)
  refine tu (ai @hu0 (ai @mJ (ai @hul @fB))) ?_;exact⟨.inr trivial,_,_,_,_,dc,rfl,rfl,rfl,rfl⟩
 |succ j=>
  have hj:(((j+1:Nat):Int)-1)=(j:Int):=om;have JQ:n≤1099511627776:=om;have hnm:n≤m+1-j:=om;have hjm:j+1+n≤m+1:=om;have hx:As/B^j%B<B:=Nat.mod_lt _ dc;have hR:As/B^(j+1)%Vs<Vs:=Nat.mod_lt _ hVn;have e0:As/B^j=As/B^j%B+B*(As/B^(j+1)):=by
   rw[Nat.pow_succ,←Nat.div_div_eq_div_mul];have:=Nat.div_add_mod (As/B^j) B;omega
  obtain⟨s1,s2,s3,s4⟩:=xg (V:=As/B^(j+1)) hVn hx;rw[←e0]at s1 s2 s3;rw[uL_win];have hUlt:As/B^(j+1)%Vs*B+As/B^j%B<Vs*B:=by
   have:=Nat.mul_le_mul_right B (show As/B^(j+1)%Vs+1≤Vs from hR);rw[Nat.add_mul,Nat.one_mul]at this;omega
  obtain⟨U,hU⟩:∃U,U=As/B^(j+1)%Vs*B+As/B^j%B:=⟨_,rfl⟩;rw[←hU]at s1 s3 s4 hUlt ⊢;have hX:(fl B j As).length=j:=bC _ _;have hAl:(fl B n U).length=n:=bC _ _;have hUB:U<B^n*B:=Nat.lt_of_lt_of_le hUlt (Nat.mul_le_mul_right B (Nat.le_of_lt n2));have htB:U/B^n<B:=(Nat.div_lt_iff_lt_mul (Nat.pow_pos dc)).2 (by rw[Nat.mul_comm];exact hUB);have Q7:U/B^n%B=U/B^n:=Nat.mod_eq_of_lt htB;obtain⟨k,hk⟩:∃k,n=k+2:=⟨n-2,om⟩;generalize hZ:List.replicate (m+1-(j+1)-n) 0=Z;have hZl:=congrArg List.length hZ;rw[List.length_replicate]at hZl;have w0:=xW (t:=U/B^n%B) (Z:=Z) hX hAl;have w1:=CJ (t:=U/B^n%B) (Z:=Z) hX hAl;have w2:=Je (t:=U/B^n%B) (Z:=Z) hX hAl (k:=n-1) om (i:=j+(n-1)) rfl;have w3:=Je (t:=U/B^n%B) (Z:=Z) hX hAl (k:=n-2) om (i:=j+(n-2)) rfl;have w4:=Jf (t:=U/B^n%B) (Z:=Z) hX hAl;rw[wH _ _ _ om]at w2 w3;have v1:=wH (b:=B) n Vs (n-1) om;have v2:=wH (b:=B) n Vs (n-2) om;have hn1:n-1=k+1:=om;have hn2:n-2=k:=om;rw[hn1]at w2 v1 n1;rw[hn2]at w3 v2;have ml:∀z:Nat,z%B<18446744073709551616:=fun z=>Nat.mod_lt z dc
  have hv1:Vs/B^(k+1)<B:=(Nat.div_lt_iff_lt_mul (Nat.pow_pos dc)).2 (by rw[←Nat.pow_succ',show(k+1).succ=n from om];exact n2);have hv1m:Vs/B^(k+1)%B=Vs/B^(k+1):=Nat.mod_eq_of_lt hv1;have q1:U/B^n%B≤Vs/B^(k+1)%B:=by
   rw[Q7,hv1m,hk,Nat.pow_succ,Nat.mul_comm,←Nat.div_div_eq_div_mul];refine Nat.div_le_div_right ?_;exact Nat.le_of_lt ((Nat.div_lt_iff_lt_mul dc).2 hUlt)
  have q2:0<Vs/B^(k+1)%B:=by
   rw[hv1m];exact(Nat.le_div_iff_mul_le (Nat.pow_pos dc)).2 (by rw[Nat.one_mul];exact n1)
  have gs:=He (U/B^n%B) (U/B^(k+1)%B) (U/B^k%B) (Vs/B^(k+1)%B) (Vs/B^k%B) q1 q2 (ml _) (ml _) (ml _) (ml _);have t1:(U/B^n%B*18446744073709551616+U/B^(k+1)%B)*18446744073709551616+U/B^k%B=U/B^k:=by
   rw[Q7,hk];exact kn_top
  have t2:Vs/B^(k+1)%B*18446744073709551616+Vs/B^k%B=Vs/B^k:=Vx (by rw[←hk];exact n2);rw[t1,t2]at gs;have hVk:B≤Vs/B^k:=(Nat.le_div_iff_mul_le (Nat.pow_pos dc)).2 (by rw[←Nat.pow_succ'];exact n1);obtain⟨kg1,kg2⟩:=Qg (Nat.pow_pos (by decide:0<B):0<B^k) hUlt hVk;have gB:min 18446744073709551615 (U/B^k/(Vs/B^k))<18446744073709551616:=om;obtain⟨g,hg⟩:∃g,g=min 18446744073709551615 (U/B^k/(Vs/B^k)):=⟨_,rfl⟩;rw[←hg]at gs gB;have kg1':U/Vs≤g:=by rw[hg];exact kg1
  have kg2':g≤U/Vs+1:=by rw[hg];exact kg2
  have hj0:(0:Int)≤(j:Int):=om;repeat first|(refine hK _ ?_;clear hK K)|simp only[Sv,↓reduceIte,Nat.reduceEqDiff]|((first|refine aI (fun K hK=>?_)|refine aT (fun K hK=>?_)|refine aK (fun K hK=>?_));refine dn (ai @Qw (ai @Bi (ai @hlv (ai @hn2 (ai @hn1 (ai @v2 (ai @v1 (ai @w3 (ai @w2 (ai @w1 (ai @dD (ai @zn (ai @zk (ai @kJ (ai @w0 (ai @hj0 (ai @hj @fB))))))))))))))))) ?_)
  refine pq _ _ (gs) ?_ ?_
  ·exact Tv (ai @Qw (ai @Bi (ai @hlv (ai @hn2 (ai @hn1 (ai @v2 (ai @v1 (ai @w3 (ai @w2 (ai @w1 (ai @dD (ai @zn (ai @zk (ai @kJ (ai @w0 (ai @hj0 (ai @hj @fB)))))))))))))))))
  refine dn (ai @Qw (ai @Bi (ai @hlv (ai @hn2 (ai @hn1 (ai @v2 (ai @v1 (ai @w3 (ai @w2 (ai @w1 (ai @dD (ai @zn (ai @zk (ai @kJ (ai @w0 (ai @hj0 (ai @hj @fB))))))))))))))))) ?_;have hvd:nv B (fl B n Vs)=Vs:=by rw[kQ,Nat.mod_eq_of_lt n2]
  have hms:=Em (fl B n U) (fl B n Vs) g (jG dc _ _) (jG dc _ _) gB om om;rw[hvd,kQ,hAl]at hms;obtain⟨m1,m2⟩:=ms_def (A:=U%B^n) (V:=Vs) (w:=g) (P:=B^n) (Nat.mod_lt _ (Nat.pow_pos dc));obtain⟨c,hc⟩:∃c,c=MN (U%B^n) Vs g (B^n):=⟨_,rfl⟩;rw[←hc]at hms m1 m2;obtain⟨o,ho⟩:∃o,o=U%B^n+B^n*c-Vs*g:=⟨_,rfl⟩;rw[←ho]at hms m1 m2;have hcg:=Qc n2 (Nat.mod_lt U (Nat.pow_pos dc)) m1 m2;obtain⟨ks1,ks2⟩:=kn_sub (Nat.mod_lt U (Nat.pow_pos dc)) (Nat.mod_add_div U (B^n)).symm n2 hVn kg1' kg2' m1 m2;have w5:=CO (t:=U/B^n%B) (Z:=Z) hX hAl;have hol:(fl B n o).length=n:=bC _ _;have hcop:=Qj (A:=fl B n U) (R:=fl B n o) (Z:=Z) (t:=U/B^n%B) hX (by rw[hAl,hol]);have w6:=xW (t:=U/B^n%B) (Z:=Z) hX hol;have w7:=CJ (t:=U/B^n%B) (Z:=Z) hX hol;have w8:=fun t'=>Jg (t:=U/B^n%B) (Z:=Z) hX hol t'
  repeat first|(refine hK _ ?_;clear hK K)|simp only[Sv,↓reduceIte,Nat.reduceEqDiff]|((first|refine aI (fun K hK=>?_)|refine aT (fun K hK=>?_)|refine aK (fun K hK=>?_));refine dn (ai @Nat.add_sub_cancel_left (ai @w5 (ai @mJ (ai @yQ (ai @w0 (ai @kJ (ai @hj @fB))))))) ?_)
  refine pq _ _ (hms) ?_ ?_
  ·exact Tv (ai @Nat.add_sub_cancel_left (ai @w5 (ai @mJ (ai @yQ (ai @w0 (ai @kJ (ai @hj @fB)))))))
  refine dn (ai @Nat.add_sub_cancel_left (ai @w5 (ai @mJ (ai @yQ (ai @w0 (ai @kJ (ai @hj @fB))))))) ?_;repeat first|(refine hK _ ?_;clear hK K)|simp only[Sv,↓reduceIte,Nat.reduceEqDiff]|((first|refine aI (fun K hK=>?_)|refine aT (fun K hK=>?_)|refine aK (fun K hK=>?_));refine dn (ai @w1 (ai @dD (ai @kJ (ai @w0 @fB)))) ?_)
  refine mg _ (Cf (U/B^n%B) c om) ?_;refine dn (ai @w1 (ai @dD (ai @kJ (ai @w0 @fB)))) ?_;have htk:(fl B n o).take (m+1-j)=fl B n o:=List.take_of_length_le om;have Xw:=qL_len (As:=As) (Vs:=Vs) (Q:=m+1-n) hi;have qB:=fun d h=>qL_set (As:=As) (Vs:=Vs) (d:=d) hi h s2
  rw[s1]at qB;by_cases hcase:c≤U/B^n
  ·obtain⟨z1,z2,z3⟩:=ks1 hcase;have hun:(if U/B^n%B<c then 1 else 0:Nat)=0:=if_neg (by rw[Q7];omega);have htop0:(U/B^n%B+18446744073709551616-c)%18446744073709551616=0:=by rw[Q7,z2,Nat.add_sub_cancel_left]
   have hq2:=qB g z1.symm;have hlow:=Ql (As:=As) (Vs:=Vs) (m:=m) (n:=n) (j:=j) om o (by rw[s3,z3]);rw[hZ]at hlow;try (refine hK _ ?_;clear hK K)
   refine aP (ai @hq2 (ai @je (ai @Xw (ai @hlow (ai @w8 (ai @Qv (ai @hcop (ai @htk (ai @mJ (ai @kJ (ai @w6 (ai @w0 (ai @htop0 (ai @hun (ai @hj @fB))))))))))))))) ?_;refine hQ _ j om om ?_;exact qj
  ·obtain⟨z1,z2,z3⟩:=ks2 (Nat.lt_of_not_le hcase);have hun:(if U/B^n%B<c then 1 else 0:Nat)=1:=by rw[Q7];exact kn_un _ _ z2
   have htop1:(U/B^n%B+18446744073709551616-c)%18446744073709551616=18446744073709551615:=by rw[Q7];exact kn_m1 _ _ z2
   have hd1:((g:Nat):Int)-1=((U/Vs:Nat):Int):=kn_d1 _ _ z1;have hRB:U%Vs<B^n:=Nat.lt_trans (Nat.mod_lt _ hVn) n2;have had:=yX (fl B n o) (fl B n Vs) (jG dc _ _) (jG dc _ _) (by rw[hol];exact JQ) (by rw[hlv];exact JQ);rw[kQ (b:=B) n o,Nat.mod_eq_of_lt m1,hvd,hol,hlv,Nat.max_self,z3,Nat.add_div_right _ (Nat.pow_pos dc),Nat.div_eq_of_lt hRB,dZ (by decide:0<B) (show(U%Vs+B^n)%B^n=(U%Vs)%B^n by rw[Nat.add_mod_right])]at had;have w9:=xW (t:=18446744073709551615) (Z:=Z) hX hol;have w10:=Jf (t:=18446744073709551615) (Z:=Z) hX hol;have hwu:IntKind.wrap .u64 ((U/Vs:Nat):Int)=((U/Vs:Nat):Int):=wuN _ (Nat.lt_of_le_of_lt kg1' gB);have w14:=CO (t:=18446744073709551615) (Z:=Z) hX hol;have hbl:(fl B n (U%Vs)).length=n:=bC _ _;have hcop2:=Qj (A:=fl B n o) (R:=fl B n (U%Vs)) (Z:=Z) (t:=18446744073709551615) hX (by rw[hbl,hol]);have w11:=CJ (t:=18446744073709551615) (Z:=Z) hX hbl;have w12:=xW (t:=18446744073709551615) (Z:=Z) hX hbl;have w13:=fun t'=>Jg (t:=18446744073709551615) (Z:=Z) hX hbl t'
   have htk2:(fl B n (U%Vs)).take (m+1-j)=fl B n (U%Vs):=List.take_of_length_le (by rw[hbl];exact hnm);have hq2:=qB (U/Vs) rfl;have hlow:=Ql (As:=As) (Vs:=Vs) (m:=m) (n:=n) (j:=j) hjm (U%Vs) s3;rw[hZ]at hlow;try (refine hK _ ?_;clear hK K)
   refine tu (ai @hq2 (ai @je (ai @Xw (ai @hlow (ai @w13 (ai @Qv (ai @wrapM (ai @w11 (ai @hcop2 (ai @htk2 (ai @dD (ai @w12 (ai @hwu (ai @hd1 (ai @Nat.add_sub_cancel_left (ai @w14 (ai @w10 (ai @w9 (ai @w8 (ai @W_setM (ai @hcop (ai @htk (ai @yQ (ai @mJ (ai @kJ (ai @w6 (ai @w0 (ai @htop1 (ai @hun (ai @hj @fB)))))))))))))))))))))))))))))) ?_;refine hQ _ j (Nat.le_of_succ_le hi) (Nat.lt_succ_self j) ?_;exact qj
end
section
open Go Go.RowKit Go.Proofs Ab
def TwoR(w:World)(A1 A2:List Nat)(e:Ending)(w':World):Prop:=
 ∃(v1 v2:Value) (n1 n2:Nat),e= .returned (.tuple #[v1,v2])∧Below w.heap.size w w'∧w'.ownsRow w.heap.size 54 1 v1 n1 (Wv A1)∧w'.ownsRow w.heap.size 54 1 v2 n2 (Wv A2)∧∀q,v1.ownBlock=some q→v2.ownBlock≠some q
theorem Mc{w:World}{va vb:Value}{a b:List Nat}{Ha:Nat→Prop}(bH:∀q,Ha q→q<w.heap.size)(hva:aO w Ha va (.l 1 (W a)))(hvb:aO w Ha vb (.l 1 (W b)))(ha:Wd a)(hb:Wd b)(la:a.length≤1000000000)(h2:2≤b.length)(hab:b.length≤a.length)(htop:b.getD (b.length-1) 0≠0):
 Calls Tryz.prog 72 #[va,vb] w (TwoR w (dg B (nv B a/nv B b)) (dg B (nv B a%nv B b))):=by
 refine QC Tryz.func72 rfl (vs:=[va,vb]) (by show 2≤_;decide) (H:=Ha) (E:=fun _=>False) (ks:=[]) (Tt:=fun _=>none)
  (s0:=⟨[(0,.l 1 (W a)),(1,.l 1 (W b))],[],0⟩) ⟨aY.refl _ _,MO _ _,bH,fun b h _=> .inl h,fun id o h=>(by cases h),fun i j oi oj vi vj q _ h=>(by cases h)⟩ (fun m v h=>by cases h) (fun k hk=>?env) (fun k hk=>?rest) (fun _ _=>rfl) (fun act iG=>?_)
 case env=>
  match k,hk with
  |0,_=>exact .base hva
  |1,_=>exact .base hvb
 case rest=>
  match k,hk with
  |k+2,_=>rfl
 refine wp_mono (iW (J:=J0) (w0:=w) (N:=Tryz.f72.ntmps) dB (fun w' _=>trivial) _ a72 (by kernel_rfl) (fun m v h=>by cases h) _ _ act w _ _ iG (Il a b ha hb la h2 hab htop)) fun ex a' w' hq=>?_
 generalize dg B (nv B a/nv B b)=A1 at*
 generalize dg B (nv B a%nv B b)=A2 at*
 have last:∀(s':St) (H':Nat→Prop) (dh:Nat→Option Value),twoK A1 A2 s'→Conc w ⟨Ha,fun _=>False,[]⟩ w' H' dh Tryz.f72.ntmps a' s'→
  a'.defers=[]∧∃r,(results Tryz.f72 a'.tmps).run Tryz.prog w'= .ok r w'∧TwoR w A1 A2 (.returned r) w':=by
  rintro s' H' dh ⟨i,j,m1,m2,hij,g4,g5,o4,o5⟩ hc'
  have hB:Below w.heap.size w w':=hc'.mem.bel.below (fun _ h=>h)
  refine⟨hc'.Am,_,bM (show dm Tryz.f72.results.toList=some [4,5]from rfl) _ _,?_⟩
  obtain⟨x1,O1,R1,V1,B1⟩:=zC hc' g4 o4
  obtain⟨x2,O2,R2,V2,B2⟩:=zC hc' g5 o5
  have hx1:=Bv R1
  have hx2:=Bv R2
  subst hx1
  subst hx2
  refine⟨_,_,m1,m2,rfl,hB,ownB O1 (fun q hq=>(B1 q (kZ O1▸hq)).2.elim id False.elim),ownB O2 (fun q hq=>(B2 q (kZ O2▸hq)).2.elim id False.elim),fun q hq=>?_⟩
  have:=hc'.mem.sep i j _ _ _ _ q hij o4 o5 V1 V2 (by rw[kZ O1];exact hq)
  rwa[kZ O2]at this
 cases ex with
 |normal=>obtain⟨s',H',dh,hq,hc'⟩:=hq;exact⟨.inl rfl,last s' H' dh hq.2 hc'⟩
 |ret=>obtain⟨s',H',dh,hq,hc'⟩:=hq;exact⟨.inr rfl,last s' H' dh hq.2 hc'⟩
 |exit i=>obtain⟨s',H',dh,hq,hc'⟩:=hq;exact absurd hq.1 sy
 |goto l=>exact hq.elim
 |panic ch=>exact hq.elim
 |outgrown=>exact hq.elim
def XM(w:World)(A:List Nat)(y z:Value)(e:Ending)(w':World):Prop:=∃(u:Value) (n:Nat),e= .returned (.tuple #[u,y,z])∧Below w.heap.size w w'∧w'.ownsRow w.heap.size 54 1 u n (Wv A)∧n≤maxLen
theorem Wu{f:FuncId}{args:List V}{A:List Nat}{r1 r2:V}{y z:Value}{w:World}{H:Nat→Prop}{vs:List Value}(c:aF Tryz.prog J0 f args (.to 54 1 (W A) [r1,r2]))(hy:∀(w':World) (H':Nat→Prop) (v:Value),aO w' H' v r1→v=y)(hz:∀(w':World) (H':Nat→Prop) (v:Value),aO w' H' v r2→v=z)(hH:∀q,H q→q<w.heap.size)(hr:aA w H vs args):Calls Tryz.prog f vs.toArray w (XM w A y z):=by
 have c':Yk Tryz.prog J0 f args 54 1 (W A) [r1,r2]:=c;refine(c'.2 w H vs trivial (MO _ _) hH hr).mono ?_;rintro e w' ⟨u,us,n,xs,N,rfl,hB,ho,_,_,hx,_,hm,hus⟩;have:=Bv hx;subst this;match us,hus with
 |[p,q],hus=>
  have h1:=hy _ _ p (hus.2 0 p r1 rfl rfl);have h2:=hz _ _ q (hus.2 1 q r2 rfl rfl);subst h1 h2;exact⟨u,n,rfl,hB,ho,hm⟩
theorem RI{f:FuncId}{args:List V}{k:IntKind}{z:Int}{w:World}{H:Nat→Prop}{vs:List Value}(c:aF Tryz.prog J0 f args (.i k z))(hH:∀q,H q→q<w.heap.size)(hr:aA w H vs args):Calls Tryz.prog f vs.toArray w (fun e w'=>e= .returned (.int k z)∧Below w.heap.size w w'):=by
 refine((c.Yl rfl) w H vs trivial (MO _ _) hH hr).mono ?_;rintro e w' ⟨v,rfl,hB,N,hN,h⟩;rcases h with h|⟨e,sz,cs,n,xs,he,_⟩|⟨r,h,_⟩
 ·cases h;exact⟨rfl,hB⟩
 ·cases he
 ·cases h
end
section
open Go Go.RowKit Go.Proofs Ab
variable {a:Act}{w:World}{R:Exit→Act→World→Prop}
theorem dq0(hz:a.tmps.size=51)
 (kk:∀(a':Act),a'.tmps.size=51→(∀t,t<12→t≠4→t≠5→t≠6→a'.tmps.getD t undef=a.tmps.getD t undef)→a'.tmps.getD 4 undef= .slice none 0 0→a'.tmps.getD 5 undef= .slice none 0 0→a'.tmps.getD 6 undef= .int .i64 0→a'.defers=a.defers→R .normal a' w):(q1 (qf Tryz.f47)).wp Tryz.prog R a w:=by
 replace kk:=pu kk
 refine rl fun gA=>?_
 go_wp2
 exact kk.down _ gZ gN gS gS gS rfl
theorem dq1{va vb:Value}{A1 A2:List Nat}(hz:a.tmps.size=51)(h0:a.tmps.getD 0 undef=va)(h1:a.tmps.getD 1 undef=vb)
 (c1:Calls Tryz.prog 44 #[va] w (kX w A1)) (c2:∀w1,Below w.heap.size w w1→Calls Tryz.prog 44 #[vb] w1 (kX w1 A2))
 (kk:∀(a':Act) (w1 w2:World) (u0 u1:Value) (n0 n1:Nat),a'.tmps.size=51→(∀t,t<12→t≠0→t≠1→a'.tmps.getD t undef=a.tmps.getD t undef)→a'.tmps.getD 0 undef=u0→a'.tmps.getD 1 undef=u1→a'.defers=a.defers→Below w.heap.size w w1→w1.ownsRow w.heap.size 54 1 u0 n0 (Wv A1)→n0≤maxLen→Below w1.heap.size w1 w2→w2.ownsRow w1.heap.size 54 1 u1 n1 (Wv A2)→n1≤maxLen→R .normal a' w2):(q1 (qd 1 (qf Tryz.f47))).wp Tryz.prog R a w:=by
 replace kk:=pu kk
 refine rl fun gA=>?_
 go_wp2_with (first|(go_at_call 44;refine(c1).mono ?_;rintro e w1 ⟨u0,n0,rfl,b1,o1,m1⟩;clear c1;obtain⟨ua,uc,rfl⟩:=aB o1)|(go_at_call 44;refine(c2 w1 b1).mono ?_;rintro e w2 ⟨u1,n1,rfl,b2,o2,m2⟩;obtain⟨va,vc,rfl⟩:=aB o2))
 exact kk.down _ w1 w2 _ _ n0 n1 gZ gN gS gS rfl b1 o1 m1 b2 o2 m2
theorem dq2t{xa:Option Addr}{xn xc:Nat}(hz:a.tmps.size=51)(h1:a.tmps.getD 1 undef= .slice xa xn xc)
 (hl:(xn:Int)=0)
 (kk:∀(a':Act),kA a a' 51 12 [(16,.bool true)]<|R .normal a' w):(q1 (qb (q1 (qd 2 (qf Tryz.f47))))).wp Tryz.prog R a w:=by
 replace kk:=pu kk
 refine rl fun gA=>?_
 go_wp2
 exact kk.down _ gZ gN gS rfl
theorem dq2f{xa:Option Addr}{xn xc:Nat}(hz:a.tmps.size=51)(h1:a.tmps.getD 1 undef= .slice xa xn xc)
 (hl:¬(xn:Int)=0)
 (kk:∀(a':Act),kA a a' 51 12 [(16,.bool false)]<|R .normal a' w):(q1 (qb (q1 (qd 2 (qf Tryz.f47))))).wp Tryz.prog R a w:=by
 replace kk:=pu kk
 refine rl fun gA=>?_
 go_wp2
 exact kk.down _ gZ gN gS rfl
theorem dq3(hz:a.tmps.size=51)
 (kk:∀(a':Act),kA a a' 51 4 [(4,.slice none 0 0),(5,.slice none 0 0),(6,.int .i64 1)]<|R .normal a' w):(q1 (qt (q2 (qb (q1 (qd 2 (qf Tryz.f47))))))).wp Tryz.prog R a w:=by
 replace kk:=pu kk
 refine rl fun gA=>?_
 go_wp2
 exact kk.down _ gZ gN gS gS gS rfl
theorem dq4t{u0 u1:Value}{s:Int}(hz:a.tmps.size=51)(h0:a.tmps.getD 0 undef=u0)(h1:a.tmps.getD 1 undef=u1)
 (c1:Calls Tryz.prog 70 #[u0,u1] w (fun e w1=>e= .returned (.int .i64 s)∧Below w.heap.size w w1)) (hl:s<0)
 (kk:∀(a':Act) (w1:World),kA a a' 51 12 [(20,.bool true)]<|Below w.heap.size w w1→R .normal a' w1):(q1 (qe (q2 (qb (q1 (qd 2 (qf Tryz.f47))))))).wp Tryz.prog R a w:=by
 replace kk:=pu kk
 refine rl fun gA=>?_
 go_wp2_with (go_at_call 70;refine(c1).mono ?_;rintro e w1 ⟨rfl,b1⟩)
 exact kk.down _ w1 gZ gN gS rfl b1
theorem dq4f{u0 u1:Value}{s:Int}(hz:a.tmps.size=51)(h0:a.tmps.getD 0 undef=u0)(h1:a.tmps.getD 1 undef=u1)
 (c1:Calls Tryz.prog 70 #[u0,u1] w (fun e w1=>e= .returned (.int .i64 s)∧Below w.heap.size w w1)) (hl:¬s<0)
 (kk:∀(a':Act) (w1:World),kA a a' 51 12 [(20,.bool false)]<|Below w.heap.size w w1→R .normal a' w1):(q1 (qe (q2 (qb (q1 (qd 2 (qf Tryz.f47))))))).wp Tryz.prog R a w:=by
 replace kk:=pu kk
 refine rl fun gA=>?_
 go_wp2_with (go_at_call 70;refine(c1).mono ?_;rintro e w1 ⟨rfl,b1⟩)
 exact kk.down _ w1 gZ gN gS rfl b1
theorem dq5{u0:Value}(hz:a.tmps.size=51)(h0:a.tmps.getD 0 undef=u0)
 (kk:∀(a':Act),kA a a' 51 4 [(4,.slice none 0 0),(5,u0),(6,.int .i64 0)]<|R .normal a' w):(q1 (qt (q2 (qe (q2 (qb (q1 (qd 2 (qf Tryz.f47))))))))).wp Tryz.prog R a w:=by
 replace kk:=pu kk
 refine rl fun gA=>?_
 go_wp2
 exact kk.down _ gZ gN gS gS gS rfl
theorem dq6t{xa:Option Addr}{xn xc:Nat}(hz:a.tmps.size=51)(h1:a.tmps.getD 1 undef= .slice xa xn xc)
 (hl:(xn:Int)=1)
 (kk:∀(a':Act),kA a a' 51 12 [(26,.bool true)]<|R .normal a' w):(q1 (qe (q2 (qe (q2 (qb (q1 (qd 2 (qf Tryz.f47))))))))).wp Tryz.prog R a w:=by
 replace kk:=pu kk
 refine rl fun gA=>?_
 go_wp2
 exact kk.down _ gZ gN gS rfl
theorem dq6f{xa:Option Addr}{xn xc:Nat}(hz:a.tmps.size=51)(h1:a.tmps.getD 1 undef= .slice xa xn xc)
 (hl:¬(xn:Int)=1)
 (kk:∀(a':Act),kA a a' 51 12 [(26,.bool false)]<|R .normal a' w):(q1 (qe (q2 (qe (q2 (qb (q1 (qd 2 (qf Tryz.f47))))))))).wp Tryz.prog R a w:=by
 replace kk:=pu kk
 refine rl fun gA=>?_
 go_wp2
 exact kk.down _ gZ gN gS rfl
theorem dq7{u0:Value}{p c x r:Nat}{A:List Nat}(hz:a.tmps.size=51)(h0:a.tmps.getD 0 undef=u0)(h1:a.tmps.getD 1 undef= .slice (some ⟨p,0,none⟩) 1 c)
 (hx:w.cell? ⟨p,0,none⟩=some (.int .u64 (x:Int))) (c1:Calls Tryz.prog 71 #[u0,.int .u64 (x:Int)] w (XM w A (.int .u64 (r:Int)) (.int .i64 0)))
 (kk:∀(a':Act) (w1:World) (u7:Value) (n7:Nat),kA a a' 51 7 [(7,u7),(8,.int .u64 (r:Int)),(9,.int .i64 0)]<|Below w.heap.size w w1→w1.ownsRow w.heap.size 54 1 u7 n7 (Wv A)→n7≤maxLen→R .normal a' w1):(q1 (qt (q2 (qe (q2 (qe (q2 (qb (q1 (qd 2 (qf Tryz.f47))))))))))).wp Tryz.prog R a w:=by
 replace kk:=pu kk
 refine rl fun gA=>?_
 go_wp2_with (go_at_call 71;refine(c1).mono ?_;rintro e w1 ⟨u7,n7,rfl,b1,o1,m1⟩;obtain⟨ua,uc,rfl⟩:=aB o1)
 exact kk.down _ w1 _ n7 gZ gN gS gS gS rfl b1 o1 m1
theorem dq8{u7:Value}{r:Nat}{A:List Nat}(hz:a.tmps.size=51)(h7:a.tmps.getD 7 undef=u7)(h8:a.tmps.getD 8 undef= .int .u64 (r:Int))(h9:a.tmps.getD 9 undef= .int .i64 0)
 (c1:Calls Tryz.prog 53 #[.int .u64 (r:Int)] w (kX w A))
 (kk:∀(a':Act) (w1:World) (v:Value) (m:Nat),kA a a' 51 4 [(4,u7),(5,v),(6,.int .i64 0)]<|Below w.heap.size w w1→w1.ownsRow w.heap.size 54 1 v m (Wv A)→m≤maxLen→R .normal a' w1):(q1 (qd 1 (qt (q2 (qe (q2 (qe (q2 (qb (q1 (qd 2 (qf Tryz.f47)))))))))))).wp Tryz.prog R a w:=by
 replace kk:=pu kk
 refine rl fun gA=>?_
 go_wp2_with (go_at_call 53;refine(c1).mono ?_;rintro e w1 ⟨v,m,rfl,b1,o1,m1⟩;obtain⟨ua,uc,rfl⟩:=aB o1)
 exact kk.down _ w1 _ m gZ gN gS gS gS rfl b1 o1 m1
theorem dq9{u0 u1:Value}{A1 A2:List Nat}(hz:a.tmps.size=51)(h0:a.tmps.getD 0 undef=u0)(h1:a.tmps.getD 1 undef=u1)
 (c1:Calls Tryz.prog 72 #[u0,u1] w (TwoR w A1 A2))
 (kk:∀(a':Act) (w1:World) (v1 v2:Value) (n1 n2:Nat),kA a a' 51 7 [(10,v1),(11,v2)]<|Below w.heap.size w w1→w1.ownsRow w.heap.size 54 1 v1 n1 (Wv A1)→w1.ownsRow w.heap.size 54 1 v2 n2 (Wv A2)→(∀q,v1.ownBlock=some q→v2.ownBlock≠some q)→R .normal a' w1):(q1 (qd 3 (qf Tryz.f47))).wp Tryz.prog R a w:=by
 replace kk:=pu kk
 refine rl fun gA=>?_
 go_wp2_with (go_at_call 72;refine(c1).mono ?_;rintro e w1 ⟨v1,v2,n1,n2,rfl,b1,o1,o2,s12⟩;obtain⟨ua,uc,rfl⟩:=aB o1;obtain⟨va,vc,rfl⟩:=aB o2)
 exact kk.down _ w1 _ _ n1 n2 gZ gN gS gS rfl b1 o1 o2 s12
theorem dq10{u0 u1:Value}(hz:a.tmps.size=51)(h10:a.tmps.getD 10 undef=u0)(h11:a.tmps.getD 11 undef=u1)
 (kk:∀(a':Act),kA a a' 51 4 [(4,u0),(5,u1),(6,.int .i64 0)]<|R .normal a' w):(q1 (qd 4 (qf Tryz.f47))).wp Tryz.prog R a w:=by
 replace kk:=pu kk
 refine rl fun gA=>?_
 go_wp2
 exact kk.down _ gZ gN gS gS gS rfl
end
section
open Go Go.RowKit Go.Proofs Ab
theorem yg{a:Act}{w w':World}{A1 A2:List Nat}{f:Int}{v1 v2:Value}{n1 n2:Nat}(hd:a.defers=[])(h4:a.tmps.getD 4 undef=v1)(h5:a.tmps.getD 5 undef=v2)(h6:a.tmps.getD 6 undef= .int .i64 f)(hb:Below w.heap.size w w')(o1:w'.ownsRow w.heap.size 54 1 v1 n1 (Wv A1))(o2:w'.ownsRow w.heap.size 54 1 v2 n2 (Wv A2))(hs:∀q,v1.ownBlock=some q→v2.ownBlock≠some q):
 bodyPost Tryz.prog Tryz.f47 (Q_ w A1 A2 f) .ret a w':=by
 refine⟨hd,_,bM (show dm Tryz.f47.results.toList=some [4,5,6]from rfl) _ _,v1,v2,n1,n2,?_,hb,o1,o2,hs⟩
 show Ending.returned (.tuple #[a.tmps.getD 4 undef,a.tmps.getD 5 undef,a.tmps.getD 6 undef])=_
 rw[h4,h5,h6]
theorem Di{w:World}{va vb:Value}{a b:List Nat}{Ha:Nat→Prop}(bH:∀q,Ha q→q<w.heap.size)(hva:aO w Ha va (.l 1 (W a)))(hvb:aO w Ha vb (.l 1 (W b)))(ha:Wd a)(hb:Wd b)(la:a.length≤1000000000)(lb:b.length≤1000000000):
 Calls Tryz.prog 47 #[va,vb] w (Q_ w (qQ (nv B a) (nv B b)) (qR (nv B a) (nv B b)) (qE (nv B b))):=by
 have hna:=oJ a om
 have hnb:=oJ b om
 have ta:(tz a).length≤1000000000:=Nat.le_trans (mF a) la
 have tb:(tz b).length≤1000000000:=Nat.le_trans (mF b) lb
 have wa:=qI ha
 have wb:=qI hb
 have va':nv B (tz a)=nv B a:=uK a
 have vb':nv B (tz b)=nv B b:=uK b
 have ea:=Ed a
 have eb:=Ed b
 rw[←va',←vb']
 generalize tz a=x at*
 generalize tz b=y at*
 clear va' vb'
 have hcm:=P8 x y wa wb om om
 have eDm:∀h1:nv B x<nv B y,dg B (nv B x%nv B y)=x:=fun h1=>by rw[Nat.mod_eq_of_lt h1,←AA B2 wa,ea]
 have eQ:∀h1:nv B x<nv B y,qQ (nv B x) (nv B y)=[]:=fun h1=>by unfold qQ;rw[Nat.div_eq_of_lt h1];rfl
 have wsp:=fun(hp:0<nv B y) (hlt:nv B y<18446744073709551616)=>wordO x (nv B y) wa hp hlt om
 have g1':y.length=1→y.getD 0 0=nv B y:=fun h=>Vz (b:=y) h
 have yB:y.length=1→nv B y<18446744073709551616:=fun h=>by
  have:=b_ wb;rw[h,Nat.pow_one]at this;exact this
 have tp:y≠[]→0<nv B y:=fun hy=>Nat.lt_of_lt_of_le (Nat.pow_pos dc) (yT (b:=B) eb hy)
 have kl:¬nv B x<nv B y→y≠[]→y.length≤x.length:=fun h1 hy=>by
  have htop:=yT (b:=B) eb hy;have:=b_ wa;have h3:B^(y.length-1)<B^x.length:=om;have:=(Nat.pow_lt_pow_iff_right (by decide:1<B)).1 h3;omega
 have kt:y≠[]→2≤y.length→y.getD (y.length-1) 0≠0:=fun hy h2 h=>by
  have h4:=uM y (y.length-1) om h;rw[show y.length-1+1=y.length from om,List.take_length,eb]at h4;have:=mF (y.take (y.length-1));rw[←h4,List.length_take]at this;omega
 refine bW (vs:=[va,vb]) Tryz.func47 (c:=qf Tryz.f47) rfl (by show 2≤_;decide) fun a0 z0 e0 d0=>?_
 have i0:a0.tmps.getD 0 undef=va:=e0 0 (by show 0<2;decide)
 have i1:a0.tmps.getD 1 undef=vb:=e0 1 (by show 1<2;decide)
 change a0.tmps.size=51 at z0
 refine wp_seq ?_
 refine dq0 z0 fun a1 z1 s1 _ _ _ d1=>?_
 refine wp_seq ?_
 refine dq1 z1 ((s1 0 dc dc dc dc).trans i0) ((s1 1 dc dc dc dc).trans i1) (A1:=x) (A2:=y) (lM (vs:=[va]) hna bH (z_ hva)) (fun w1 hB=>lM (vs:=[vb]) hnb (fun q h=>Nat.lt_of_lt_of_le (bH q h) hB.size) (z_ (hvb.mono (fun _ h=>h) fun q h=>hB.block q (bH q h)))) fun a2 w1 w2 u0 u1 n0 n1 z2 s2 k0 k1 d2 B1 o0 m0 XN o1 m1=>?_
 have B2:=ah B1 XN
 have s1':=B1.size
 have s2':=XN.size
 have o0':=bg o0 fun q hq=>XN.block q (o0.lt q hq).2
 have o1':=dC o1 s1'
 have rx:∀w',Below w2.heap.size w2 w'→aO w' (fun q=>q<w2.heap.size) u0 (.l 1 (W x)):=fun w' hB=>(pU o0' m0).mono (fun q h=>h) fun q h=>hB.block q h
 have ry:∀w',Below w2.heap.size w2 w'→aO w' (fun q=>q<w2.heap.size) u1 (.l 1 (W y)):=fun w' hB=>(pU o1' m1).mono (fun q h=>h) fun q h=>hB.block q h
 have hs2:∀w',Below w2.heap.size w2 w'→∀q,q<w2.heap.size→q<w'.heap.size:=fun w' hB q hq=>Nat.lt_of_lt_of_le hq hB.size
 have hd2:a2.defers=[]:=d2.trans (d1.trans d0)
 have ln1:y.length=n1:=by have:=o1.1;simp only[Wv,List.length_map]at this;omega
 obtain⟨ua,uc,eu1⟩:=aB o1
 refine wp_seq ?_
 refine wp_block ?_
 refine wp_seq ?_
 by_cases hy:(n1:Int)=0
 ·have hy0:y=[]:=List.eq_nil_of_length_eq_zero om;refine dq2t z2 (k1.trans eu1) hy fun a3 z3 s3 k16 d3=>?_
  refine wp_cond_true k16 ?_;refine wp_seq ?_;refine dq3 z3 fun a4 z4 s4 h4 h5 h6 d4=>?_
  refine wp_ret ?_;rw[hy0,show nv B []=0 from rfl,Qq,Qr,Qs];exact yg (d4.trans (d3.trans hd2)) h4 h5 h6 B2 (rW _ _ _ _) (rW _ _ _ _) fun q hq=>by cases hq
 have hyn:y≠[]:=fun h=>hy (by rw[←ln1,h];rfl)
 have hp:=tp hyn
 rw[Hf hp,LH hp]
 refine dq2f z2 (k1.trans eu1) hy fun a3 z3 s3 k16 d3=>?_
 refine wp_cond_false k16 ?_
 refine wp_seq ?_
 have hcc:=RI (vs:=[u0,u1]) hcm (hs2 w2 (aJ w2)) (LZ (rx w2 (aJ w2)) (ry w2 (aJ w2)))
 have k0':=(s3 0 dc).trans k0
 have k1':=(s3 1 dc).trans k1
 by_cases hlt:nv B x<nv B y
 ·have hs:sg (nv B x) (nv B y)<0:=by rw[I_];exact hlt
  refine dq4t z3 k0' k1' hcc hs fun a4 w4 z4 s4 k20 d4 B4=>?_
  refine wp_cond_true k20 ?_;refine wp_seq ?_;refine dq5 z4 ((s4 0 dc).trans k0') fun a5 z5 s5 h4 h5 h6 d5=>?_
  refine wp_ret ?_;rw[eQ hlt,eDm hlt];exact yg (d5.trans (d4.trans (d3.trans hd2))) h4 h5 h6 (ah B2 B4) (rW _ _ _ _) (bg o0' fun q hq=>B4.block q (o0'.lt q hq).2) fun q hq=>by cases hq
 have hs:¬sg (nv B x) (nv B y)<0:=fun h=>hlt (by rwa[I_]at h)
 refine dq4f z3 k0' k1' hcc hs fun a4 w4 z4 s4 k20 d4 B4=>?_
 refine wp_cond_false k20 ?_
 refine wp_seq ?_
 have k0'':=(s4 0 dc).trans k0'
 have RJ:=(s4 1 dc).trans k1'
 have s4':=B4.size
 by_cases h1:(n1:Int)=1
 ·obtain⟨p,c,ep⟩:=kV o1 om;have e1:n1=1:=om;subst e1;rw[ep]at RJ o1';refine dq6t z4 RJ h1 fun a5 z5 s5 k26 d5=>?_
  refine wp_cond_true k26 ?_;have o1w:=bg o1' fun q hq=>B4.block q (o1'.lt q hq).2
  have hx:w4.cell? ⟨p,0,none⟩=some (.int .u64 ((nv B y:Nat):Int)):=by
   rw[o1w.cellAt 0 dc,←g1' ln1];match y,ln1 with
   |[z],_=>rfl
  have hyB:=yB ln1;have hmod:nv B x%nv B y<18446744073709551616:=Nat.lt_trans (Nat.mod_lt _ hp) hyB;refine wp_seq ?_;refine dq7 z5 ((s5 0 dc).trans k0'') ((s5 1 dc).trans RJ) hx (Wu (vs:=[u0,.int .u64 ((nv B y:Nat):Int)]) (wsp hp hyB) (fun w' H' v h=>(Rep.up (ov:=fun _=>none) h).bT) (fun w' H' v h=>(Rep.up (ov:=fun _=>none) h).bT) (hs2 w4 B4) (LZ (rx w4 B4) (.i _ _))) fun a6 w6 u7 n7 z6 s6 k7 k8 k9 d6 B6 o7 m7=>?_
  have s6':=B6.size;refine wp_seq ?_;refine dq8 z6 k7 k8 k9 (lM (vs:=[.int .u64 ((nv B x%nv B y:Nat):Int)]) (H:=fun _=>False) (pK (nv B x%nv B y) hmod) (fun _ h=>h.elim) (z_ (.i _ _))) fun a7 w7 v8 n8 z7 s7 h4 h5 h6 d7 B7 o8 m8=>?_
  refine wp_ret ?_;have oF:=bg o7 fun q hq=>B7.block q (o7.lt q hq).2
  exact yg (d7.trans (d6.trans (d5.trans (d4.trans (d3.trans hd2))))) h4 h5 h6 (ah B2 (ah B4 (ah B6 B7))) (dC oF (by have:=B2.size;omega)) (dC o8 (by have:=B2.size;omega)) fun q hq hq2=>by
   have:=(o7.lt q hq).2;have:=(o8.lt q hq2).1;omega
 ·refine dq6f z4 (RJ.trans eu1) h1 fun a5 z5 s5 k26 d5=>?_
  refine wp_cond_false k26 ?_;refine wp_skip ?_;refine wp_seq ?_;have h2:2≤y.length:=om;refine dq9 z5 ((s5 0 dc).trans k0'') ((s5 1 dc).trans RJ) (Mc (hs2 w4 B4) (rx w4 B4) (ry w4 B4) wa wb om h2 (kl hlt hyn) (kt hyn h2)) fun a6 w6 v1 v2 m1' m2' z6 s6 k10 k11 d6 B6 oA oB RN=>?_
  refine wp_seq ?_;refine dq10 z6 k10 k11 fun a7 z7 s7 h4 h5 h6 d7=>?_
  refine wp_ret ?_;exact yg (d7.trans (d6.trans (d5.trans (d4.trans (d3.trans hd2))))) h4 h5 h6 (ah B2 (ah B4 B6)) (dC oA (by have:=B2.size;omega)) (dC oB (by have:=B2.size;omega)) RN
end
section
open Go Go.RowKit Go.Proofs Ab
variable {a:Act}{w:World}{R:Exit→Act→World→Prop}
theorem dm0(hz:a.tmps.size=18)
 (kk:∀(a':Act),kA a a' 18 4 []<|R .normal a' w):(q1 (qf Tryz.f104)).wp Tryz.prog R a w:=by
 replace kk:=pu kk
 refine rl fun gA=>?_
 go_wp2
 exact kk.down _ gZ gN rfl
theorem dm1{va vb:Value}{A1 A2:List Nat}{f:Int}(hz:a.tmps.size=18)(h0:a.tmps.getD 0 undef=va)(h1:a.tmps.getD 1 undef=vb)
 (c1:Calls Tryz.prog 47 #[va,vb] w (Q_ w A1 A2 f))
 (kk:∀(a':Act) (w1:World) (v1 v2:Value) (n1 n2:Nat),kA a a' 18 4 [(6,v1),(7,v2),(8,.int .i64 f)]<|Below w.heap.size w w1→w1.ownsRow w.heap.size 54 1 v1 n1 (Wv A1)→w1.ownsRow w.heap.size 54 1 v2 n2 (Wv A2)→(∀q,v1.ownBlock=some q→v2.ownBlock≠some q)→R .normal a' w1):(q1 (qd 1 (qf Tryz.f104))).wp Tryz.prog R a w:=by
 replace kk:=pu kk
 refine rl fun gA=>?_
 go_wp2_with (go_at_call 47;refine(c1).mono ?_;rintro e w1 ⟨v1,v2,n1,n2,rfl,b1,o1,o2,s12⟩;obtain⟨ua,uc,rfl⟩:=aB o1;obtain⟨va,vc,rfl⟩:=aB o2)
 exact kk.down _ w1 _ _ n1 n2 gZ gN gS gS gS rfl b1 o1 o2 s12
theorem dx0(hz:a.tmps.size=25)
 (kk:∀(a':Act),kA a a' 25 4 []<|R .normal a' w):(q1 (qf Tryz.f48)).wp Tryz.prog R a w:=by
 replace kk:=pu kk
 refine rl fun gA=>?_
 go_wp2
 exact kk.down _ gZ gN rfl
theorem dx1{va vb:Value}{A1 A2:List Nat}{f:Int}(hz:a.tmps.size=25)(h0:a.tmps.getD 0 undef=va)(h1:a.tmps.getD 1 undef=vb)
 (c1:Calls Tryz.prog 47 #[va,vb] w (Q_ w A1 A2 f))
 (kk:∀(a':Act) (w1:World) (v1 v2:Value) (n1 n2:Nat),kA a a' 25 4 [(6,v1),(7,v2),(8,.int .i64 f)]<|Below w.heap.size w w1→w1.ownsRow w.heap.size 54 1 v1 n1 (Wv A1)→w1.ownsRow w.heap.size 54 1 v2 n2 (Wv A2)→(∀q,v1.ownBlock=some q→v2.ownBlock≠some q)→R .normal a' w1):(q1 (qd 1 (qf Tryz.f48))).wp Tryz.prog R a w:=by
 replace kk:=pu kk
 refine rl fun gA=>?_
 go_wp2_with (go_at_call 47;refine(c1).mono ?_;rintro e w1 ⟨v1,v2,n1,n2,rfl,b1,o1,o2,s12⟩;obtain⟨ua,uc,rfl⟩:=aB o1;obtain⟨va,vc,rfl⟩:=aB o2)
 exact kk.down _ w1 _ _ n1 n2 gZ gN gS gS gS rfl b1 o1 o2 s12
theorem dm2{u:Value}{f:Int}(hz:a.tmps.size=18)(h7:a.tmps.getD 7 undef=u)(h8:a.tmps.getD 8 undef= .int .i64 f)
 (kk:∀(a':Act),kA a a' 18 4 [(4,u),(5,.int .i64 f)]<|R .normal a' w):(q1 (qd 2 (qf Tryz.f104))).wp Tryz.prog R a w:=by
 replace kk:=pu kk
 refine rl fun gA=>?_
 go_wp2
 exact kk.down _ gZ gN gS gS rfl
theorem dx2f(hz:a.tmps.size=25)(h8:a.tmps.getD 8 undef= .int .i64 0)
 (kk:∀(a':Act),kA a a' 25 9 [(16,.bool false)]<|R .normal a' w):(q1 (qb (q1 (qd 2 (qf Tryz.f48))))).wp Tryz.prog R a w:=by
 replace kk:=pu kk
 refine rl fun gA=>?_
 go_wp2
 exact kk.down _ gZ gN gS rfl
theorem dx2t(hz:a.tmps.size=25)(h8:a.tmps.getD 8 undef= .int .i64 1)
 (kk:∀(a':Act),kA a a' 25 9 [(16,.bool true)]<|R .normal a' w):(q1 (qb (q1 (qd 2 (qf Tryz.f48))))).wp Tryz.prog R a w:=by
 replace kk:=pu kk
 refine rl fun gA=>?_
 go_wp2
 exact kk.down _ gZ gN gS rfl
theorem dx3(hz:a.tmps.size=25)(h8:a.tmps.getD 8 undef= .int .i64 1)
 (kk:∀(a':Act),kA a a' 25 4 [(4,.slice none 0 0),(5,.int .i64 1)]<|R .normal a' w):(q1 (qt (q2 (qb (q1 (qd 2 (qf Tryz.f48))))))).wp Tryz.prog R a w:=by
 replace kk:=pu kk
 refine rl fun gA=>?_
 go_wp2
 exact kk.down _ gZ gN gS gS rfl
theorem dx4t{xa:Option Addr}{xn xc:Nat}(hz:a.tmps.size=25)(h7:a.tmps.getD 7 undef= .slice xa xn xc)
 (hl:0<(xn:Int))
 (kk:∀(a':Act),kA a a' 25 9 [(20,.bool true)]<|R .normal a' w):(q1 (qe (q2 (qb (q1 (qd 2 (qf Tryz.f48))))))).wp Tryz.prog R a w:=by
 replace kk:=pu kk
 refine rl fun gA=>?_
 go_wp2
 exact kk.down _ gZ gN gS rfl
theorem dx4f{xa:Option Addr}{xn xc:Nat}(hz:a.tmps.size=25)(h7:a.tmps.getD 7 undef= .slice xa xn xc)
 (hl:¬0<(xn:Int))
 (kk:∀(a':Act),kA a a' 25 9 [(20,.bool false)]<|R .normal a' w):(q1 (qe (q2 (qb (q1 (qd 2 (qf Tryz.f48))))))).wp Tryz.prog R a w:=by
 replace kk:=pu kk
 refine rl fun gA=>?_
 go_wp2
 exact kk.down _ gZ gN gS rfl
theorem dx5(hz:a.tmps.size=25)
 (kk:∀(a':Act),kA a a' 25 4 [(4,.slice none 0 0),(5,.int .i64 4)]<|R .normal a' w):(q1 (qt (q2 (qe (q2 (qb (q1 (qd 2 (qf Tryz.f48))))))))).wp Tryz.prog R a w:=by
 replace kk:=pu kk
 refine rl fun gA=>?_
 go_wp2
 exact kk.down _ gZ gN gS gS rfl
theorem dx6{u:Value}(hz:a.tmps.size=25)(h6:a.tmps.getD 6 undef=u)
 (kk:∀(a':Act),kA a a' 25 4 [(4,u),(5,.int .i64 0)]<|R .normal a' w):(q1 (qd 3 (qf Tryz.f48))).wp Tryz.prog R a w:=by
 replace kk:=pu kk
 refine rl fun gA=>?_
 go_wp2
 exact kk.down _ gZ gN gS gS rfl
end
section
open Go Go.RowKit Go.Proofs Ab
theorem fin2{fn:Func}{a:Act}{w w':World}{A:List Nat}{f:Int}{v:Value}{n s t:Nat}(hr:dm fn.results.toList=some [s,t])(hd:a.defers=[])(h4:a.tmps.getD s undef=v)(h5:a.tmps.getD t undef= .int .i64 f)(hb:Below w.heap.size w w')(o1:w'.ownsRow w.heap.size 54 1 v n (Wv A)):
 bodyPost Tryz.prog fn (Dh w A (.int .i64 f)) .ret a w':=by
 refine⟨hd,_,bM hr _ _,v,n,?_,hb,o1,?_⟩
 ·show Ending.returned (.tuple #[a.tmps.getD s undef,a.tmps.getD t undef])=_;rw[h4,h5]
 ·rcases o1.2 with ⟨_,rfl⟩|⟨g,cap,cur,_,_,_,h3,h4,_⟩
  ·exact Nat.zero_le _
  ·exact Nat.le_trans h3 h4
theorem RP{w:World}{B n:Nat}{v:Value}{xs:List Value}(o1:w.ownsRow B 54 1 v n xs):n≤maxLen:=by
 rcases o1.2 with ⟨_,rfl⟩|⟨g,cap,cur,_,_,_,h3,h4,_⟩
 ·exact Nat.zero_le _
 ·exact Nat.le_trans h3 h4
theorem wM{w:World}{B n:Nat}{v:Value}{A:List Nat}(o1:w.ownsRow B 54 1 v n (Wv A)):n=A.length:=by
 have:=o1.1;simp only[Wv,List.length_map]at this;omega
section
variable {w:World} {va vb:Value} {a b:List Nat} {Ha:Nat→Prop} (bH:∀q,Ha q→q<w.heap.size) (hva:aO w Ha va (.l 1 (W a))) (hvb:aO w Ha vb (.l 1 (W b))) (ha:Wd a) (hb:Wd b) (la:a.length≤1000000000) (lb:b.length≤1000000000)
include bH hva hvb ha hb la lb
theorem Wx:Calls Tryz.prog 104 #[va,vb] w (Dh w (qR (nv B a) (nv B b)) (.int .i64 (qE (nv B b)))):=by
 refine bW (vs:=[va,vb]) Tryz.func104 (c:=qf Tryz.f104) rfl (by show 2≤_;decide) fun a0 z0 e0 d0=>?_
 have i0:a0.tmps.getD 0 undef=va:=e0 0 (by show 0<2;decide);have i1:a0.tmps.getD 1 undef=vb:=e0 1 (by show 1<2;decide);change a0.tmps.size=18 at z0;refine wp_seq ?_;refine dm0 z0 fun a1 z1 s1 d1=>?_
 refine wp_seq ?_;refine dm1 z1 ((s1 0 dc).trans i0) ((s1 1 dc).trans i1) (Di bH hva hvb ha hb la lb) fun a2 w2 v1 v2 n1 n2 z2 s2 k6 k7 k8 d2 B2 o1 o2 _=>?_
 refine wp_seq ?_;refine dm2 z2 k7 k8 fun a3 z3 s3 h4 h5 d3=>?_
 refine wp_ret ?_;exact fin2 rfl (d3.trans (d2.trans (d1.trans d0))) h4 h5 B2 o2
theorem Md:Calls Tryz.prog 48 #[va,vb] w (Dh w (Tz (nv B a) (nv B b)) (.int .i64 (VA (nv B a) (nv B b)))):=by
 have hq:=Di bH hva hvb ha hb la lb;generalize nv B a=u at*
 generalize nv B b=v at*
 refine bW (vs:=[va,vb]) Tryz.func48 (c:=qf Tryz.f48) rfl (by show 2≤_;decide) fun a0 z0 e0 d0=>?_
 have i0:a0.tmps.getD 0 undef=va:=e0 0 (by show 0<2;decide);have i1:a0.tmps.getD 1 undef=vb:=e0 1 (by show 1<2;decide);change a0.tmps.size=25 at z0;refine wp_seq ?_;refine dx0 z0 fun a1 z1 s1 d1=>?_
 refine wp_seq ?_;refine dx1 z1 ((s1 0 dc).trans i0) ((s1 1 dc).trans i1) hq fun a2 w2 v1 v2 n1 n2 z2 s2 k6 k7 k8 d2 B2 o1 o2 _=>?_
 have dd:a2.defers=[]:=d2.trans (d1.trans d0);refine wp_seq ?_;refine wp_block ?_;refine wp_seq ?_;by_cases h0:v=0
 ·subst h0;rw[Qs]at k8;rw[show Tz u 0=[]from if_pos rfl,show VA u 0=1 from if_pos rfl];refine dx2t z2 k8 fun a3 z3 s3 h16 d3=>?_
  refine wp_cond_true h16 ?_;refine wp_seq ?_;refine dx3 z3 ((s3 8 dc).trans k8) fun a4 z4 s4 h4 h5 d4=>?_
  refine wp_ret ?_;exact fin2 rfl (d4.trans (d3.trans dd)) h4 h5 B2 (rW _ _ _ _)
 rw[Hf om]at k8;refine dx2f z2 k8 fun a3 z3 s3 h16 d3=>?_
 refine wp_cond_false h16 ?_;refine wp_seq ?_;obtain⟨ta,tc,e2⟩:=aB o2;have l2:=wM o2;by_cases h1:u%v=0
 ·rw[show Tz u v=qQ u v from(if_neg h0).trans (if_pos h1),show VA u v=0 from(if_neg h0).trans (if_pos h1)];have hl:((qR u v).length:Int)=0:=Qu.2 (.inr h1);refine dx4f z3 (((s3 7 dc).trans k7).trans e2) om fun a4 z4 s4 h20 d4=>?_
  refine wp_cond_false h20 ?_;refine wp_skip ?_;refine wp_seq ?_;refine dx6 z4 ((s4 6 dc).trans ((s3 6 dc).trans k6)) fun a5 z5 s5 h4 h5 d5=>?_
  refine wp_ret ?_;exact fin2 rfl (d5.trans (d4.trans (d3.trans dd))) h4 h5 B2 o1
 ·rw[show Tz u v=[]from(if_neg h0).trans (if_neg h1),show VA u v=4 from(if_neg h0).trans (if_neg h1)];have hl:(0:Int)<((qR u v).length:Int):=by
   have:¬((qR u v).length:Int)=0:=fun h=>by rcases Qu.1 h with h2|h2<;>omega
   omega
  refine dx4t z3 (((s3 7 dc).trans k7).trans e2) om fun a4 z4 s4 h20 d4=>?_
  refine wp_cond_true h20 ?_;refine wp_seq ?_;refine dx5 z4 fun a5 z5 s5 h4 h5 d5=>?_
  refine wp_ret ?_;exact fin2 rfl (d5.trans (d4.trans (d3.trans dd))) h4 h5 B2 (rW _ _ _ _)
end
end
section
open Go Go.RowKit Go.Proofs Ab
theorem nI{fn:Func}{a:Act}{w':World}{R:Ending→World→Prop}{p g:Nat}{s:Bool}{u:Value}{fr:Nat×Nat}(h:fn.results=#[.cell p 25])(hd:a.defers=[])(hp:a.tmps.getD p undef= .pointer (some ⟨g,0,none⟩))(hg:w'.heap[g]? =some (.cells #[.bool s,u] 25 fr))(hR:R (.returned (.agg #[.bool s,u])) w'):bodyPost Tryz.prog fn R .ret a w':=
 ⟨hd,_,results_cell_row h _ _ g _ _ fr _ hp hg Tryz.underlying25 rfl (by kernel_rfl),hR⟩
theorem rE{w:World}{s:Bool}{ua:Option Addr}{n c:Nat}:Calls Tryz.prog 40 #[.bool s,.slice ua n c] w (fun e w'=>e= .returned (.agg #[.bool (s&&decide (0<n)),.slice ua n c])∧Below w.heap.size w w'):=by
 refine bW (vs:=[.bool s,.slice ua n c]) Tryz.func40 (c:=qf Tryz.f40) rfl (by show 2≤_;decide) fun a0 z0 e0 d0=>?_
 have i0:a0.tmps.getD 0 undef= .bool s:=e0 0 (by show 0<2;decide);have i1:a0.tmps.getD 1 undef= .slice ua n c:=e0 1 (by show 1<2;decide);change a0.tmps.size=13 at z0;have g0:=gI z0 i0 dc;have g1:=gI z0 i1 dc;have key:∀(t:Array Value) (x:Bool),t.size=13→t.getD 4 undef= .pointer (some ⟨w.heap.size,0,none⟩)→x=(s&&decide (0<n))→bodyPost Tryz.prog Tryz.f40 (fun e w'=>e= .returned (.agg #[.bool (s&&decide (0<n)),.slice ua n c])∧Below w.heap.size w w') .ret {tmps:=t,defers:=[]} (w.alloc (.cells #[.bool x,.slice ua n c] 25)):=fun t x hz hp hx=>by
  subst hx;exact nI rfl rfl hp (heap_alloc_new w _) ⟨rfl,aQ w _⟩
 cases s
 ·refine wp_seq_k fun K0 hK0=>?_
  have hk0:=PLift.up hK0;clear hK0;refine wp_region_lit ?_;go_wp2;refine hk0.down _ _ ?_;refine wp_seq_k fun K1 hK1=>?_
  have hk1:=PLift.up hK1;clear hK1;refine wp_region_lit ?_;go_wp2;refine hk1.down _ _ ?_;refine wp_ret ?_;refine key _ _ (by simp[z0]) ?_ rfl;repeat (first|rw[aC (by simp[z0])]|rw[ae dc])
 ·by_cases hn:0<n
  ·have hn':(0:Int)<(n:Int):=om;refine wp_seq_k fun K0 hK0=>?_
   have hk0:=PLift.up hK0;clear hK0;refine wp_region_lit ?_;go_wp2;refine hk0.down _ _ ?_;refine wp_seq_k fun K1 hK1=>?_
   have hk1:=PLift.up hK1;clear hK1;refine wp_region_lit ?_;go_wp2;refine hk1.down _ _ ?_;refine wp_ret ?_;refine key _ _ (by simp[z0]) ?_ (by simp[hn]);repeat (first|rw[aC (by simp[z0])]|rw[ae dc])
  ·have hn':¬(0:Int)<(n:Int):=om;refine wp_seq_k fun K0 hK0=>?_
   have hk0:=PLift.up hK0;clear hK0;refine wp_region_lit ?_;go_wp2;refine hk0.down _ _ ?_;refine wp_seq_k fun K1 hK1=>?_
   have hk1:=PLift.up hK1;clear hK1;refine wp_region_lit ?_;go_wp2;refine hk1.down _ _ ?_;refine wp_ret ?_;refine key _ _ (by simp[z0]) ?_ (by simp[hn]);repeat (first|rw[aC (by simp[z0])]|rw[ae dc])
end
section
open Go Go.RowKit Go.Proofs Ab
def oldB(l:List Oper)(n t:Nat):Bool:=(List.range n).all fun j=>jS l j != t
theorem aj{l:List Oper}{n t:Nat}(h:oldB l n t=true):∀j,j<n→jS l j≠t:=fun j hj=>by
 have:=List.all_eq_true.1 h j (List.mem_range.2 hj);exact bne_iff_ne.1 this
def Own(w0:World)(A:List Nat)(v:Value)(w:World):Prop:=∃m,m≤maxLen∧w.ownsRow w0.heap.size 54 1 v m (Wv A)
theorem Own.up{w0 w w':World}{A:List Nat}{v:Value}(h:Own w0 A v w)(hb:Below w.heap.size w w'):Own w0 A v w':=by
 obtain⟨m,hm,ho⟩:=h;exact⟨m,hm,bg ho fun q hq=>hb.block q (ho.lt q hq).2⟩
theorem Own.base{w0 w1 w:World}{A:List Nat}{v:Value}(h:Own w1 A v w)(hs:w0.heap.size≤w1.heap.size):Own w0 A v w:=by
 obtain⟨m,hm,ho⟩:=h;exact⟨m,hm,dC ho hs⟩
def dA(w0:World)(s:Bool)(A:List Nat)(v:Value)(w:World):Prop:=∃u,v= .agg #[.bool s,u]∧Own w0 A u w
theorem dA.up{w0 w w':World}{s:Bool}{A:List Nat}{v:Value}(h:dA w0 s A v w)(hb:Below w.heap.size w w'):dA w0 s A v w':=by
 obtain⟨u,e,h⟩:=h;exact⟨u,e,h.up hb⟩
def zX(w:World)(s:Bool)(A:List Nat)(e:Ending)(w':World):Prop:=∃v,e= .returned v∧Below w.heap.size w w'∧dA w s A v w'
theorem wO{w0 w:World}{s:Bool}{A:List Nat}{v:Value}(h:Own w0 A v w):Calls Tryz.prog 40 #[.bool s,v] w (fun e w'=>∃x,e= .returned x∧Below w.heap.size w w'∧dA w0 (s&&decide (0<A.length)) A x w'):=by
 obtain⟨m,hm,ho⟩:=h;obtain⟨ua,uc,rfl⟩:=aB ho;have lm:=ho.1;simp only[Wv,List.length_map]at lm;refine rE.mono ?_;rintro e w2 ⟨rfl,b⟩;refine⟨_,rfl,b,_,?_,Own.up ⟨m,hm,ho⟩ b⟩;rw[show A.length=m from om]
theorem aN(b:Bool)(a:Option Addr)(n c:Nat):(#[Value.bool b,Value.slice a n c]:Array Value).all (·.oneCell')=true:=by
 simp only[List.all_toArray,List.all_cons,List.all_nil,Bool.and_true];rfl
theorem dO{w:World}{q:Nat}{x y:Value}{old:Array Value}(hg:w.heap[q]? =some (.cells old 25 (0,0)))(hs:old.size=2):aY w (fun k=>k=q) (w.setRow q #[x,y])∧(w.setRow q #[x,y]).heap[q]? =some (.cells #[x,y] 25 (0,0)):=
 ⟨⟨rfl,rfl,rfl,sy,fun k _ hne=>setRow_other w q k _ hne⟩,setRow_heap w q old _ _ _ hg⟩
theorem Own.st{w0 w:World}{A:List Nat}{v:Value}{q:Nat}{x y:Value}{old:Array Value}(h:Own w0 A v w)(hg:w.heap[q]? =some (.cells old 25 (0,0))):Own w0 A v (w.setRow q #[x,y]):=by
 obtain⟨m,hm,ho⟩:=h;refine⟨m,hm,bg ho fun k hk=>setRow_other w q k _ fun e=>?_⟩;subst e;rcases ho.2 with ⟨rfl,_⟩|⟨g,cap,cur,rfl,_,h2,_⟩
 ·cases hk
 ·cases hk;rw[hg]at h2;cases h2
def FD(w:World)(s:Bool)(x:Value):World:=(w.alloc (.cells #[.bool s,x] 25)).alloc (.cells #[.bool false,.slice none 0 0] 25)
theorem bx1(w:World)(s:Bool)(x:Value):Below w.heap.size w (FD w s x)∧w.heap.size<(FD w s x).heap.size∧w.heap.size+1<(FD w s x).heap.size∧(FD w s x).cell? ⟨w.heap.size,0,none⟩=some (.bool s)∧(FD w s x).cell? ⟨w.heap.size,1,none⟩=some x∧(FD w s x).heap[w.heap.size+1]? =some (.cells #[.bool false,.slice none 0 0] 25 (0,0)):=by
 have h:=heap_alloc2_old w (.cells #[.bool s,x] 25) (.cells #[.bool false,.slice none 0 0] 25);refine⟨ah (aQ w _) (aQ _ _),by unfold FD;rw[World.size_alloc,World.size_alloc];omega,by unfold FD;rw[World.size_alloc,World.size_alloc];omega,cell_of_row _ _ 0 _ _ _ h,cell_of_row _ _ 1 _ _ _ h,heap_alloc2_new w _ _⟩
def qo(w:World)(s:Bool)(x:Value)(t:Bool)(y:Value):World:=((w.alloc (.cells #[.bool s,x] 25)).alloc (.cells #[.bool t,y] 25)).alloc (.cells #[.bool false,.slice none 0 0] 25)
theorem bx2(w:World)(s:Bool)(x:Value)(t:Bool)(y:Value):Below w.heap.size w (qo w s x t y)∧w.heap.size<(qo w s x t y).heap.size∧w.heap.size+1<(qo w s x t y).heap.size∧w.heap.size+2<(qo w s x t y).heap.size∧(qo w s x t y).cell? ⟨w.heap.size,0,none⟩=some (.bool s)∧(qo w s x t y).cell? ⟨w.heap.size,1,none⟩=some x∧(qo w s x t y).cell? ⟨w.heap.size+1,0,none⟩=some (.bool t)∧(qo w s x t y).cell? ⟨w.heap.size+1,1,none⟩=some y∧(qo w s x t y).heap[w.heap.size+2]? =some (.cells #[.bool false,.slice none 0 0] 25 (0,0)):=by
 have h1:=heap_alloc2_old w (.cells #[.bool s,x] 25) (.cells #[.bool t,y] 25);have h2:=heap_alloc2_new w (.cells #[.bool s,x] 25) (.cells #[.bool t,y] 25);have e1:=(heap_alloc_old ((w.alloc (.cells #[.bool s,x] 25)).alloc (.cells #[.bool t,y] 25)) (.cells #[.bool false,.slice none 0 0] 25) (by rw[World.size_alloc,World.size_alloc];omega)).trans h1;have e2:=(heap_alloc_old ((w.alloc (.cells #[.bool s,x] 25)).alloc (.cells #[.bool t,y] 25)) (.cells #[.bool false,.slice none 0 0] 25) (by rw[World.size_alloc,World.size_alloc];omega)).trans h2;have e3:=heap_alloc_new ((w.alloc (.cells #[.bool s,x] 25)).alloc (.cells #[.bool t,y] 25)) (.cells #[.bool false,.slice none 0 0] 25);refine⟨ah (aQ w _) (ah (aQ _ _) (aQ _ _)),by unfold qo;rw[World.size_alloc,World.size_alloc,World.size_alloc];omega,by unfold qo;rw[World.size_alloc,World.size_alloc,World.size_alloc];omega,by unfold qo;rw[World.size_alloc,World.size_alloc,World.size_alloc];omega,cell_of_row _ _ 0 _ _ _ e1,cell_of_row _ _ 1 _ _ _ e1,cell_of_row _ _ 0 _ _ _ e2,cell_of_row _ _ 1 _ _ _ e2,?_⟩;rw[World.size_alloc,World.size_alloc]at e3;exact e3
theorem jg{w w1 w2:World}{q:Nat}(h1:Below w.heap.size w w1)(h2:aY w1 (fun k=>k=q) w2)(hq:w.heap.size≤q):Below w.heap.size w w2:=
 ⟨h2.os.trans h1.os,h2.tape.trans h1.tape,h2.output.trans h1.output,Nat.le_trans h1.size h2.size,fun k hk=>(h2.block k (Nat.lt_of_lt_of_le hk h1.size) om).trans (h1.block k hk)⟩
end
