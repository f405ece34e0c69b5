import Derived.Test.YtpopphdnlhihdaaGreatDoorU12
set_option linter.all false
set_option maxHeartbeats 10000000
set_option maxRecDepth 2000000
namespace Go.Proofs.YtpopphdnlhihdaaGreatDoor
section
open Go Go.RowKit Go.Proofs Ab
variable {a:Act}{w:World}{R:Exit→Act→World→Prop}
def oldB(l:List Oper)(n t:Nat):Bool:=(List.range n).all fun j=>vM l j != t
theorem jr{l:List Oper}{n t:Nat}(h:oldB l n t=true):∀j,j<n→vM l j≠t:=fun j a=>by
 have:=dh.1 h j (gQ.2 a);exact ku.1 this
def fl4tΦ(w0:World)(s t sr:Bool)(x y ur:Value)(qx qy qb:Nat)(z za zb:Int):Nat→Value→World→Prop
 |0,v,_=>v= .agg #[.bool sr,ur]
 |1,v,_=>v= .int .i64 z
 |2,v,_=>v= .bool true
 |3,v,_=>v= .bool true
 |4,v,_=>v= .agg #[.bool s,x]
 |5,v,_=>v= .int .i64 za
 |6,v,_=>v= .agg #[.bool t,y]
 |7,v,_=>v= .int .i64 zb
 |8,v,_=>v= .bool (za != zb)
 |_,_,_=>False
variable{t sr:Bool}{x y ur:Value}{qx qy:Nat}{z za zb:Int}
theorem fl4t{s:Bool}{qb:Nat}(hz:a.tmps.size=34)(h2:a.tmps.getD 2 undef= .pointer (some ⟨qx,0,none⟩))(H:a.tmps.getD 3 undef= .pointer (some ⟨qy,0,none⟩))(G:a.tmps.getD 7 undef= .pointer (some ⟨qb,0,none⟩))(l_qx:qx<w.heap.size)(l_qy:qy<w.heap.size)(Zr:qb<w.heap.size)(c0:w.cell? ⟨qx,0,none⟩=some (.bool s))(c1:w.cell? ⟨qx,1,none⟩=some (x))(c2:w.cell? ⟨qy,0,none⟩=some (.bool t))(c3:w.cell? ⟨qy,1,none⟩=some (y))(P:w.cell? ⟨qb,0,none⟩=some (.bool sr))(O:w.cell? ⟨qb,1,none⟩=some (ur))
 (hl:¬z=0) (F:∀c,Below w.heap.size w c→Calls Tryz.prog 77 #[.agg #[.bool sr,ur]] c (fun e j=>e= .returned (.int .i64 z)∧Below c.heap.size c j)) (cX:∀c,Below w.heap.size w c→Calls Tryz.prog 77 #[.agg #[.bool s,x]] c (fun e j=>e= .returned (.int .i64 za)∧Below c.heap.size c j)) (E:∀c,Below w.heap.size w c→Calls Tryz.prog 77 #[.agg #[.bool t,y]] c (fun e j=>e= .returned (.int .i64 zb)∧Below c.heap.size c j))
 (kk:∀(a':Act) (w':World),a'.tmps.size=34→a'.tmps.getD 2 undef=a.tmps.getD 2 undef→a'.tmps.getD 3 undef=a.tmps.getD 3 undef→a'.tmps.getD 4 undef=a.tmps.getD 4 undef→a'.tmps.getD 6 undef=a.tmps.getD 6 undef→a'.tmps.getD 7 undef=a.tmps.getD 7 undef→a'.tmps.getD 29 undef= .bool (za != zb)→a'.defers=a.defers→Below w.heap.size w w'→R .normal a' w'):(q1 (q1 (qd 3 (qf Tryz.f74)))).wp Tryz.prog R a w:=by
 refine Iq (n:=9) (N:=34) (fl4tΦ w s t sr x y ur qx qy qb z za zb) (fun _ _=>none) aN kf hz kf (fun i v c j A h hb=>?_) (fun i v c q A h hq=>?_) (fun i o a1 c A g f l hold wP K hK=>?_) (fun a1 c f C l hold hval hsep=>?_)
 ·match i,A with
  |0,_|1,_|2,_|3,_|4,_|5,_|6,_|7,_|8,_=>exact h
 ·cases hq
 ·match i,A,g with
  |0,_,g=>
   obtain rfl:=dS g;refine xu rfl ?_;have Y:=(hold 7 (jr gK)).trans G;have T:=(lU (i:=0) (l.block qb Zr)).trans P;have Q:=(lU (i:=1) (l.block qb Zr)).trans O;exact oT
  |1,_,g=>
   obtain rfl:=dS g;refine xu rfl ?_;have e0:a1.tmps.getD 20 undef= .agg #[.bool sr,ur]:=wP ⟨0,.data⟩ gM rfl;have u:=F c l;replace hK:=pu hK;go_tidy;have gA:=gJ a1;go_simp;refine u.mono ?_;rintro e j ⟨rfl,b⟩;exact hK.down _ j rfl b (fun q h=>by cases h)
  |2,_,g=>
   obtain rfl:=dS g;refine xu rfl ?_;have e1:a1.tmps.getD 21 undef= .int .i64 z:=wP ⟨1,.data⟩ gM rfl;replace hK:=pu hK;go_tidy;have gA:=gJ a1;go_simp;first|exact hK.down _ _ rfl (dQ _) (fun q h=>by cases h)|exact hK.down _ _ (congrArg Value.bool (by simp[hl])) (dQ _) (fun q h=>by cases h)
  |3,_,g=>
   obtain rfl:=dS g;refine xu rfl ?_;have e2:a1.tmps.getD 22 undef= .bool true:=wP ⟨2,.data⟩ gM rfl;exact oT
  |4,_,g=>
   obtain rfl:=dS g;have m:a1.tmps.getD 23 undef= .bool true:=wP ⟨3,.guard⟩ gM rfl;refine DU (d:=23) rfl kf f m dc rfl ?_;have g2:=(hold 2 (jr gK)).trans h2;have U:=(lU (i:=0) (l.block qx l_qx)).trans c0;have x1:=(lU (i:=1) (l.block qx l_qx)).trans c1;exact oT
  |5,_,g=>
   obtain rfl:=dS g;have m:a1.tmps.getD 23 undef= .bool true:=wP ⟨3,.guard⟩ gM rfl;refine DU (d:=23) rfl kf f m dc rfl ?_;have e4:a1.tmps.getD 24 undef= .agg #[.bool s,x]:=wP ⟨4,.data⟩ gM rfl;have u:=cX c l;replace hK:=pu hK;go_tidy;have gA:=gJ a1;go_simp;refine u.mono ?_;rintro e j ⟨rfl,b⟩;exact hK.down _ j rfl b (fun q h=>by cases h)
  |6,_,g=>
   obtain rfl:=dS g;have m:a1.tmps.getD 23 undef= .bool true:=wP ⟨3,.guard⟩ gM rfl;refine DU (d:=23) rfl kf f m dc rfl ?_;have Z:=(hold 3 (jr gK)).trans H;have x2:=(lU (i:=0) (l.block qy l_qy)).trans c2;have x3:=(lU (i:=1) (l.block qy l_qy)).trans c3;exact oT
  |7,_,g=>
   obtain rfl:=dS g;have m:a1.tmps.getD 23 undef= .bool true:=wP ⟨3,.guard⟩ gM rfl;refine DU (d:=23) rfl kf f m dc rfl ?_;have e6:a1.tmps.getD 26 undef= .agg #[.bool t,y]:=wP ⟨6,.data⟩ gM rfl;have u:=E c l;replace hK:=pu hK;go_tidy;have gA:=gJ a1;go_simp;refine u.mono ?_;rintro e j ⟨rfl,b⟩;exact hK.down _ j rfl b (fun q h=>by cases h)
  |8,_,g=>
   obtain rfl:=dS g;have m:a1.tmps.getD 23 undef= .bool true:=wP ⟨3,.guard⟩ gM rfl;refine DU (d:=23) rfl kf f m dc rfl ?_;have e5:a1.tmps.getD 25 undef= .int .i64 za:=wP ⟨5,.data⟩ gM rfl;have e7:a1.tmps.getD 27 undef= .int .i64 zb:=wP ⟨7,.data⟩ gM rfl;exact oT
 ·have M:a1.tmps.getD 23 undef= .bool true:=hval 3 dc;have J:=gI f M dc;have L:a1.tmps.getD 28 undef= .bool (za != zb):=hval 8 dc;have I:=gI f L dc;replace kk:=pu kk;clear F cX E;simp only[List.drop_succ_cons,List.drop_zero];go_wp2;refine kk.down _ c (by simp[f]) ((dM dc).trans (hold 2 (jr kf))) ((dM dc).trans (hold 3 (jr kf))) ((dM dc).trans (hold 4 (jr kf))) ((dM dc).trans (hold 6 (jr kf))) ((dM dc).trans (hold 7 (jr kf))) ?_ (by first|rfl|exact C) l;exact iQ (by simp[f])
def fl4fΦ(w0:World)(s t sr:Bool)(x y ur:Value)(qx qy qb:Nat)(z za zb:Int):Nat→Value→World→Prop
 |0,v,_=>v= .agg #[.bool sr,ur]
 |1,v,_=>v= .int .i64 z
 |2,v,_=>v= .bool false
 |3,v,_=>v= .bool false
 |4,v,_=>v=undef
 |5,v,_=>v=undef
 |6,v,_=>v=undef
 |7,v,_=>v=undef
 |8,v,_=>v=undef
 |_,_,_=>False
theorem fl4f{s:Bool}{qb:Nat}(hz:a.tmps.size=34)(h2:a.tmps.getD 2 undef= .pointer (some ⟨qx,0,none⟩))(P:a.tmps.getD 3 undef= .pointer (some ⟨qy,0,none⟩))(F:a.tmps.getD 7 undef= .pointer (some ⟨qb,0,none⟩))(l_qx:qx<w.heap.size)(l_qy:qy<w.heap.size)(Zr:qb<w.heap.size)(c0:w.cell? ⟨qx,0,none⟩=some (.bool s))(c1:w.cell? ⟨qx,1,none⟩=some (x))(c2:w.cell? ⟨qy,0,none⟩=some (.bool t))(c3:w.cell? ⟨qy,1,none⟩=some (y))(L:w.cell? ⟨qb,0,none⟩=some (.bool sr))(J:w.cell? ⟨qb,1,none⟩=some (ur))
 (hl:z=0) (C:∀c,Below w.heap.size w c→Calls Tryz.prog 77 #[.agg #[.bool sr,ur]] c (fun e l=>e= .returned (.int .i64 z)∧Below c.heap.size c l)) (cX:∀c,Below w.heap.size w c→Calls Tryz.prog 77 #[.agg #[.bool s,x]] c (fun e l=>e= .returned (.int .i64 za)∧Below c.heap.size c l)) (I:∀c,Below w.heap.size w c→Calls Tryz.prog 77 #[.agg #[.bool t,y]] c (fun e l=>e= .returned (.int .i64 zb)∧Below c.heap.size c l))
 (kk:∀(a':Act) (w':World),a'.tmps.size=34→a'.tmps.getD 2 undef=a.tmps.getD 2 undef→a'.tmps.getD 3 undef=a.tmps.getD 3 undef→a'.tmps.getD 4 undef=a.tmps.getD 4 undef→a'.tmps.getD 6 undef=a.tmps.getD 6 undef→a'.tmps.getD 7 undef=a.tmps.getD 7 undef→a'.tmps.getD 29 undef= .bool (false)→a'.defers=a.defers→Below w.heap.size w w'→R .normal a' w'):(q1 (q1 (qd 3 (qf Tryz.f74)))).wp Tryz.prog R a w:=by
 refine Iq (n:=9) (N:=34) (fl4fΦ w s t sr x y ur qx qy qb z za zb) (fun _ _=>none) aN kf hz kf (fun i v c l u h hb=>?_) (fun i v c q u h hq=>?_) (fun i o a1 c u g f m hold wP K hK=>?_) (fun a1 c f A m hold hval hsep=>?_)
 ·match i,u with
  |0,_|1,_|2,_|3,_|4,_|5,_|6,_|7,_|8,_=>exact h
 ·cases hq
 ·match i,u,g with
  |0,_,g=>
   obtain rfl:=dS g;refine xu rfl ?_;have Q:=(hold 7 (jr gK)).trans F;have O:=(lU (i:=0) (m.block qb Zr)).trans L;have M:=(lU (i:=1) (m.block qb Zr)).trans J;exact oT
  |1,_,g=>
   obtain rfl:=dS g;refine xu rfl ?_;have e0:a1.tmps.getD 20 undef= .agg #[.bool sr,ur]:=wP ⟨0,.data⟩ gM rfl;have E:=C c m;replace hK:=pu hK;go_tidy;have gA:=gJ a1;go_simp;refine E.mono ?_;rintro e l ⟨rfl,b⟩;exact hK.down _ l rfl b (fun q h=>by cases h)
  |2,_,g=>
   obtain rfl:=dS g;refine xu rfl ?_;have e1:a1.tmps.getD 21 undef= .int .i64 z:=wP ⟨1,.data⟩ gM rfl;replace hK:=pu hK;go_tidy;have gA:=gJ a1;go_simp;first|exact hK.down _ _ rfl (dQ _) (fun q h=>by cases h)|exact hK.down _ _ (congrArg Value.bool (by simp[hl])) (dQ _) (fun q h=>by cases h)
  |3,_,g=>
   obtain rfl:=dS g;refine xu rfl ?_;have T:a1.tmps.getD 22 undef= .bool false:=wP ⟨2,.data⟩ gM rfl;exact oT
  |4,_,g=>
   obtain rfl:=dS g;have j:a1.tmps.getD 23 undef= .bool false:=wP ⟨3,.guard⟩ gM rfl;exact DV (d:=23) rfl kf f j dc rfl (hK _ _ rfl (dQ _) (fun q h=>by cases h))
  |5,_,g=>
   obtain rfl:=dS g;have j:a1.tmps.getD 23 undef= .bool false:=wP ⟨3,.guard⟩ gM rfl;exact DV (d:=23) rfl kf f j dc rfl (hK _ _ rfl (dQ _) (fun q h=>by cases h))
  |6,_,g=>
   obtain rfl:=dS g;have j:a1.tmps.getD 23 undef= .bool false:=wP ⟨3,.guard⟩ gM rfl;exact DV (d:=23) rfl kf f j dc rfl (hK _ _ rfl (dQ _) (fun q h=>by cases h))
  |7,_,g=>
   obtain rfl:=dS g;have j:a1.tmps.getD 23 undef= .bool false:=wP ⟨3,.guard⟩ gM rfl;exact DV (d:=23) rfl kf f j dc rfl (hK _ _ rfl (dQ _) (fun q h=>by cases h))
  |8,_,g=>
   obtain rfl:=dS g;have j:a1.tmps.getD 23 undef= .bool false:=wP ⟨3,.guard⟩ gM rfl;exact DV (d:=23) rfl kf f j dc rfl (hK _ _ rfl (dQ _) (fun q h=>by cases h))
 ·have H:a1.tmps.getD 23 undef= .bool false:=hval 3 dc;have G:=gI f H dc;replace kk:=pu kk;clear C cX I;simp only[List.drop_succ_cons,List.drop_zero];go_wp2;refine kk.down _ c (by simp[f]) ((dM dc).trans (hold 2 (jr kf))) ((dM dc).trans (hold 3 (jr kf))) ((dM dc).trans (hold 4 (jr kf))) ((dM dc).trans (hold 6 (jr kf))) ((dM dc).trans (hold 7 (jr kf))) ?_ (by first|rfl|exact A) m;exact iQ (by simp[f])
end
section
open Go Go.RowKit Go.Proofs Ab
theorem heap_lt{w:World}{q:Nat}{o:Obj}(h:w.heap[q]? =some o):q<w.heap.size:=(pW.1 h).1
section
variable {w0 w w':World} {γ:Gh} {N c:Nat} {E:En} {Bx:Bs} {a a':Act}
theorem Zt(S:PS w0 N c E Bx γ a w){t j:Nat}{bt:TypeId}{y m:Δ}(h1:lk E t=some (.p j 0))(h2:lk Bx j=some (bt,[y,m])):∃q u v,a.tmps.getD t undef= .pointer (some ⟨q,0,none⟩)∧q<w.heap.size∧w.cell? ⟨q,0,none⟩=some u∧w.cell? ⟨q,1,none⟩=some v∧s0 w0 γ w y u∧s0 w0 γ w m v:=by
 obtain⟨q,hq,e⟩:=S.env t _ h1;obtain⟨z,xs,g,l,f⟩:=S.box j _ h2;obtain rfl:q=z:=dS (hq.symm.trans g);match xs,f with
 |[u,v],f=>exact⟨q,u,v,e,heap_lt l,vY l (k:=0) rfl,vY l (k:=1) rfl,f.1,f.2.1⟩
theorem PS.raw(S:PS w0 N c E Bx γ a w)(f:En)(hb:Below w.heap.size w w')(hz:a'.tmps.size=N)(hd:a'.defers=a.defers)(he:∀t d,lk f t=some d→(lk E t=some d∧a'.tmps.getD t undef=a.tmps.getD t undef)∨s2 w0 γ w' d (a'.tmps.getD t undef)):PS w0 N c f Bx γ a' w':=
 ⟨S.W.Tu (below_le S.W hb),hz,hd.trans S.df,fun t d h=>(he t d h).elim (fun h=>by rw[h.2];exact s2.up S.W (.of hb) (S.env t d h.1)) id,fun i b h=>(S.box i b h).up S.W (.of hb) fun q hq=>hb.block q (S.W.bn i q hq).2⟩
theorem QK(c:TO w){s:Bool}{A:List Nat}{d:Δ}{u:Value}{x:Int}(hd:d= .rd A∨∃t,d= .ow A t)(h:s0 w0 γ w d u)(z:Wd A)(j:A.length≤1000000000)(m:zv s A=x):∀a,Below w.heap.size w a→Calls Tryz.prog 77 #[.agg #[.bool s,u]] a (fun e g=>e= .returned (.int .i64 (gp x))∧Below a.heap.size a g):=fun a hb=>by
 have y:Rep0 a (fun q=>q<a.heap.size) u (.l 1 (W A)):=by
  rcases hd with rfl|⟨t,rfl⟩
  ·obtain⟨H,f,C⟩:=h;exact C.mono (fun q hq=>eu (f q hq).1 hb.size) fun q hq=>hb.block q (f q hq).1
  ·exact h.1.rep.mono (fun q hq=>eu hq hb.size) fun q hq=>hb.block q hq
 have:=Io (vs:=[.agg #[.bool s,u]]) (jX s A z j) (c.up hb) (fun q h=>h) (rp1 (IA.rep ⟨u,rfl,y⟩));rw[m]at this;exact this
end
variable {s t:Bool} {a b:List Nat} {x z:Int}
theorem f_floor(F:zv s a=x)(O:Wd a)(la:a.length≤100000000)(hz:zv t b=z)(hb:Wd b)(lb:b.length≤100000000)(h0:z≠0):Fn 74 [iD s a,iD t b] (.t [iO (x.fdiv z) 0,e0]):=by
 obtain⟨M,hM⟩:∃M:Nat,M=100000000:=⟨_,rfl⟩;have hl:x.natAbs<B^M:=by rw[←F];exact bF (s:=s) O om
 have lq:(dg B (zq x z).natAbs).length≤100000000:=bK (zlen (cZ (YX x z) hl)) om;have lr:(dg B (zr x z).natAbs).length≤100000000:=bK (zlen (cZ (YY x z) hl)) om;have hq:=w_quo F hz O la hb lb h0;have f:gp (zr x z)=0↔x.tmod z=0:=by
  rw[zr_p h0];unfold gp;generalize x.tmod z=z;split
  ·omega
  ·split<;>omega
 rw[La x z h0];refine dV Tryz.func74 (code:=qf Tryz.f74) rfl rfl fun w ac S=>?_
 refine bM fun _ _ _ S=>?_;(refine aj S (pc (hq)) fun _ _ _ S=>?_);refine bM fun _ _ _ S=>?_;refine eH S rfl (rfl) (wp_skip ?_);refine wp_seq (wp_seq ?_);obtain⟨qx,u0,U,e2,l2,c0,c1,L,I⟩:=Zt S (t:=2) rfl rfl;obtain⟨qy,v0,T,e3,l3,c2,c3,G,H⟩:=Zt S (t:=3) rfl rfl;obtain⟨qr,r0,ur,e7,Z,c4,c5,N,J⟩:=Zt S (t:=7) rfl rfl;obtain rfl:u0= .bool s:=L;obtain rfl:v0= .bool t:=G;obtain rfl:r0= .bool (decide (zr x z<0)):=N;have Y:=QK (S.W.j.up S.W.bel) (.inl rfl) I O om F;have sy:=QK (S.W.j.up S.W.bel) (.inl rfl) H hb om hz;have sr:=QK (S.W.j.up S.W.bel) (.inr ⟨_,rfl⟩) J (af _) om (fD (zr x z));by_cases l:x.tmod z=0
 ·rw[ah (fun h=>h.1 l)];refine fl4f (x:=U) (y:=T) (za:=gp x) (zb:=gp z) S.sz e2 e3 e7 l2 l3 Z c0 c1 c2 c3 c4 c5 (f.2 l) sr Y sy fun a4 w4 m E C A u m7 c P Q=>?_
  replace S:=S.raw [(29,.k (.bool false)),(2,_),(3,_),(4,_),(6,_)] Q m P fun t d h=>by
   rcases dK h with ⟨rfl,rfl⟩|⟨_,h⟩
   ·exact .inr c
   rcases dK h with ⟨rfl,rfl⟩|⟨_,h⟩
   ·exact .inl ⟨rfl,E⟩
   rcases dK h with ⟨rfl,rfl⟩|⟨_,h⟩
   ·exact .inl ⟨rfl,C⟩
   rcases dK h with ⟨rfl,rfl⟩|⟨_,h⟩
   ·exact .inl ⟨rfl,A⟩
   rcases dK h with ⟨rfl,rfl⟩|⟨_,h⟩
   ·exact .inl ⟨rfl,u⟩
   cases h
  refine eH S rfl (rfl) (wp_skip (bM ?_));clear S;intro _ _ _ S;exact wp_ret (gq [_] S rfl rfl ⟨⟨_,_,_,rfl,rfl,rfl⟩,rfl,trivial⟩)
 ·refine fl4t (x:=U) (y:=T) (za:=gp x) (zb:=gp z) S.sz e2 e3 e7 l2 l3 Z c0 c1 c2 c3 c4 c5 (fun h=>l (f.1 h)) sr Y sy fun a4 w4 m E C A u m7 c P Q=>?_
  replace S:=S.raw [(29,.k (.bool (gp x != gp z))),(2,_),(3,_),(4,_),(6,_)] Q m P fun t d h=>by
   rcases dK h with ⟨rfl,rfl⟩|⟨_,h⟩
   ·exact .inr c
   rcases dK h with ⟨rfl,rfl⟩|⟨_,h⟩
   ·exact .inl ⟨rfl,E⟩
   rcases dK h with ⟨rfl,rfl⟩|⟨_,h⟩
   ·exact .inl ⟨rfl,C⟩
   rcases dK h with ⟨rfl,rfl⟩|⟨_,h⟩
   ·exact .inl ⟨rfl,A⟩
   rcases dK h with ⟨rfl,rfl⟩|⟨_,h⟩
   ·exact .inl ⟨rfl,u⟩
   cases h
  by_cases g:gp x=gp z
  ·rw[ah (fun h=>h.2 g)];refine eH S rfl (by rw[g];simp) (wp_skip ?_);refine bM fun _ _ _ S=>?_;exact wp_ret (gq [_] S rfl rfl ⟨⟨_,_,_,rfl,rfl,rfl⟩,rfl,trivial⟩)
  ·rw[au ⟨l,g⟩];refine jG S rfl (by simp[g]) ?_;(refine gU 3 [_,_,_] [_,_,_] [[(6,none)],[],[(30,some 0),(31,some 1)]] rfl S aN kf kf kf ⟨px,pc (Zq (n:=1) dc),pc (w_sub (fD (zq x z)) (af _) lq (fD 1) (af 1) dc),trivial⟩ fun _ _ _ S=>?_);refine bM fun _ _ _ S=>?_;exact wp_ret (gq [_] S rfl rfl ⟨⟨_,_,_,rfl,rfl,rfl⟩,rfl,trivial⟩)
end
section
open Go Go.RowKit Ab
def BH:=an @wi<|an @aI<|an @aW<|an @aO<|an @aQ<|an @fZ<|an @di<|an @dR<|an @dH<|an @Yd<|an @Bl_nf @Ye
def a173:AC:= .seq (.reg [qr 2 (.mv (.k (.i .i64 0)))]) (.seq (.seq (.reg [qm 3 0,qr 4 (.bin .eql (.t 3) (.k (.i .u64 0)))]) (.cond (.t 4) (.seq (.reg [qr 2 (.mv (.k (.i .i64 64)))]) (.ret)) (.skip))) (.seq (.reg [qm 5 0,qm 6 0,qr 7 (.un .neg (.t 6)),qr 8 (.bin .and (.t 5) (.t 7)),qr 9 (.bin .mul (.t 8) (.k (.i .u64 285870213051353865))),qr 10 (.bin .shr (.t 9) (.k (.i .u64 58))),qr 11 (.Uh 64 1 (.k (.ip Jn 0)) (.t 10)),qr 12 (.ld false 1 (.t 11)),qr 13 (.MK .i64 (.t 12)),qm 2 13]) (.ret)))
theorem tab_ct0:∀k:Nat,k<64→(match Jn.getD (2^k*285870213051353865%18446744073709551616/2^58) .un with| .i .u8 n=>decide (n=(k:Int))|_=>false)=true:=by decide+kernel
theorem tab_ct(k:Nat)(a:k<64):Jn.getD (2^k*285870213051353865%18446744073709551616/2^58) .un= .i .u8 (k:Int):=by
 have h:=tab_ct0 k a;generalize Jn.getD (2^k*285870213051353865%18446744073709551616/2^58) .un=v at h ⊢;split at h
 ·rw[of_decide_eq_true h]
 ·cases h
theorem QL(x:Nat)(a:x<18446744073709551616)(h0:x≠0):aT 173 [.i .u64 (x:Int)] (.i .i64 ((ct x:Nat):Int)):=by
 have hl:=Ik (n:=64) a h0;have ht:=tab_ct (ct x) hl;have A:¬((x:Int)=0):=om;have j:IntKind.u64.wrap (0-(x:Int))=((18446744073709551616-x:Nat):Int):=by rw[IntKind.wrap_u64];omega
 have u:bits .and .u64 (x:Int) ((18446744073709551616-x:Nat):Int)=((2^ct x:Nat):Int):=by rw[X6 _ _ a om,low_bit h0 a]
 have l:IntKind.u64.wrap (((2^ct x:Nat):Int)*285870213051353865)=((2^ct x*285870213051353865%18446744073709551616:Nat):Int):=by
  rw[IntKind.wrap_u64];omega
 have f:=qV (2^ct x*285870213051353865%18446744073709551616) 58 dc;have g:2^ct x*285870213051353865%18446744073709551616/2^58<64:=(fP dc).2 (cu _ dc);have m:IntKind.i64.wrap ((ct x:Nat):Int)=((ct x:Nat):Int):=wi ⟨om,om⟩;have c:Jn.length=64:=rfl;generalize 2^ct x*285870213051353865%18446744073709551616=y at*
 generalize y/2^58=z at*
 replace f:((y:Nat):Int).fdiv (2^min (Int.toNat 58) IntKind.u64.bits)=((z:Nat):Int):=f;refine Jq aN a_ Tryz.func173 a173 ?_;unfold a173;simp only[dw,eU,qm,qr,qn];exact U8 (ai @eY<|ai @m<|ai @c<|ai @ht<|ai @f<|ai @l<|ai @u<|ai @j<|ai @A<|ai @bG @BH)
theorem Iz(a:List Nat)(y:Wd a)(J:a.length≤10000000000):aT 153 [.l 1 (W a)] (.i .i64 ((ct (nv B a):Nat):Int)):=by
 obtain⟨v,m⟩:∃v,v=nv B a:=⟨_,rfl⟩;rw[←m];refine f_ aN a_ Tryz.func153 ?_;refine aX (ai @bG @BH) ?_;refine aF [] Nat (fun i=>⟨[(5,.l 1 (W a)),(6,.i .i64 (a.length:Int)),(7,.i .i64 (i:Int))],[],0⟩) (fun i=>i≤a.length∧nv B (a.take i)=0) (fun i=>a.length-i) 0 ⟨aG _,by rw[List.take_zero];rfl⟩ (by exact oL) (by
  simp(disch:=(first|omega|assumption)) only[Sl,Sa,Sw,↓reduceIte,Nat.reduceEqDiff,Nat.reduceLT,jH,iI,Nat.reduceBneDiff,Nat.reduceAdd,ku,ne_eq,reduceCtorEq,kP,mZ,jf,jP,bW,bY,and_self,m_];try rfl) ?_
 intro i ⟨C,f⟩ M F E u;by_cases h:(i:Int)<(a.length:Int)
 ·have j:=fV y i;by_cases c:a.getD i 0=0
  ·have g:(((a.getD i 0:Nat):Int)=0)=True:=eq_true (by rw[c];rfl);refine aX (ai @g<|ai @h<|ai @bG @BH) ?_;refine F _ (i+1) ⟨om,?_⟩ om ?_
   ·rw[az,f,c];simp
   ·refine tV trivial ?_;omega
  ·have g:¬(((a.getD i 0:Nat):Int)=0):=om;have ht:=QL (a.getD i 0) j c;have hl:=Ik (n:=64) j c;have e:ct v=64*i+ct (a.getD i 0):=by
    have L:=yE (b:=B) dc y i;have H:v=B^i*nv B (a.drop i):=by
     have A:=yF (b:=B) (a.take i) (a.drop i);rw[List.take_append_drop,f,jo,pR C,eY,←m]at A;exact A
    have z:nv B (a.drop i)=a.getD i 0+2^64*nv B (a.drop (i+1)):=by
     rw[Dc (by omega:i<a.length)];show a[i]+B*_=_;rw[dN,bC om];rfl
    have G:B^i=2^(64*i):=by rw[B64,←Nat.pow_mul]
    rw[H,G,YU (by rw[z];omega),z,ct_add c j]
   have I:(((i:Int)*64)+((ct (a.getD i 0):Nat):Int))=((ct v:Nat):Int):=by rw[e];omega
   refine aX (ai @g<|ai @h<|ai @bG @BH) ?_;refine pJ (ai @g<|ai @h<|ai @bG @BH) ?_;refine u _ ?_;exact U8 (ai @I<|ai @bG @BH)
 ·obtain rfl:i=a.length:=om;rw[iH,←m]at f;have e0:ct v=0:=by rw[f];exact ct_0
  refine aX (ai @h<|ai @bG @BH) ?_;refine E _ _ ?_;repeat first|(refine hK _ ?_;clear hK K)|simp only[Sv,↓reduceIte,Nat.reduceEqDiff]|((first|refine ay (fun K hK=>?_)|refine ax (fun K hK=>?_)|refine ak (fun K hK=>?_));simp(disch:=(first|omega|assumption)) only[S1,seval,-Int.reduceToNat,-List.reduceReplicate,aK.sb,aK.mut,aU,↓aJ,aV,aC,BH,dJ,e0])
  simp(disch:=(first|omega|assumption)) only[dY,iF,iK,jv,fA,V.aP,bW,bY,S1,seval,-Int.reduceToNat,-List.reduceReplicate,aK.sb,aK.mut,aU,↓aJ,aV,aC,BH,dJ,e0]
theorem VI(a:List Nat)(f:Wd a)(c:a.length≤10000000000):aT 117 [.l 1 (W a)] (.i .i64 ((ct (nv B a):Nat):Int)):=by
 have h:=Iz a f c;refine f_ aN a_ Tryz.func117 ?_;exact jO (ai @bG @BH)
end
section
open Go Go.RowKit Ab
def bz_Z6:=an @gG<|an @jP<|an @wi<|an @aI<|an @aW<|an @aO<|an @aQ<|an @fZ<|an @di<|an @dR<|an @dH @lu
theorem QM(s:Bool)(a:List Nat)(c:Wd a)(f:a.length≤1000000000):aT 118 [zL s a] (.i .i64 ((bl (nv B a):Nat):Int)):=by
 have h:=mX a c om;refine f_ aN a_ Tryz.func118 ?_;exact jO (ai @bG @bz_Z6)
end
section
open Go Go.RowKit Ab
theorem pow_B{u m e:Nat}(h:u<B^m)(h1:1≤m):u^e<B^(m*e+1):=by
 have a:u^e≤(B^m)^e:=Nat.pow_le_pow_left (qC h) e;rw[←Nat.pow_mul]at a;exact cZ a (Nat.pow_lt_pow_right dc (Nat.lt_succ_self _))
theorem YQ(s:Bool)(u n:Nat):zI (s&&decide (n%2=1)) (u^n)=(zI s u)^n:=by
 induction n with
 |zero=>simp[zI]
 |succ n c=>
  rw[Int.pow_succ,←c];unfold zI;rw[dO];rcases Nat.mod_two_eq_zero_or_one n with h|h
  ·have a:(n+1)%2=1:=om;cases s<;>simp[h,a,jC,Int.mul_neg,Int.neg_mul,Int.neg_neg]
  ·have a:(n+1)%2=0:=om;cases s<;>simp[h,a,jC,Int.mul_neg,Int.neg_mul,Int.neg_neg]
end
section
open Go Go.RowKit Ab
def QN:=an @gG<|an @wi<|an @aI<|an @aW<|an @aO<|an @aQ<|an @fZ<|an @di<|an @dR<|an @dH @lu
theorem Lr{v n:Nat}(h:n≤1048576):Cb v (n:Int)=(dg B (v*2^n),0):=by unfold Cb;rw[ah om];rfl
theorem zI_mul2(s:Bool)(u n:Nat):zI s (u*2^n)=zI s u*2^n:=by
 unfold zI;cases s<;>simp[jC,Int.neg_mul]
def zlV(x:Int)(n:Int):Int:=if n<0∨1048576<n then 0 else x*2^n.toNat
def zlE(n:Int):Int:=if n<0∨1048576<n then 3 else 0
variable{u m:Nat}
theorem Oh{n e:Nat}(a:u<B^m)(c:n≤64*e):u*2^n<B^(m+e):=by
 have h2n:2^n≤B^e:=by
  rw[B64,←Nat.pow_mul];exact gX dc c
 rw[dn];exact eu (Nat.mul_lt_mul_of_pos_right a (t_ n)) (iZ _ h2n)
theorem yS{n:Nat}(a:u<B^m)(c:n≤1048576):u*2^n<B^(m+16384):=Oh a om
theorem Vr(s:Bool)(a:List Nat)(n:Int)(g:Wd a)(j:a.length≤1000000000):aT 73 [zL s a,.i .i64 n] (.t [zN (zlV (zv s a) n),.i .i64 (zlE n)]):=by
 have h:=wz a n g om;rw[show zv s a=zI s (nv B a)from rfl];by_cases h1:n<0
 ·rw[show zlV (zI s (nv B a)) n=0 from au (.inl h1),show zlE n=3 from au (.inl h1)];refine b_ aN a_ Tryz.func73 [.c 4 true 2,.t 5] ?_;exact pcQ (ai @Ja<|ai @h1<|ai @bG @QN)
 ·by_cases h2:1048576<n
  ·rw[show zlV (zI s (nv B a)) n=0 from au (.inr h2),show zlE n=3 from au (.inr h2)];refine b_ aN a_ Tryz.func73 [.c 4 true 2,.t 5] ?_;exact pcQ (ai @Ja<|ai @h2<|ai @h1<|ai @bG @QN)
  ·obtain⟨k,rfl⟩:∃k:Nat,n=(k:Int):=⟨n.toNat,om⟩;rw[Lr om]at h;have f:=rH s (nv B a*2^k);rw[zI_mul2]at f;rw[show zlV (zI s (nv B a)) (k:Int)=zI s (nv B a)*2^k from ah om,show zlE (k:Int)=0 from ah om];generalize zI s (nv B a)*2^k=z at*
   refine b_ aN a_ Tryz.func73 [.c 4 true 2,.t 5] ?_;exact lV (ai @h2<|ai @h1<|ai @bG @QN)
end
section
open Go Go.RowKit Ab
def Oi:=an @gG<|an @wi<|an @aI<|an @aW<|an @aO<|an @aQ<|an @fZ<|an @di<|an @dR<|an @dH @lu
theorem VJ(a b:List Nat)(g:Wd a)(hb:Wd b)(f:a.length≤1000000000)(c:b.length≤1000000000):
 aT 162 [.l 1 (W a),.l 1 (W b)] (.l 1 (W (qR (nv B a) (nv B b)))):=by
 have h:=YA a b g hb f c
 refine f_ aN a_ Tryz.func162 ?_
 exact jO (ai @bG @Oi)
theorem YD(a b:List Nat)(m:Nat)(hm:m≤1000000000)(E:Wd a)(hb:Wd b)(H:a.length≤m)(G:b.length≤m):
 aT 131 [.l 1 (W a),.l 1 (W b)] (.l 1 (W (dg B (Nat.gcd (nv B a) (nv B b))))):=by
 have P:=(rE a E om).frozen
 have O:=(rE b hb om).frozen
 have l1:=bP E H
 have I:=bP hb G
 have g:=fun x y (z:x<B^m) (c:y<B^m)=>VJ (dg B x) (dg B y) (af _) (af _) (bK (aA z) hm) (bK (aA c) hm)
 simp only[ae]at g
 generalize nv B a=u at*
 generalize nv B b=v at*
 refine f_ aN a_ Tryz.func131 ?_
 refine pJ (ai @bG @Oi) ?_
 refine aF [] (Nat×Nat) (fun s=>⟨[(0,.l 1 (W (dg B s.1))),(1,.l 1 (W (dg B s.2)))],[],0⟩)
  (fun s=>s.1<B^m∧s.2<B^m∧Nat.gcd s.1 s.2=Nat.gcd u v) (fun s=>s.2) (u,v) ⟨l1,I,rfl⟩ (by exact oL) (by
  simp(disch:=(first|omega|assumption)) only[Sl,Sa,Sw,↓reduceIte,Nat.reduceEqDiff,Nat.reduceLT,jH,iI,Nat.reduceBneDiff,Nat.reduceAdd,ku,ne_eq,reduceCtorEq,kP,mZ,jf,jP,bW,bY,and_self,m_]
  try rfl) ?_
 rintro⟨x,y⟩ ⟨z,c,A⟩ Q M J N
 simp only[]at z c A ⊢
 by_cases F:y=0
 ·subst F;rw[Nat.gcd_zero_right]at A;have f:¬(0:Int)<(((dg B 0).length:Nat):Int):=by rw[uX];decide
  rw[A];refine aX (ai @f<|ai @bG @Oi) ?_;refine J _ _ ?_;exact U8 (ai @bG @Oi)
 ·have f:0<y:=C_ F;have L:=g x y z c;rw[qR_p f]at L;have C:=BR (n:=y);have j:=cu x f;refine pJ (ai @f<|ai @C<|ai @bG @Oi) ?_;refine M _ (y,x%y) ⟨c,oh j c,?_⟩ j ?_
  ·simp only[];rw[←A,kH x y,Nat.gcd_rec y x,kH]
  ·exact lC
end
