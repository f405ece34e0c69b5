import Derived.Test.YtoehbmlfnjlchaaGreatDoorU19
set_option linter.all false
set_option maxHeartbeats 10000000
set_option maxRecDepth 2000000
namespace Go.Proofs.YtoehbmlfnjlchaaGreatDoor
open Go Go.RowKit Go.Proofs Ab
section
variable {a:Act}{w:World}{R:Exit→Act→World→Prop}
theorem dv8{sq sv sg:Bool}{uq us:Value}{qb qs:Nat}{A:List Nat}(hz:a.tmps.size=41)(h7:a.tmps.getD 7 undef= .pointer (some ⟨qb,0,none⟩))(h10:a.tmps.getD 10 undef= .pointer (some ⟨qs,0,none⟩))
 (c0:w.cell? ⟨qb,0,none⟩=some (.bool sq)) (c1:w.cell? ⟨qb,1,none⟩=some uq) (c2:w.cell? ⟨qs,0,none⟩=some (.bool sv)) (c3:w.cell? ⟨qs,1,none⟩=some us) (hbox:w.heap[qb]? =some (.cells #[.bool sq,uq] 25 (0,0))) (cS:Calls Tryz.prog 8 #[.agg #[.bool sq,uq],.agg #[.bool sv,us]] w (zX w sg A))
 (kk:∀(a':Act) (w1:World) (u:Value),kA a a' 41 11 []<|Below w.heap.size w w1→Own w A u w1→R .normal a' (w1.setRow qb #[.bool sg,u])):(q1 (qd 2 (qt (q2 (q1 (qd 3 (qf Tryz.f13))))))).wp Tryz.prog R a w:=by
 replace kk:=pu kk
 refine rl fun gA=>?_
 go_wp2_with (first|(refine wpList_store_row rfl 25 _ _ rfl qb #[.bool sg,.slice ua m1 uc] gS gS 25 #[.bool sq,uq] m_ (by kernel_rfl) rfl (aN _ _ _ _) ?_)|(go_at_call 8;refine(cS).mono ?_;rintro e w1 ⟨v,rfl,b1,u,rfl,o1⟩;obtain⟨m1,hm1,p1⟩:=o1;obtain⟨ua,uc,rfl⟩:=aB p1;have m_:=(b1.block qb (aS hbox)).trans hbox))
 exact kk.down _ w1 _ gZ gN rfl b1 ⟨m1,hm1,p1⟩
def RZ(w0:World)(sr sg:Bool)(ur y:Value)(qr qy:Nat)(A B2:List Nat):Nat→Value→World→Prop
 |0,v,_=>v= .agg #[.bool sr,ur]
 |1,v,_=>v= .pointer (some ⟨qy,1,none⟩)
 |2,v,_=>v=y
 |3,v,w=>Own w0 B2 v w
 |4,v,w=>dA w0 (false&&decide (0<B2.length)) B2 v w
 |5,v,w=>dA w0 sg A v w
 |_,_,_=>False
theorem dv9{sr sg:Bool}{ur y:Value}{qr qy:Nat}{A B2:List Nat}(hz:a.tmps.size=41)(h8:a.tmps.getD 8 undef= .pointer (some ⟨qr,0,none⟩))(h3:a.tmps.getD 3 undef= .pointer (some ⟨qy,0,none⟩))(nP:qr<w.heap.size)(lW:qy<w.heap.size)(c0:w.cell? ⟨qr,0,none⟩=some (.bool sr))(c1:w.cell? ⟨qr,1,none⟩=some (ur))(c2:w.cell? ⟨qy,1,none⟩=some (y))
 (hbox:w.heap[qr]? =some (.cells #[.bool sr,ur] 25 (0,0))) (cN:∀w1,Below w.heap.size w w1→Calls Tryz.prog 44 #[y] w1 (kX w1 B2)) (cA:∀w1 u,Below w.heap.size w w1→Own w B2 u w1→Calls Tryz.prog 7 #[.agg #[.bool sr,ur],.agg #[.bool (false&&decide (0<B2.length)),u]] w1 (zX w1 sg A))
 (kk:∀(a':Act) (w':World) (u:Value),a'.tmps.size=41→a'.tmps.getD 4 undef=a.tmps.getD 4 undef→a'.tmps.getD 7 undef=a.tmps.getD 7 undef→a'.tmps.getD 8 undef= .pointer (some ⟨qr,0,none⟩)→a'.defers=a.defers→aY w (fun k=>k=qr) w'→w'.heap[qr]? =some (.cells #[.bool sg,u] 25 (0,0))→Own w A u w'→R .normal a' w'):(q2 (qd 2 (qt (q2 (q1 (qd 3 (qf Tryz.f13))))))).wp Tryz.prog R a w:=by
 refine fA (n:=6) (N:=41) (RZ w sr sg ur y qr qy A B2) (fun _ _=>none) dB (by kernel_rfl) hz (by kernel_rfl) (fun i v w1 w2 hi h hb=>?_) (fun i v w1 q hi h hq=>?_) (fun i o a1 w1 hi ho hsz hB hold aG K hK=>?_) (fun a1 w1 hsz hdf hB hold hval hsep=>?_)
 ·match i,hi with
  |0,_|1,_|2,_=>exact h
  |3,_=>exact Own.up h hb
  |4,_|5,_=>exact dA.up h hb
 ·cases hq
 ·match i,hi,ho with
  |0,_,ho=>
   obtain rfl:=Option.some.inj ho;have g8:=(hold 8 (aj gK)).trans h8;have x0:=(af (i:=0) (hB.block qr nP)).trans c0;have x1:=(af (i:=1) (hB.block qr nP)).trans c1;exact oT
  |1,_,ho=>
   obtain rfl:=Option.some.inj ho;have g3:=(hold 3 (aj gK)).trans h3;exact oT
  |2,_,ho=>
   obtain rfl:=Option.some.inj ho;have e1:a1.tmps.getD 33 undef= .pointer (some ⟨qy,1,none⟩):=aG ⟨1,.data⟩ gM rfl;have x2:=(af (i:=1) (hB.block qy lW)).trans c2;exact oT
  |3,_,ho=>
   obtain rfl:=Option.some.inj ho;have e2:a1.tmps.getD 34 undef=y:=aG ⟨2,.data⟩ gM rfl;have hc:=cN w1 hB;have hs:=hB.size;replace hK:=pu hK;go_tidy;have gA:=gJ a1;go_simp;refine hc.mono ?_;rintro e w2 ⟨u,m,rfl,b,o,hm⟩;exact hK.down u w2 ⟨m,hm,dC o hs⟩ b (fun q h=>by cases h)
  |4,_,ho=>
   obtain rfl:=Option.some.inj ho;have e3:RZ w sr sg ur y qr qy A B2 3 (a1.tmps.getD 35 undef) w1:=aG ⟨3,.data⟩ gM rfl;obtain⟨m,hm,ho'⟩:=e3;obtain⟨ua,uc,eu⟩:=aB ho';have g35:=gI hsz eu dc;rw[eu]at ho';have hc:=wO (s:=false) (w0:=w) (A:=B2) ⟨m,hm,ho'⟩;replace hK:=pu hK;go_tidy;have gA:=gJ a1;go_simp;refine hc.mono ?_;rintro e w2 ⟨v,rfl,b,hv⟩;exact hK.down v w2 hv b (fun q h=>by cases h)
  |5,_,ho=>
   obtain rfl:=Option.some.inj ho;have e0:a1.tmps.getD 32 undef= .agg #[.bool sr,ur]:=aG ⟨0,.data⟩ gM rfl;have e4:RZ w sr sg ur y qr qy A B2 4 (a1.tmps.getD 36 undef) w1:=aG ⟨4,.data⟩ gM rfl;obtain⟨u,eu,hu⟩:=e4;have g36:=gI hsz eu dc;have hc:=cA w1 u hB hu;have hs:=hB.size;replace hK:=pu hK;go_tidy;have gA:=gJ a1;go_simp;refine hc.mono ?_;rintro e w2 ⟨v,rfl,b,hv⟩;obtain⟨u',rfl,hu'⟩:=hv;exact hK.down _ w2 ⟨u',rfl,hu'.base hs⟩ b (fun q h=>by cases h)
 ·have eR:dA w sg A (a1.tmps.getD 37 undef) w1:=hval 5 dc;obtain⟨u,eu,hu⟩:=eR;have eP:=(hold 8 (aj (by kernel_rfl))).trans h8;have hb':=(hB.block qr nP).trans hbox;have hst:=dO (x:= .bool sg) (y:=u) hb' rfl;refine wpList_store_row rfl 25 (.tmp 8) (.tmp 37) rfl qr #[.bool sg,u] eP eu 25 #[.bool sr,ur] hb' (by kernel_rfl) rfl ?_ ?_
  ·obtain⟨m,_,ho⟩:=hu;obtain⟨ua,uc,rfl⟩:=aB ho;exact aN _ _ _ _
  ·refine kk _ _ u hsz (hold 4 (aj (by kernel_rfl))) (hold 7 (aj (by kernel_rfl))) eP hdf ?_ hst.2 (hu.st hb');exact⟨hst.1.os.trans hB.os,hst.1.tape.trans hB.tape,hst.1.output.trans hB.output,by have:=hB.size;have:=hst.1.size;omega,fun k hk hne=>(hst.1.block k (by have:=hB.size;omega) hne).trans (hB.block k hk)⟩
end
section
theorem nt0{a:Act}{w:World}{R:Exit→Act→World→Prop}(hz:a.tmps.size=9)
 (kk:∀(a':Act),kA a a' 9 4 [(4,.pointer (some ⟨w.heap.size,0,none⟩))]<|R .normal a' (w.alloc (.cells #[.bool false,.slice none 0 0] 25))):(q1 (qf Tryz.f21)).wp Tryz.prog R a w:=by
 replace kk:=pu kk
 refine rl fun gA=>?_
 go_wp2
 exact kk.down _ gZ gN gS rfl
theorem nt1{a:Act}{w:World}{R:Exit→Act→World→Prop}{s sg:Bool}{xa:Option Addr}{xn xc qr:Nat}{A:List Nat}{old:Array Value}(hz:a.tmps.size=9)(h0:a.tmps.getD 0 undef= .bool s)(h1:a.tmps.getD 1 undef= .slice xa xn xc)(h4:a.tmps.getD 4 undef= .pointer (some ⟨qr,0,none⟩))
 (hbox:w.heap[qr]? =some (.cells old 25 (0,0))) (hb2:old.size=2) (cN:Calls Tryz.prog 11 #[.agg #[.bool s,.slice xa xn xc]] w (zX w sg A))
 (kk:∀(a':Act) (w1:World) (u:Value),kA a a' 9 5 []<|Below w.heap.size w w1→Own w A u w1→R .normal a' (w1.setRow qr #[.bool sg,u])):(q1 (qd 1 (qf Tryz.f21))).wp Tryz.prog R a w:=by
 replace kk:=pu kk
 refine rl fun gA=>?_
 go_wp2_with (first|(refine wpList_store_row rfl 25 _ _ rfl qr #[.bool sg,.slice ua m1 uc] gS gS 25 old m_ (by kernel_rfl) hb2 (aN _ _ _ _) ?_)|(go_at_call 11;refine(cN).mono ?_;rintro e w1 ⟨v,rfl,b1,u,rfl,o1⟩;obtain⟨m1,hm1,p1⟩:=o1;obtain⟨ua,uc,rfl⟩:=aB p1;have m_:=(b1.block qr (aS hbox)).trans hbox))
 exact kk.down _ w1 _ gZ gN rfl b1 ⟨m1,hm1,p1⟩
theorem ab0{a:Act}{w:World}{R:Exit→Act→World→Prop}{s:Bool}{xa:Option Addr}{xn xc:Nat}(hz:a.tmps.size=6)(h0:a.tmps.getD 0 undef= .agg #[.bool s,.slice xa xn xc])
 (kk:∀(a':Act),kA a a' 6 1 [(1,.pointer (some ⟨w.heap.size,0,none⟩))]<|R .normal a' (w.alloc (.cells #[.bool s,.slice xa xn xc] 25))):(q1 (qf Tryz.f20)).wp Tryz.prog R a w:=by
 replace kk:=pu kk
 refine rl fun gA=>?_
 go_wp2
 exact kk.down _ gZ gN gS rfl
theorem ab1{a:Act}{w:World}{R:Exit→Act→World→Prop}{x:Value}{qx:Nat}{A:List Nat}(hz:a.tmps.size=6)(h1:a.tmps.getD 1 undef= .pointer (some ⟨qx,0,none⟩))
 (c1:w.cell? ⟨qx,1,none⟩=some x) (cN:Calls Tryz.prog 44 #[x] w (kX w A))
 (kk:∀(a':Act) (w1:World) (u:Value) (n:Nat),kA a a' 6 2 [(2,u)]<|Below w.heap.size w w1→w1.ownsRow w.heap.size 54 1 u n (Wv A)→n≤maxLen→R .normal a' w1):(q1 (qd 1 (qf Tryz.f20))).wp Tryz.prog R a w:=by
 replace kk:=pu kk
 refine rl fun gA=>?_
 go_wp2_with (go_at_call 44;refine(cN).mono ?_;rintro e w1 ⟨u,n,rfl,b1,o1,m1⟩;obtain⟨ua,uc,rfl⟩:=aB o1)
 exact kk.down _ w1 _ n gZ gN gS rfl b1 o1 m1
section
variable {w:World} {s:Bool} {a:List Nat} {Ha:Nat→Prop} (bH:∀q,Ha q→q<w.heap.size) (ha:Wd a) (la:a.length≤100000000)
include bH ha la
theorem R_{x:Value}(hr:aO w Ha x (.l 1 (W a))):Calls Tryz.prog 21 #[.bool s,x] w (ZR w (zv s a)):=by
 obtain⟨xa,xn,xc,rfl⟩:=bK hr;refine bW (vs:=[.bool s,.slice xa xn xc]) Tryz.func21 (c:=qf Tryz.f21) rfl (by show 2≤_;decide) fun a0 z0 e0 d0=>?_
 have i0:a0.tmps.getD 0 undef= .bool s:=e0 0 (by show 0<2;decide);have i1:a0.tmps.getD 1 undef= .slice xa xn xc:=e0 1 (by show 1<2;decide);change a0.tmps.size=9 at z0;have B1:=aQ w (.cells #[.bool false,.slice none 0 0] 25);have hb:=heap_alloc_new w (.cells #[.bool false,.slice none 0 0] 25);refine wp_seq ?_;refine nt0 z0 fun a1 z1 s1 k4 d1=>?_
 refine wp_seq ?_;have hIA:IA w Ha (.agg #[.bool s,.slice xa xn xc]) s a:=⟨_,rfl,hr⟩;refine nt1 z1 ((s1 0 dc).trans i0) ((s1 1 dc).trans i1) k4 hb rfl (BF (fun q h=>Nat.lt_of_lt_of_le (bH q h) B1.size) (hIA.up bH B1) ha la) fun a2 w2 u z2 s2 d2 B2 o2=>?_
 refine wp_ret ?_;have hb2:=(B2.block _ (aS hb)).trans hb;have hst:=dO (x:= .bool (decide (zv s a<0))) (y:=u) hb2 rfl;exact nI rfl (d2.trans (d1.trans d0)) ((s2 4 dc).trans k4) hst.2 ⟨_,rfl,dw (ah B1 B2) (Nat.le_refl _),u,rfl,(o2.base B1.size).st hb2⟩
theorem Si{vx:Value}(hx:IA w Ha vx s a):Calls Tryz.prog 20 #[vx] w (kX w (dg B (nv B a))):=by
 obtain⟨x,rfl,hr⟩:=hx;obtain⟨xa,xn,xc,rfl⟩:=bK hr;refine bW (vs:=[.agg #[.bool s,.slice xa xn xc]]) Tryz.func20 (c:=qf Tryz.f20) rfl (by show 1≤_;decide) fun a0 z0 e0 d0=>?_
 have i0:a0.tmps.getD 0 undef= .agg #[.bool s,.slice xa xn xc]:=e0 0 (by show 0<1;decide);change a0.tmps.size=6 at z0;have B1:=aQ w (.cells #[.bool s,.slice xa xn xc] 25);have hb:=heap_alloc_new w (.cells #[.bool s,.slice xa xn xc] 25);refine wp_seq ?_;refine ab0 z0 i0 fun a1 z1 s1 k1 d1=>?_
 refine wp_seq ?_;refine ab1 z1 k1 (cell_of_row _ _ 1 _ _ _ hb) (lM (vs:=[.slice xa xn xc]) (jl a ha om) (fun q h=>Nat.lt_of_lt_of_le (bH q h) B1.size) (z_ (hr.mono (fun _ h=>h) fun q h=>B1.block q (bH q h)))) fun a2 w2 u n z2 s2 k2 d2 B2 o2 m2=>?_
 refine wp_ret ?_;refine⟨d2.trans (d1.trans d0),_,bM (show dm Tryz.f20.results.toList=some [2]from rfl) _ _,u,n,?_,ah B1 B2,dC o2 B1.size,m2⟩;show Ending.returned (a2.tmps.getD 2 undef)=_;rw[k2]
end
end
def LS(q:Nat)(cs:Array Value)(w w':World):Prop:=aY w (fun k=>k=q) w'∧(w'.heap[q]? =w.heap[q]? ∨w'.heap[q]? =some (.cells cs 25 (0,0)))
theorem LS.rf(q:Nat)(cs:Array Value)(w:World):LS q cs w w:=⟨aY.refl _ _,.inl rfl⟩
theorem LS.dr(q:Nat)(cs:Array Value)(w:World):LS q cs w {w with drawn:=w.drawn+1}:=⟨⟨rfl,rfl,rfl,Nat.le_refl _,fun _ _ _=>rfl⟩,.inl rfl⟩
theorem LS.tr(q:Nat)(cs:Array Value)(a b c:World)(h1:LS q cs a b)(h2:LS q cs b c):LS q cs a c:=
 ⟨⟨h2.1.os.trans h1.1.os,h2.1.tape.trans h1.1.tape,h2.1.output.trans h1.1.output,Nat.le_trans h1.1.size h2.1.size,fun k hk hn=>(h2.1.block k (Nat.lt_of_lt_of_le hk h1.1.size) hn).trans (h1.1.block k hk hn)⟩,by
   rcases h2.2 with h|h
   ·rcases h1.2 with h3|h3
    ·exact .inl (h.trans h3)
    ·exact .inr (h.trans h3)
   ·exact .inr h⟩
def dv10Φ(sq:Bool)(ua:Option Addr)(un uc:Nat)(ur:Value)(qr qb:Nat):Nat→Value→World→Prop
 |0,v,_=>v= .agg #[.bool sq,.slice ua un uc]
 |1,v,_=>v= .pointer (some ⟨qb,1,none⟩)
 |2,v,_=>v=ur
 |3,_,w=>w.heap[qr]? =some (.cells #[.bool sq,.slice ua un uc] 25 (0,0))
 |_,_,_=>False
theorem dv10{a:Act}{w:World}{R:Exit→Act→World→Prop}{sq:Bool}{ua:Option Addr}{un uc:Nat}{ur:Value}{qr qq qb:Nat}{old:Array Value}(hz:a.tmps.size=41)(h4:a.tmps.getD 4 undef= .pointer (some ⟨qr,0,none⟩))(h7:a.tmps.getD 7 undef= .pointer (some ⟨qq,0,none⟩))(h8:a.tmps.getD 8 undef= .pointer (some ⟨qb,0,none⟩))(l_qq:qq<w.heap.size)(Iq:qb<w.heap.size)(n_qq:qq≠qr)(n_qb:qb≠qr)(c0:w.cell? ⟨qq,0,none⟩=some (.bool sq))(c1:w.cell? ⟨qq,1,none⟩=some (.slice ua un uc))(c2:w.cell? ⟨qb,1,none⟩=some ur)
 (hbox:w.heap[qr]? =some (.cells old 25 (0,0))) (hb2:old.size=2)
 (kk:∀(a':Act) (w':World),a'.tmps.size=41→a'.tmps.getD 4 undef= .pointer (some ⟨qr,0,none⟩)→a'.tmps.getD 5 undef=ur→a'.tmps.getD 6 undef= .int .i64 0→a'.defers=a.defers→aY w (fun k=>k=qr) w'→w'.heap[qr]? =some (.cells #[.bool sq,.slice ua un uc] 25 (0,0))→R .normal a' w'):(q1 (qd 4 (qf Tryz.f13))).wp Tryz.prog R a w:=by
 refine zW (LS qr #[.bool sq,.slice ua un uc]) (LS.dr _ _) (LS.tr _ _) (n:=4) (N:=41) (dv10Φ sq ua un uc ur qr qb) (fun _ _=>none) dB (by kernel_rfl) hz (by kernel_rfl) (fun i v w1 w2 hi h hb=>?_) (fun i v w1 q hi h hq=>?_) (fun i o v v' w1 hi ho hd h=>?_) (fun i o a1 w1 hi ho hsz hB hold aG K hK=>?_) (fun a1 w1 hsz hdf hB hold hval hsep=>?_)
 ·match i,hi with
  |0,_=>exact h
  |1,_=>exact h
  |2,_=>exact h
  |3,_=>
   rcases hb.2 with h1|h1
   ·exact h1.trans h
   ·exact h1
 ·cases hq
 ·match i,hi,ho with
  |0,_,ho=>obtain rfl:=Option.some.inj ho;cases hd
  |1,_,ho=>obtain rfl:=Option.some.inj ho;cases hd
  |2,_,ho=>obtain rfl:=Option.some.inj ho;cases hd
  |3,_,ho=>exact⟨h,rfl⟩
 ·match i,hi,ho with
  |0,_,ho=>
   obtain rfl:=Option.some.inj ho;refine bP rfl ?_;have g7:=gI hsz ((hold 7 (aj (by kernel_rfl))).trans h7) dc;have x0:=(af (i:=0) (hB.1.block qq l_qq n_qq)).trans c0;have x1:=(af (i:=1) (hB.1.block qq l_qq n_qq)).trans c1;have hk:=PLift.up hK;clear hK hold aG;go_simp;exact hk.down _ _ rfl (LS.rf _ _ _) (fun q h=>by cases h)
  |1,_,ho=>
   obtain rfl:=Option.some.inj ho;refine bP rfl ?_;have g8:=gI hsz ((hold 8 (aj (by kernel_rfl))).trans h8) dc;have hk:=PLift.up hK;clear hK hold aG;go_simp;exact hk.down _ _ rfl (LS.rf _ _ _) (fun q h=>by cases h)
  |2,_,ho=>
   obtain rfl:=Option.some.inj ho;refine bP rfl ?_;have e1:a1.tmps.getD 39 undef= .pointer (some ⟨qb,1,none⟩):=aG ⟨1,.data⟩ sy rfl;have g39:=gI hsz e1 dc;have x2:=(af (i:=1) (hB.1.block qb Iq n_qb)).trans c2;have hk:=PLift.up hK;clear hK hold aG;go_simp;exact hk.down _ _ rfl (LS.rf _ _ _) (fun q h=>by cases h)
  |3,_,ho=>
   obtain rfl:=Option.some.inj ho;refine bP rfl ?_;have e0:a1.tmps.getD 38 undef= .agg #[.bool sq,.slice ua un uc]:=aG ⟨0,.data⟩ sy rfl;have eP:=(hold 4 (aj (by kernel_rfl))).trans h4;obtain⟨cur,hc,hs⟩:∃cur:Array Value,w1.heap[qr]? =some (.cells cur 25 (0,0))∧cur.size=2:=by
    rcases hB.2 with h1|h1
    ·exact⟨old,h1.trans hbox,hb2⟩
    ·exact⟨_,h1,rfl⟩
   have hst:=dO (x:= .bool sq) (y:= .slice ua un uc) hc hs;refine wp_store_row 25 (.tmp 4) (.tmp 38) rfl qr #[.bool sq,.slice ua un uc] eP e0 25 cur hc (by kernel_rfl) hs (aN _ _ _ _) ?_;exact hK undef _ hst.2 ⟨hst.1,.inr hst.2⟩ (fun q h=>by cases h)
 ·have e2:a1.tmps.getD 40 undef=ur:=hval 2 dc;have e3:=hval 3 dc;have g40:=gI hsz e2 dc;have eP:=(hold 4 (aj (by kernel_rfl))).trans h4;have iU:=PLift.up kk;clear kk;simp only[List.drop_succ_cons,List.drop_zero];go_wp2;refine iU.down _ w1 (by simp[hsz]) ?_ ?_ ?_ (by first|rfl|exact hdf) hB.1 e3
  ·exact(ae dc).trans ((ae dc).trans eP)
  ·exact(ae dc).trans (aC (by simp[hsz]))
  ·exact aC (by simp[hsz])
theorem Own.bel{w0 w w':World}{A:List Nat}{v:Value}{q:Nat}{old:Array Value}(h:Own w0 A v w)(hb:aY w (fun k=>k=q) w')(hg:w.heap[q]? =some (.cells old 25 (0,0))):Own w0 A v w':=by
 obtain⟨m,hm,ho⟩:=h;refine⟨m,hm,bg ho fun k hk=>hb.block k (ho.lt k hk).2 fun e=>?_⟩;subst e;rcases ho.2 with ⟨rfl,_⟩|⟨g,cap,cur,rfl,_,h2,_⟩
 ·cases hk
 ·cases hk;rw[hg]at h2;cases h2
def IntD(w:World)(s1:Bool)(A1 A2:List Nat)(f:Int)(e:Ending)(w':World):Prop:=
 ∃u1 u2,e= .returned (.tuple #[.agg #[.bool s1,u1],u2,.int .i64 f])∧Below w.heap.size w w'∧Own w A1 u1 w'∧Own w A2 u2 w'∧∀q,u1.ownBlock=some q→u2.ownBlock≠some q
theorem BH{fn:Func}{a:Act}{w':World}{R:Ending→World→Prop}{p u u2 g:Nat}{s:Bool}{x y y2:Value}{fr:Nat×Nat}(h:fn.results=#[.cell p 25,.tmp u,.tmp u2])(hd:a.defers=[])(hp:a.tmps.getD p undef= .pointer (some ⟨g,0,none⟩))(hg:w'.heap[g]? =some (.cells #[.bool s,x] 25 fr))(hu:a.tmps.getD u undef=y)(hu2:a.tmps.getD u2 undef=y2)(hR:R (.returned (.tuple #[.agg #[.bool s,x],y,y2])) w'):bodyPost Tryz.prog fn R .ret a w':=by
 refine⟨hd,_,?_,hR⟩;have hp':a.tmps[p]?.getD undef= .pointer (some ⟨g,0,none⟩):=by simpa using hp
 have hu':a.tmps[u]?.getD undef=y:=by simpa using hu
 have hu2':a.tmps[u2]?.getD undef=y2:=by simpa using hu2
 simp[results,h,hp',hu',hu2',asAddr,run_loadVar_row w' g _ 25 _ fr _ hg Tryz.underlying25 rfl (by kernel_rfl),Sem.run_bind,Result.andThen]
theorem XW{f:FuncId}{args:List V}{z:Int}{w:World}{vs:List Value}(c:aF Tryz.prog J0 f args (zN z))(hr:aA w (fun _=>False) vs args):Calls Tryz.prog f vs.toArray w (fun e w1=>∃v,e= .returned v∧Below w.heap.size w w1∧IA w1 (fun q=>w.heap.size≤q∧q<w1.heap.size) v (decide (z<0)) (dg B z.natAbs)):=by
 refine((c.Yl rfl) w _ vs trivial (MO _ _) (fun _ h=>h.elim) hr).mono ?_;rintro e w' ⟨v,rfl,hB,N,hN,h⟩;rcases h with h|⟨e,sz,cs,n,xs,he,_⟩|⟨r,h,_⟩
 ·obtain⟨vs,rfl,hv⟩:=(Rep.up (ov:=fun _=>none) h).yx;match vs,hv with
  |[],hv=>exact absurd hv.1 sy
  |[_],hv=>exact absurd hv.1 sy
  |_::_::_::_,hv=>exact absurd hv.1 sy
  |[p,q],hv=>
   have h1:=hv.2 0 p _ rfl rfl;have h2:=hv.2 1 q _ rfl rfl;have e1:=(Rep.up (ov:=fun _=>none) h1).nT;subst e1;exact⟨_,rfl,hB,q,rfl,h2.mono (fun q hq=>hq.elim (fun h=>h.elim) (fun h=>hN q h)) fun _ _=>rfl⟩
 ·cases he
 ·cases h
theorem Sj{w:World}:Calls Tryz.prog 45 #[.int .i64 1] w (fun e w2=>∃v,e= .returned v∧Below w.heap.size w w2∧IA w2 (fun q=>w.heap.size≤q∧q<w2.heap.size) v false (dg B 1)):=
 XW (vs:=[.int .i64 1]) (z:=1) (wJ 1 dc dc) (z_ (.i _ _))
theorem MB{w:World}:Calls Tryz.prog 45 #[.int .i64 (-1)] w (fun e w2=>∃v,e= .returned v∧Below w.heap.size w w2∧IA w2 (fun q=>w.heap.size≤q∧q<w2.heap.size) v true (dg B 1)):=
 XW (vs:=[.int .i64 (-1)]) (z:= -1) (wJ (-1) dc dc) (z_ (.i _ _))
theorem dv67{a:Act}{w:World}{R:Exit→Act→World→Prop}{t:Bool}{y:Value}{b:List Nat}{Ha:Nat→Prop}{qy qs:Nat}{us:Value}{old:Array Value}(hz:a.tmps.size=41)(h3:a.tmps.getD 3 undef= .pointer (some ⟨qy,0,none⟩))(h10:a.tmps.getD 10 undef= .pointer (some ⟨qs,0,none⟩))(c2:w.cell? ⟨qy,0,none⟩=some (.bool t))(c3:w.cell? ⟨qy,1,none⟩=some y)(bH:∀q,Ha q→q<w.heap.size)(hy:IA w Ha (.agg #[.bool t,y]) t b)(hb':Wd b)(lb:b.length≤100000000)
 (hbox:w.heap[qs]? =some (.cells #[.bool false,us] 25 (0,0))) (hus:IA w (fun q=>q<w.heap.size) (.agg #[.bool false,us]) false (dg B 1))
 (kk:∀(a':Act) (w':World) (us':Value),kA a a' 41 11 []<|aY w (fun k=>k=qs) w'→w'.heap[qs]? =some (.cells #[.bool (decide (zv t b<0)),us'] 25 (0,0))→IA w' (fun q=>q<w'.heap.size) (.agg #[.bool (decide (zv t b<0)),us']) (decide (zv t b<0)) (dg B 1)→R .normal a' w'):(q1 (qd 1 (qt (q2 (q1 (qd 3 (qf Tryz.f13))))))).wp Tryz.prog R a w:=by
 have hs:=oU bH hy hb' om
 refine wp_seq ?_
 by_cases hn:zv t b<0
 ·have e1:decide (zv t b<0)=true:=decide_eq_true hn;rw[e1]at kk;refine dv6t hz h3 c2 c3 hs (by unfold jy;rw[if_pos hn];decide) fun a1 w1 z1 s1 h27 d1 B1=>?_
  refine wp_cond_true (by rw[az,h27]) ?_;refine dv7 z1 ((s1 10 dc).trans h10) ((B1.block _ (aS hbox)).trans hbox) rfl MB fun a2 w2 ua un uc z2 s2 d2 B2 h2=>?_
  have hb2:=(B2.block _ (Nat.lt_of_lt_of_le (aS hbox) B1.size)).trans ((B1.block _ (aS hbox)).trans hbox);have hst:=dO (x:= .bool true) (y:= .slice ua un uc) hb2 rfl;have hB:=ah B1 B2;refine kk a2 _ _ z2 (fun t ht=>(s2 t ht).trans (s1 t ht)) (d2.trans d1) ⟨hst.1.os.trans hB.os,hst.1.tape.trans hB.tape,hst.1.output.trans hB.output,Nat.le_trans hB.size hst.1.size,fun k hk hne=>(hst.1.block k (Nat.lt_of_lt_of_le hk hB.size) hne).trans (hB.block k hk)⟩ hst.2 ?_;obtain⟨x,e,r⟩:=h2;have hq:=Nat.lt_of_lt_of_le (aS hbox) B1.size;exact⟨x,e,r.mono (fun q hq=>Nat.lt_of_lt_of_le hq.2 hst.1.size) fun q h=>setRow_other _ _ _ _ om⟩
 ·have e1:decide (zv t b<0)=false:=decide_eq_false hn;rw[e1]at kk;refine dv6f hz h3 c2 c3 hs (by unfold jy;rw[if_neg hn];split<;>decide) fun a1 w1 z1 s1 h27 d1 B1=>?_
  refine wp_cond_false (by rw[az,h27]) ?_;refine wp_skip ?_;exact kk a1 w1 us z1 s1 d1 ⟨B1.os,B1.tape,B1.output,B1.size,fun k hk _=>B1.block k hk⟩ ((B1.block _ (aS hbox)).trans hbox) (let h:=hus.up (fun q h=>h) B1;let ⟨x,e,r⟩:=h;⟨x,e,r.mono (fun q hq=>Nat.lt_of_lt_of_le hq B1.size) fun _ _=>rfl⟩)
section
section
variable {w:World} {vx:Value} {s:Bool} {a:List Nat} {Ha:Nat→Prop} (bH:∀q,Ha q→q<w.heap.size) (hx:IA w Ha vx s a) (ha:Wd a) (la:a.length≤100000000)
variable {vy:Value} {t:Bool} {b:List Nat} (hy:IA w Ha vy t b) (hb':Wd b) (lb:b.length≤100000000)
include bH hx ha la hy hb' lb
theorem Sr:Calls Tryz.prog 13 #[vx,vy] w (IntD w (decide ((zv s a).ediv (zv t b)<0)) (dg B ((zv s a).ediv (zv t b)).natAbs) (dg B (FC (zv s a) (zv t b))) (ze (zv t b))):=by
 have hx0:=hx;have hy0:=hy;obtain⟨x,rfl,hr⟩:=hx;obtain⟨xa,xn,xc,rfl⟩:=bK hr;obtain⟨y,rfl,hs⟩:=hy;obtain⟨ya,yn,yc,rfl⟩:=bK hs;obtain⟨B1,l1,l2,l3,c0,c1,c2,c3,hb⟩:=bx2 w s (.slice xa xn xc) t (.slice ya yn yc);have hHw:∀w1,Below w.heap.size w w1→∀q,Ha q→q<w1.heap.size:=fun w1 hB q h=>Nat.lt_of_lt_of_le (bH q h) hB.size
 have hqz:=wP (hHw _ B1) (hx0.up bH B1) ha la (hy0.up bH B1) hb' lb;have hl:=qW (s:=s) ha la;have lq:(dg B (zq (zv s a) (zv t b)).natAbs).length≤100000000:=V7 (Nat.lt_of_le_of_lt (zO (zv s a) (zv t b)) hl);have lr:(dg B (zr (zv s a) (zv t b)).natAbs).length≤100000000:=V7 (Nat.lt_of_le_of_lt (zQ (zv s a) (zv t b)) hl);generalize zv s a=X at*
 have hvb:(zv t b).natAbs=nv B b:=mY t b;generalize hY:zv t b=Y at*
 refine bW (vs:=[.agg #[.bool s,.slice xa xn xc],.agg #[.bool t,.slice ya yn yc]]) Tryz.func13 (c:=qf Tryz.f13) rfl (by show 2≤_;decide) fun a0 z0 e0 d0=>?_
 have i0:a0.tmps.getD 0 undef= .agg #[.bool s,.slice xa xn xc]:=e0 0 (by show 0<2;decide);have i1:a0.tmps.getD 1 undef= .agg #[.bool t,.slice ya yn yc]:=e0 1 (by show 1<2;decide);change a0.tmps.size=41 at z0;refine wp_seq ?_;refine dv0 z0 i0 i1 fun a1 z1 s1 k2 k3 k4 k5 k6 d1=>?_
 refine wp_seq ?_;refine dv1 z1 k2 k3 c0 c1 c2 c3 hqz fun a2 w2 u1 u2 z2 s2 k7 k8 k9 d2 B2 o1 o2 RN=>?_
 obtain⟨B3,ls,hq1,hq2⟩:=wQ w2 (decide (zq X Y<0)) u1 (decide (zr X Y<0)) u2;have s12:=B1.size;have s22:=B2.size;have BW:=ah B1 (ah B2 B3);have hbW:=((ah B2 B3).block _ l3).trans hb;have o1W:=(o1.base s12).up B3;have o2W:=(o2.base s12).up B3;have hyW:=(ah B2 B3).block _ l2;have j2:=(s2 2 dc).trans k2;have j3:=(s2 3 dc).trans k3;have j4:=(s2 4 dc).trans k4;generalize MP w2 (decide (zq X Y<0)) u1 (decide (zr X Y<0)) u2=W at*
 have dd:a2.defers=[]:=d2.trans (d1.trans ‹a0.defers=[]›);refine wp_seq ?_;refine wp_seq ?_;by_cases hf:ze Y=0
 ·have h0:Y≠0:=fun h=>by rw[h]at hf;cases hf
  have fin:∀(a5:Act) (w5:World) (z:Int) (u ur:Value) (sr:Bool) (m:Nat),a5.tmps.size=41→a5.tmps.getD 4 undef= .pointer (some ⟨w.heap.size+2,0,none⟩)→a5.tmps.getD 7 undef= .pointer (some ⟨w2.heap.size,0,none⟩)→a5.tmps.getD 8 undef= .pointer (some ⟨w2.heap.size+1,0,none⟩)→a5.defers=[]→Below w.heap.size w w5→w5.heap[w.heap.size+2]? =some (.cells #[.bool false,.slice none 0 0] 25 (0,0))→w5.heap[w2.heap.size]? =some (.cells #[.bool (decide (z<0)),u] 25 (0,0))→w5.heap[w2.heap.size+1]? =some (.cells #[.bool sr,ur] 25 (0,0))→Own w (dg B z.natAbs) u w5→Own w (dg B m) ur w5→(∀q,u.ownBlock=some q→ur.ownBlock≠some q)→z=X.ediv Y→m=FC X Y→(qd 4 (qf Tryz.f13)).wp Tryz.prog (bodyPost Tryz.prog Tryz.f13 (IntD w (decide (X.ediv Y<0)) (dg B (X.ediv Y).natAbs) (dg B (FC X Y)) (ze Y))) a5 w5:=by
   intro a5 w5 z u ur sr m y1 y2 y3 y4 y5 y6 y7 y8 y9 y10 y11 y12 y13 y14;subst y13 y14;obtain⟨m,hm,ho⟩:=y10;obtain⟨ua,uc,rfl⟩:=aB ho;refine wp_seq ?_;refine dv10 (ur:=ur) y1 y2 y3 y4 (aS y8) (aS y9) om om (cell_of_row _ _ 0 _ _ _ y8) (cell_of_row _ _ 1 _ _ _ y8) (cell_of_row _ _ 1 _ _ _ y9) y7 rfl fun a6 w6 z6 h4 h5 h6 d6 bel hbx=>?_
   refine wp_ret ?_;refine BH rfl (d6.trans y5) h4 hbx h5 h6 ⟨_,_,by rw[hf],jg y6 bel om,Own.bel ⟨m,hm,ho⟩ bel y7,y11.bel bel y7,y12⟩
  refine dv2f z2 k9 hf fun a3 z3 s3 h19 d3=>?_
  refine wp_cond_false (by rw[az,h19]) ?_;refine wp_skip ?_;have zrr:=EO (x:=X) h0;have g7:=(s3 7 dc).trans k7;have g8:=(s3 8 dc).trans k8;have g3:=(s3 3 dc).trans j3;have g4:=(s3 4 dc).trans j4;obtain⟨ed1,ed2⟩:=JC X Y h0;refine wp_seq ?_;refine wp_seq ?_;refine dv4 z3 g8 (cell_of_row _ _ 0 _ _ _ hq2) fun a4 z4 s4 h23 d4=>?_
  by_cases hr:zr X Y<0
  ·refine wp_cond_true (by rw[az,h23];simp[hr]) ?_;obtain⟨e1,e2⟩:=ed1 (by rw[←zrr];exact hr);have hW:=BW.size;have hWs:=ls;refine wp_seq ?_;refine dv5 z4 Sj fun a5 w5 ua un uc z5 s5 h10 d5 B5 h5=>?_
   obtain⟨B6,ls6,hq6⟩:=l7 w5 false (.slice ua un uc);have B56:=ah B5 B6;have s5W:=B5.size;have hI5:IA (Du w5 false (.slice ua un uc)) (fun q=>q<(Du w5 false (.slice ua un uc)).heap.size) (.agg #[.bool false,.slice ua un uc]) false (dg B 1):=by
    obtain⟨x,e,r⟩:=h5.up (fun q h=>h.2) B6;exact⟨x,e,r.mono (fun q hq=>Nat.lt_of_lt_of_le hq.2 B6.size) fun _ _=>rfl⟩
   generalize Du w5 false (.slice ua un uc)=W5 at*
   have BW5:=ah BW B56;have f3:=(s5 3 dc).trans ((s4 3 dc).trans g3);have f4:=(s5 4 dc).trans ((s4 4 dc).trans g4);have f7:=(s5 7 dc).trans ((s4 7 dc).trans g7);have f8:=(s5 8 dc).trans ((s4 8 dc).trans g8);have yc5:∀{o:Nat} {v:Value},(qo w s (.slice xa xn xc) t (.slice ya yn yc)).cell? ⟨w.heap.size+1,o,none⟩=some v→W5.cell? ⟨w.heap.size+1,o,none⟩=some v:=fun h=>(af ((B56.block _ om).trans hyW)).trans h
   refine wp_seq ?_;refine dv67 (old:=#[]) (b:=b) (Ha:=Ha) (us:= .slice ua un uc) z5 f3 h10 (yc5 c2) (yc5 c3) (hHw _ BW5) (hy0.up bH BW5) hb' lb hq6 hI5 fun a6 w6 us z6 s6 d6 Su hbx6 hI6=>?_
   rw[hY]at hbx6 hI6;have s56:=Su.size;have BW6:=jg BW5 Su om;have t6:∀k,k<W.heap.size→w6.heap[k]? =W.heap[k]? :=fun k hk=>(Su.block k om om).trans (B56.block k hk)
   have o16:Own w (dg B (zq X Y).natAbs) u1 w6:=(o1W.up B56).bel Su hq6;have hstep:zv (decide (Y<0)) (dg B 1)=jy Y:=by
    unfold jy;by_cases h:Y<0
    ·rw[if_pos h,decide_eq_true h];exact kW (-1)
    ·rw[if_neg h,decide_eq_false h,if_pos om];exact kW 1
   refine wp_seq ?_;refine dv8 (sg:=decide (zq X Y-jy Y<0)) (A:=dg B (zq X Y-jy Y).natAbs) z6 ((s6 7 dc).trans f7) ((s6 10 dc).trans h10) (cell_of_row _ _ 0 _ _ _ ((t6 _ om).trans hq1)) (cell_of_row _ _ 1 _ _ _ ((t6 _ om).trans hq1)) (cell_of_row _ _ 0 _ _ _ hbx6) (cell_of_row _ _ 1 _ _ _ hbx6) ((t6 _ om).trans hq1) ?_ fun a7 w7 u7 z7 s7 d7 B7 o7=>?_
   ·have:=zY (fun q h=>h) (dA.ia (s:=decide (zq X Y<0)) (w0:=w) ⟨u1,rfl,o16⟩) (bF _) lq hI6 (bF _) dc;rw[kW,hstep]at this;exact this
   have s7W:=B7.size;have BW7:=ah BW6 B7;have t7:∀k,k<W.heap.size→w7.heap[k]? =W.heap[k]? :=fun k hk=>(B7.block k om).trans (t6 k hk)
   have hq7:=(t7 _ om).trans hq1;have hst7:=dO (x:= .bool (decide (zq X Y-jy Y<0))) (y:=u7) hq7 rfl;have o7':Own w (dg B (zq X Y-jy Y).natAbs) u7 w7:=o7.base BW6.size;have o27:Own w (dg B (zr X Y).natAbs) u2 w7:=((o2W.up B56).bel Su hq6).up B7;have hBW:=dw (cs:=#[.bool (decide (zq X Y-jy Y<0)),u7]) BW7 (show w.heap.size≤w2.heap.size by omega);have o78:=o7'.st (x:= .bool (decide (zq X Y-jy Y<0))) (y:=u7) hq7;have o28:=o27.st (x:= .bool (decide (zq X Y-jy Y<0))) (y:=u7) hq7;have t8:∀k,k<W.heap.size→k≠w2.heap.size→(w7.setRow w2.heap.size #[.bool (decide (zq X Y-jy Y<0)),u7]).heap[k]? =W.heap[k]? :=fun k hk hn=>(setRow_other _ _ _ _ hn).trans (t7 k hk)
   have hsz8:(w7.setRow w2.heap.size #[.bool (decide (zq X Y-jy Y<0)),u7]).heap.size=w7.heap.size:=sy;have hq8:=hst7.2;generalize w7.setRow w2.heap.size #[.bool (decide (zq X Y-jy Y<0)),u7]=W8 at*
   have WB:=(t8 (w2.heap.size+1) om om).trans hq2;have hlB:(dg B (nv B b)).length≤100000000:=Nat.le_trans (dS (b_ hb')) lb;refine dv9 (sg:=decide (zr X Y+(Y.natAbs:Int)<0)) (A:=dg B (zr X Y+(Y.natAbs:Int)).natAbs) (B2:=dg B (nv B b)) z7 ((s7 8 dc).trans ((s6 8 dc).trans f8)) ((s7 3 dc).trans ((s6 3 dc).trans f3)) om om (cell_of_row _ _ 0 _ _ _ WB) (cell_of_row _ _ 1 _ _ _ WB) ((af ((t8 _ om om).trans hyW)).trans c3) WB (fun w1 hB=>lM (vs:=[.slice ya yn yc]) (jl b hb' om) (hHw w1 (ah hBW hB)) (z_ (hs.mono (fun _ h=>h) fun q h=>(ah hBW hB).block q (bH q h)))) (fun w1 u hB hu=>?_) fun a9 w9 u9 z9 m4 m7 m8 d9 WC hbx9 o9=>?_
   ·have:=rF (fun q h=>h) (dA.ia (s:=decide (zr X Y<0)) (w0:=w) ⟨u2,rfl,o28.up hB⟩) (bF _) lr (vy:= .agg #[.bool (false&&decide (0<(dg B (nv B b)).length)),u]) (t:=false&&decide (0<(dg B (nv B b)).length)) (b:=dg B (nv B b)) ⟨u,rfl,hu.rep⟩ (bF _) hlB;rw[kW,show zv (false&&decide (0<(dg B (nv B b)).length)) (dg B (nv B b))=(Y.natAbs:Int)from by rw[hvb];show zI false _=_;rw[dE];rfl]at this;exact this
   ·refine fin a9 w9 (zq X Y-jy Y) u7 u9 _ (zr X Y+(Y.natAbs:Int)).natAbs z9 (m4.trans ((s7 4 dc).trans ((s6 4 dc).trans f4))) (m7.trans ((s7 7 dc).trans ((s6 7 dc).trans f7))) m8 (d9.trans (d7.trans (d6.trans (d5.trans (d4.trans (d3.trans dd)))))) (jg hBW WC om) ((WC.block _ om om).trans ((t8 _ om om).trans hbW)) ((WC.block _ om om).trans hq8) hbx9 (o78.bel WC WB) (o9.base hBW.size) (fun q hq hq2=>?_) e1.symm ?_
    ·obtain⟨_,_,p1⟩:=o78;obtain⟨_,_,p2⟩:=o9;have:=(p1.lt q hq).2;have:=(p2.lt q hq2).1;omega
    ·rw[show FC X Y=(X.emod Y).natAbs from if_neg h0,e2,zrr]
  ·refine wp_cond_false (by rw[az,h23];simp[hr]) ?_;refine wp_skip ?_;obtain⟨e1,e2⟩:=ed2 (by rw[←zrr];exact hr);refine fin a4 W (zq X Y) u1 u2 _ (zr X Y).natAbs z4 ((s4 4 dc).trans g4) ((s4 7 dc).trans g7) ((s4 8 dc).trans g8) (d4.trans (d3.trans dd)) BW hbW hq1 hq2 o1W o2W RN e1.symm ?_;rw[show FC X Y=(X.emod Y).natAbs from if_neg h0,e2,zrr]
 ·have h0:Y=0:=Classical.byContradiction fun h=>hf (EP h)
  subst h0;refine dv2t z2 k9 hf fun a3 z3 s3 h19 d3=>?_
  refine wp_cond_true (by rw[az,h19]) ?_;refine wp_seq ?_;refine dv3 z3 ((s3 4 dc).trans j4) ((s3 9 dc).trans k9) hbW rfl fun a4 z4 s4 h5 h6 d4=>?_
  refine wp_ret ?_;rw[show X.ediv 0=0 from Int.ediv_zero X,show FC X 0=0 from rfl];have hst:=dO (x:= .bool false) (y:= .slice none 0 0) hbW rfl;refine BH rfl (d4.trans (d3.trans dd)) ((s4 4 dc).trans ((s3 4 dc).trans j4)) hst.2 h5 h6 ⟨.slice none 0 0,.slice none 0 0,?_,dw BW om,?_,?_,fun q hq=>by cases hq⟩
  ·simp
  ·rw[show(0:Int).natAbs=0 from rfl,iq];exact Own.nil _ _
  ·rw[iq];exact Own.nil _ _
end
end
section
variable {a:Act}{w:World}{R:Exit→Act→World→Prop}
theorem sh0{s:Bool}{xa:Option Addr}{xn xc:Nat}(hz:a.tmps.size=29)(h0:a.tmps.getD 0 undef= .agg #[.bool s,.slice xa xn xc])
 (kk:∀(a':Act),kA a a' 29 2 [(2,.pointer (some ⟨w.heap.size,0,none⟩)),(4,.pointer (some ⟨w.heap.size+1,0,none⟩)),(5,.int .i64 0)]<|R .normal a' (FD w s (.slice xa xn xc))):(q1 (qf Tryz.f17)).wp Tryz.prog R a w:=by
 replace kk:=pu kk
 refine rl fun gA=>?_
 go_wp2
 exact kk.down _ gZ gN gS gS gS rfl
theorem sh1{n:Int}(hz:a.tmps.size=29)(h1:a.tmps.getD 1 undef= .int .i64 n)
 (hl:¬n<0) (hl2:¬1048576<n)
 (kk:∀(a':Act),kA a a' 29 8 [(13,.bool false)]<|R .normal a' w):(q1 (q1 (qd 1 (qf Tryz.f17)))).wp Tryz.prog R a w:=by
 replace kk:=pu kk
 refine rl fun gA=>?_
 go_wp2
 exact kk.down _ gZ gN gS rfl
theorem sh3{x:Value}{qx:Nat}{n:Int}{A:List Nat}{f:Int}(hz:a.tmps.size=29)(h2:a.tmps.getD 2 undef= .pointer (some ⟨qx,0,none⟩))(h1:a.tmps.getD 1 undef= .int .i64 n)
 (c1:w.cell? ⟨qx,1,none⟩=some x) (cN:Calls Tryz.prog 49 #[x,.int .i64 n] w (Dh w A (.int .i64 f)))
 (kk:∀(a':Act) (w1:World) (u:Value) (n:Nat),kA a a' 29 6 [(6,u),(7,.int .i64 f)]<|Below w.heap.size w w1→w1.ownsRow w.heap.size 54 1 u n (Wv A)→n≤maxLen→R .normal a' w1):(q1 (qd 2 (qf Tryz.f17))).wp Tryz.prog R a w:=by
 replace kk:=pu kk
 refine rl fun gA=>?_
 go_wp2_with (go_at_call 49;refine(cN).mono ?_;rintro e w1 ⟨u,n,rfl,b1,o1,m1⟩;obtain⟨ua,uc,rfl⟩:=aB o1)
 exact kk.down _ w1 _ n gZ gN gS gS rfl b1 o1 m1
theorem sh4f{f:Int}(hz:a.tmps.size=29)(h7:a.tmps.getD 7 undef= .int .i64 f)
 (hl:f=0)
 (kk:∀(a':Act),kA a a' 29 8 [(23,.bool false)]<|R .normal a' w):(q1 (q1 (qd 3 (qf Tryz.f17)))).wp Tryz.prog R a w:=by
 replace kk:=pu kk
 refine rl fun gA=>?_
 go_wp2
 exact kk.down _ gZ gN gS rfl
theorem sh6{s:Bool}{qx qr:Nat}{old:Array Value}{ua:Option Addr}{un uc:Nat}(hz:a.tmps.size=29)(h2:a.tmps.getD 2 undef= .pointer (some ⟨qx,0,none⟩))(h4:a.tmps.getD 4 undef= .pointer (some ⟨qr,0,none⟩))(h6:a.tmps.getD 6 undef= .slice ua un uc)
 (c0:w.cell? ⟨qx,0,none⟩=some (.bool s)) (hbox:w.heap[qr]? =some (.cells old 25 (0,0))) (hb2:old.size=2)
 (kk:∀(a':Act) (w1:World),kA a a' 29 5 [(5,.int .i64 0)]<|Below w.heap.size w w1→R .normal a' (w1.setRow qr #[.bool (s&&decide (0<un)),.slice ua un uc])):(q1 (qd 4 (qf Tryz.f17))).wp Tryz.prog R a w:=by
 replace kk:=pu kk
 refine rl fun gA=>?_
 go_wp2_with (first|(refine wpList_store_row rfl 25 _ _ rfl qr #[.bool (s&&decide (0<un)),.slice ua un uc] gS gS 25 old m_ (by kernel_rfl) hb2 (aN _ _ _ _) ?_)|(go_at_call 40;refine(rE (w:=w) (s:=s) (ua:=ua) (n:=un) (c:=uc)).mono ?_;rintro e w1 ⟨rfl,b1⟩;have m_:=(b1.block qr (aS hbox)).trans hbox))
 exact kk.down _ w1 gZ gN gS rfl b1
end
section
section
variable {w:World} {vx:Value} {s:Bool} {a:List Nat} {Ha:Nat→Prop} (bH:∀q,Ha q→q<w.heap.size) (hx:IA w Ha vx s a) (ha:Wd a) (la:a.length≤100000000)
include bH hx ha la
theorem Sz{n:Int}(h1:¬n<0)(h2:¬1048576<n)(hf:(mV (nv B a) n).2=0):Calls Tryz.prog 17 #[vx,.int .i64 n] w (oQ w (s&&decide (0<(mV (nv B a) n).1.length)) (mV (nv B a) n).1 0):=by
 obtain⟨x,rfl,hr⟩:=hx;obtain⟨xa,xn,xc,rfl⟩:=bK hr;have hS:=shlO a n ha om;rw[hf]at hS;refine bW (vs:=[.agg #[.bool s,.slice xa xn xc],.int .i64 n]) Tryz.func17 (c:=qf Tryz.f17) rfl (by show 2≤_;decide) fun a0 z0 e0 d0=>?_
 have i0:a0.tmps.getD 0 undef= .agg #[.bool s,.slice xa xn xc]:=e0 0 (by show 0<2;decide);have i1:a0.tmps.getD 1 undef= .int .i64 n:=e0 1 (by show 1<2;decide);change a0.tmps.size=29 at z0;obtain⟨B1,l1,l2,c0,c1,hb⟩:=bx1 w s (.slice xa xn xc);refine wp_seq ?_;refine sh0 z0 i0 fun a1 z1 s1 k2 k4 k5 d1=>?_
 have k1:=(s1 1 dc).trans i1;refine wp_seq ?_;refine wp_seq ?_;refine sh1 z1 k1 h1 h2 fun a2 z2 s2 h13 d2=>?_
 refine wp_cond_false (by rw[az,h13]) ?_;refine wp_skip ?_;refine wp_seq ?_;refine sh3 z2 ((s2 2 dc).trans k2) ((s2 1 dc).trans k1) c1 (Ij (vs:=[.slice xa xn xc,.int .i64 n]) hS (fun w' H' z hz=>(Rep.up (ov:=fun _=>none) hz).bT) (fun q h=>Nat.lt_of_lt_of_le (bH q h) B1.size) (LZ (hr.mono (fun _ h=>h) fun q h=>B1.block q (bH q h)) (.i _ _))) fun a3 w3 u m z3 s3 k6 k7 d3 B3 o3 m3=>?_
 refine wp_seq ?_;refine wp_seq ?_;refine sh4f z3 k7 rfl fun a4 z4 s4 h23 d4=>?_
 refine wp_cond_false (by rw[az,h23]) ?_;refine wp_skip ?_;refine wp_seq ?_;obtain⟨ua,uc,eu⟩:=aB o3;subst eu;have hb3:=(B3.block _ l2).trans hb;refine sh6 z4 ((s4 2 dc).trans ((s3 2 dc).trans ((s2 2 dc).trans k2))) ((s4 4 dc).trans ((s3 4 dc).trans ((s2 4 dc).trans k4))) ((s4 6 dc).trans k6) ((af (B3.block _ l1)).trans c0) hb3 rfl fun a5 w5 z5 s5 h5 d5 B5=>?_
 refine wp_ret ?_;have hb5:=(B5.block _ (aS hb3)).trans hb3;have hst:=dO (x:= .bool (s&&decide (0<m))) (y:= .slice ua m uc) hb5 rfl;have ho:Own w (mV (nv B a) n).1 (.slice ua m uc) w5:=(Own.base ⟨m,m3,o3⟩ B1.size).up B5;have hn:m=(mV (nv B a) n).1.length:=wM o3;rw[←hn];exact kG rfl (d5.trans (d4.trans (d3.trans (d2.trans (d1.trans d0))))) ((s5 4 dc).trans ((s4 4 dc).trans ((s3 4 dc).trans ((s2 4 dc).trans k4)))) hst.2 h5 ⟨_,rfl,dw (ah B1 (ah B3 B5)) om,_,rfl,ho.st hb5⟩
end
end
section
variable {a:Act}{w:World}{R:Exit→Act→World→Prop}
theorem gm0(hz:a.tmps.size=14)
 (kk:∀(a':Act),kA a a' 14 2 [(4,.slice none 0 0)]<|R .normal a' w):(q1 (qf Tryz.f78)).wp Tryz.prog R a w:=by
 replace kk:=pu kk
 refine rl fun gA=>?_
 go_wp2
 exact kk.down _ gZ gN gS rfl
theorem gm1{x y:Value}{A:List Nat}{f:Int}(hz:a.tmps.size=14)(h0:a.tmps.getD 0 undef=x)(h1:a.tmps.getD 1 undef=y)
 (cN:Calls Tryz.prog 104 #[x,y] w (Dh w A (.int .i64 f)))
 (kk:∀(a':Act) (w1:World) (u:Value),kA a a' 14 4 [(5,u)]<|Below w.heap.size w w1→Own w A u w1→R .normal a' w1):(q1 (qd 1 (qf Tryz.f78))).wp Tryz.prog R a w:=by
 replace kk:=pu kk
 refine rl fun gA=>?_
 go_wp2_with (go_at_call 104;refine(cN).mono ?_;rintro e w1 ⟨u,n,rfl,b1,o1,m1⟩;obtain⟨ua,uc,rfl⟩:=aB o1)
 exact kk.down _ w1 _ gZ gN gS rfl b1 ⟨n,m1,o1⟩
theorem gm2{u:Value}(hz:a.tmps.size=14)(h5:a.tmps.getD 5 undef=u)
 (kk:∀(a':Act),kA a a' 14 4 [(4,u)]<|R .normal a' w):(q1 (qd 2 (qf Tryz.f78))).wp Tryz.prog R a w:=by
 replace kk:=pu kk
 refine rl fun gA=>?_
 go_wp2
 exact kk.down _ gZ gN gS rfl
theorem gc0(hz:a.tmps.size=17)
 (kk:∀(a':Act),kA a a' 17 4 [(4,.slice none 0 0)]<|R .normal a' w):(q1 (qf Tryz.f55)).wp Tryz.prog R a w:=by
 replace kk:=pu kk
 refine rl fun gA=>?_
 go_wp2
 exact kk.down _ gZ gN gS rfl
theorem gc1{x y:Value}{A1 A2:List Nat}(hz:a.tmps.size=17)(h0:a.tmps.getD 0 undef=x)(h1:a.tmps.getD 1 undef=y)
 (cN:Calls Tryz.prog 44 #[x] w (kX w A1)) (cM:∀w1,Below w.heap.size w w1→Calls Tryz.prog 44 #[y] w1 (kX w1 A2))
 (kk:∀(a':Act) (w2:World) (u v:Value),kA a a' 17 0 [(0,u),(1,v)]<|Below w.heap.size w w2→Own w A1 u w2→Own w A2 v w2→R .normal a' w2):(q1 (qd 1 (qf Tryz.f55))).wp Tryz.prog R a w:=by
 replace kk:=pu kk
 refine rl fun gA=>?_
 go_wp2_with (first|(go_at_call 44;refine(cN).mono ?_;rintro e w1 ⟨u,n,rfl,b1,o1,m1⟩;obtain⟨ua,uc,rfl⟩:=aB o1;clear cN;have hM:=cM w1 b1;clear cM)|(go_at_call 44;refine(hM).mono ?_;rintro e w2 ⟨v,m,rfl,b2,o2,m2⟩;obtain⟨va,vc,rfl⟩:=aB o2))
 exact kk.down _ w2 _ _ gZ gN gS gS rfl (ah b1 b2) (Own.up ⟨n,m1,o1⟩ b2) (Own.base ⟨m,m2,o2⟩ b1.size)
theorem gc2t{va:Option Addr}{vn vc:Nat}(hz:a.tmps.size=17)(h1:a.tmps.getD 1 undef= .slice va vn vc)
 (hl:0<vn)
 (kk:∀(a':Act),kA a a' 17 9 [(11,.bool true)]<|R .normal a' w):(q1 (q1 (ql (qb (q1 (qd 2 (qf Tryz.f55))))))).wp Tryz.prog R a w:=by
 replace kk:=pu kk
 refine rl fun gA=>?_
 go_wp2
 exact kk.down _ gZ gN gS rfl
theorem gc2f{va:Option Addr}{vn vc:Nat}(hz:a.tmps.size=17)(h1:a.tmps.getD 1 undef= .slice va vn vc)
 (hl:¬0<vn)
 (kk:∀(a':Act),kA a a' 17 9 [(11,.bool false)]<|R .normal a' w):(q1 (q1 (ql (qb (q1 (qd 2 (qf Tryz.f55))))))).wp Tryz.prog R a w:=by
 replace kk:=pu kk
 refine rl fun gA=>?_
 go_wp2
 exact kk.down _ gZ gN gS rfl
theorem gc3{x y:Value}{A:List Nat}(hz:a.tmps.size=17)(h0:a.tmps.getD 0 undef=x)(h1:a.tmps.getD 1 undef=y)
 (cN:Calls Tryz.prog 78 #[x,y] w (kX w A))
 (kk:∀(a':Act) (w1:World) (u:Value),kA a a' 17 0 [(0,y),(1,u)]<|Below w.heap.size w w1→Own w A u w1→R .normal a' w1):(qb (q1 (q2 (ql (qb (q1 (qd 2 (qf Tryz.f55)))))))).wp Tryz.prog R a w:=by
 replace kk:=pu kk
 refine rl fun gA=>?_
 go_wp2_with (go_at_call 78;refine(cN).mono ?_;rintro e w1 ⟨u,n,rfl,b1,o1,m1⟩;obtain⟨ua,uc,rfl⟩:=aB o1)
 exact kk.down _ w1 _ gZ gN gS gS rfl b1 ⟨n,m1,o1⟩
theorem gc4{u:Value}(hz:a.tmps.size=17)(h0:a.tmps.getD 0 undef=u)
 (kk:∀(a':Act),kA a a' 17 4 [(4,u)]<|R .normal a' w):(q1 (qd 3 (qf Tryz.f55))).wp Tryz.prog R a w:=by
 replace kk:=pu kk
 refine rl fun gA=>?_
 go_wp2
 exact kk.down _ gZ gN gS rfl
theorem gz0(hz:a.tmps.size=19)
 (kk:∀(a':Act),kA a a' 19 2 [(2,.slice none 0 0)]<|R .normal a' w):(q1 (qf Tryz.f22)).wp Tryz.prog R a w:=by
 replace kk:=pu kk
 refine rl fun gA=>?_
 go_wp2
 exact kk.down _ gZ gN gS rfl
theorem gz1(hz:a.tmps.size=19)
 (kk:∀(a':Act),kA a a' 19 2 [(3,.slice (some ⟨w.heap.size,0,none⟩) 0 0)]<|R .normal a' (w.alloc (.cells #[] 54))):(q1 (qd 1 (qf Tryz.f22))).wp Tryz.prog R a w:=by
 replace kk:=pu kk
 refine rl fun gA=>?_
 go_wp2
 exact kk.down _ gZ gN gS rfl
theorem gz2{la:Option Addr}{ln lc:Nat}(hz:a.tmps.size=19)(h0:a.tmps.getD 0 undef= .slice la ln lc)
 (kk:∀(a':Act),kA a a' 19 4 [(7,.slice la ln lc),(8,.int .i64 (ln:Int)),(9,.int .i64 0)]<|R .normal a' w):(q1 (q1 (qd 2 (qf Tryz.f22)))).wp Tryz.prog R a w:=by
 replace kk:=pu kk
 refine rl fun gA=>?_
 go_wp2
 exact kk.down _ gZ gN gS gS gS rfl
theorem gz3t{i n:Nat}(hz:a.tmps.size=19)(h8:a.tmps.getD 8 undef= .int .i64 (n:Int))(h9:a.tmps.getD 9 undef= .int .i64 (i:Int))
 (hl:i<n)
 (kk:∀(a':Act),kA a a' 19 10 [(10,.bool true)]<|R .normal a' w):(q1 (ql (qb (q2 (q1 (qd 2 (qf Tryz.f22))))))).wp Tryz.prog R a w:=by
 replace kk:=pu kk
 refine rl fun gA=>?_
 go_wp2
 exact kk.down _ gZ gN gS rfl
theorem gz3f{i n:Nat}(hz:a.tmps.size=19)(h8:a.tmps.getD 8 undef= .int .i64 (n:Int))(h9:a.tmps.getD 9 undef= .int .i64 (i:Int))
 (hl:¬i<n)
 (kk:∀(a':Act),kA a a' 19 10 [(10,.bool false)]<|R .normal a' w):(q1 (ql (qb (q2 (q1 (qd 2 (qf Tryz.f22))))))).wp Tryz.prog R a w:=by
 replace kk:=pu kk
 refine rl fun gA=>?_
 go_wp2
 exact kk.down _ gZ gN gS rfl
theorem gz4{p ln lc i xn xc:Nat}{s:Bool}{xa:Option Addr}(hz:a.tmps.size=19)(h7:a.tmps.getD 7 undef= .slice (some ⟨p,0,none⟩) ln lc)(h9:a.tmps.getD 9 undef= .int .i64 (i:Int))
 (hl:i<ln) (c0:w.cell? ⟨p,i*2,none⟩=some (.bool s)) (c1:w.cell? ⟨p,i*2+1,none⟩=some (.slice xa xn xc))
 (kk:∀(a':Act),a'.tmps.size=19→(∀t,t<10→t≠5→a'.tmps.getD t undef=a.tmps.getD t undef)→a'.tmps.getD 5 undef= .pointer (some ⟨w.heap.size,0,none⟩)→a'.defers=a.defers→R .normal a' (w.alloc (.cells #[.bool s,.slice xa xn xc] 25))):(q1 (qb (q1 (qd 2 (ql (qb (q2 (q1 (qd 2 (qf Tryz.f22)))))))))).wp Tryz.prog R a w:=by
 replace kk:=pu kk
 refine rl fun gA=>?_
 go_wp2
 exact kk.down _ gZ gN gS rfl
theorem gz5{g x:Value}{qx:Nat}{A:List Nat}(hz:a.tmps.size=19)(h3:a.tmps.getD 3 undef=g)(h5:a.tmps.getD 5 undef= .pointer (some ⟨qx,0,none⟩))
 (c1:w.cell? ⟨qx,1,none⟩=some x) (cN:Calls Tryz.prog 55 #[g,x] w (kX w A))
 (kk:∀(a':Act) (w1:World) (u:Value),a'.tmps.size=19→(∀t,t<10→t≠3→a'.tmps.getD t undef=a.tmps.getD t undef)→a'.tmps.getD 3 undef=u→a'.defers=a.defers→Below w.heap.size w w1→Own w A u w1→R .normal a' w1):(q2 (qb (q1 (qd 2 (ql (qb (q2 (q1 (qd 2 (qf Tryz.f22)))))))))).wp Tryz.prog R a w:=by
 replace kk:=pu kk
 refine rl fun gA=>?_
 go_wp2_with (go_at_call 55;refine(cN).mono ?_;rintro e w1 ⟨u,n,rfl,b1,o1,m1⟩;obtain⟨ua,uc,rfl⟩:=aB o1)
 exact kk.down _ w1 _ gZ gN gS rfl b1 ⟨n,m1,o1⟩
theorem gz6{i:Nat}(hz:a.tmps.size=19)(h9:a.tmps.getD 9 undef= .int .i64 (i:Int))
 (hi:i≤1000)
 (kk:∀(a':Act),kA a a' 19 9 [(9,.int .i64 ((i:Int)+1))]<|R .normal a' w):(q2 (qd 2 (ql (qb (q2 (q1 (qd 2 (qf Tryz.f22)))))))).wp Tryz.prog R a w:=by
 replace kk:=pu kk
 refine rl fun gA=>?_
 go_wp2
 exact kk.down _ gZ gN gS rfl
theorem gz7{u:Value}(hz:a.tmps.size=19)(h3:a.tmps.getD 3 undef=u)
 (kk:∀(a':Act),kA a a' 19 2 [(2,u)]<|R .normal a' w):(q1 (qd 3 (qf Tryz.f22))).wp Tryz.prog R a w:=by
 replace kk:=pu kk
 refine rl fun gA=>?_
 go_wp2
 exact kk.down _ gZ gN gS rfl
end
section
theorem Own.shape{w0 w:World}{A:List Nat}{v:Value}(h:Own w0 A v w):∃ua uc,v= .slice ua A.length uc:=by
 obtain⟨m,hm,ho⟩:=h;obtain⟨ua,uc,e⟩:=aB ho;exact⟨ua,uc,by rw[e,wM ho]⟩
section
variable {w:World} {va vb:Value} {a b:List Nat} {Ha:Nat→Prop} (bH:∀q,Ha q→q<w.heap.size) (hva:aO w Ha va (.l 1 (W a))) (hvb:aO w Ha vb (.l 1 (W b))) (ha:Wd a) (hb:Wd b)
include bH hva hvb ha hb
theorem SA(la:a.length≤1000000000)(lb:b.length≤1000000000):Calls Tryz.prog 78 #[va,vb] w (kX w (qR (nv B a) (nv B b))):=by
 refine bW (vs:=[va,vb]) Tryz.func78 (c:=qf Tryz.f78) rfl (by show 2≤_;decide) fun a0 z0 e0 d0=>?_
 have i0:a0.tmps.getD 0 undef=va:=e0 0 (by show 0<2;decide);have i1:a0.tmps.getD 1 undef=vb:=e0 1 (by show 1<2;decide);change a0.tmps.size=14 at z0;refine wp_seq ?_;refine gm0 z0 fun a1 z1 s1 k4 d1=>?_
 refine wp_seq ?_;refine gm1 z1 ((s1 0 dc).trans i0) ((s1 1 dc).trans i1) (Wx bH hva hvb ha hb la lb) fun a2 w2 u z2 s2 k5 d2 B2 o2=>?_
 refine wp_seq ?_;refine gm2 z2 k5 fun a3 z3 s3 k6 d3=>?_
 refine wp_ret ?_;obtain⟨m,hm,ho⟩:=o2;refine⟨d3.trans (d2.trans (d1.trans d0)),_,bM (show dm Tryz.f78.results.toList=some [4]from rfl) _ _,u,m,?_,B2,ho,hm⟩;show Ending.returned (a3.tmps.getD 4 undef)=_;rw[k6]
theorem SC{m:Nat}(hm:m≤1000000000)(la:a.length≤m)(lb:b.length≤m):Calls Tryz.prog 55 #[va,vb] w (kX w (dg B (Nat.gcd (nv B a) (nv B b)))):=by
 refine bW (vs:=[va,vb]) Tryz.func55 (c:=qf Tryz.f55) rfl (by show 2≤_;decide) fun a0 z0 e0 d0=>?_
 have i0:a0.tmps.getD 0 undef=va:=e0 0 (by show 0<2;decide);have i1:a0.tmps.getD 1 undef=vb:=e0 1 (by show 1<2;decide);change a0.tmps.size=17 at z0;have l1:=G8 ha la;have l2:=G8 hb lb;refine wp_seq ?_;refine gc0 z0 fun a1 z1 s1 k4 d1=>?_
 refine wp_seq ?_;refine gc1 z1 ((s1 0 dc).trans i0) ((s1 1 dc).trans i1) (lM (vs:=[va]) (jl a ha om) bH (z_ hva)) (fun w1 hB=>lM (vs:=[vb]) (jl b hb om) (fun q h=>Nat.lt_of_lt_of_le (bH q h) hB.size) (z_ (hvb.mono (fun _ h=>h) fun q h=>hB.block q (bH q h)))) fun a2 w2 u v z2 s2 k0 k1 d2 B2 o1 o2=>?_
 generalize nv B a=N1 at*
 generalize nv B b=N2 at*
 refine wp_seq ?_;refine wp_block ?_;refine wp_loop_ghost (fun y a' w'=>∃(x:Nat) (u v:Value),a'.tmps.size=17∧a'.defers=[]∧a'.tmps.getD 0 undef=u∧a'.tmps.getD 1 undef=v∧Below w.heap.size w w'∧Own w (dg B x) u w'∧Own w (dg B y) v w'∧x<B^m∧y<B^m∧Nat.gcd x y=Nat.gcd N1 N2) N2 ⟨N1,u,v,z2,d2.trans (d1.trans d0),k0,k1,B2,o1,o2,l1,l2,rfl⟩ ?_;rintro y a' w' ⟨x,u,v,z,d,h0,h1,hB,o1,o2,hx,hy,hg⟩;obtain⟨ua,uc,eu⟩:=o2.shape;rw[eu]at h1 o2;have hp2:=qV (n:=y);refine wp_seq ?_;refine wp_seq ?_;by_cases hy0:0<y
 ·refine gc2t z h1 (by have:=hp2.mpr hy0;omega) fun a3 z3 s3 h11 d3=>?_
  refine wp_cond_true (by rw[az,h11]) ?_;refine wp_skip ?_;refine wp_block ?_;have hc:=SA (w:=w') (fun q h=>h) o1.rep o2.rep (bF _) (bF _) (Nat.le_trans (dS hx) hm) (Nat.le_trans (dS hy) hm);rw[dE,dE,LH hy0]at hc;refine gc3 z3 ((s3 0 dc).trans h0) ((s3 1 dc).trans h1) hc fun a4 w4 u4 z4 s4 k0 k1 d4 B4 o4=>?_
  have hlt:=Nat.mod_lt x hy0;refine⟨x%y,hlt,y,_,u4,z4,d4.trans (d3.trans d),k0,k1,ah hB B4,o2.up B4,o4.base hB.size,hy,Nat.lt_trans hlt hy,?_⟩;rw[←hg,Nat.gcd_comm x y,Nat.gcd_rec y x,Nat.gcd_comm]
 ·obtain rfl:y=0:=om;rw[Nat.gcd_zero_right]at hg;refine gc2f z h1 (by rw[iq];decide) fun a3 z3 s3 h11 d3=>?_
  refine wp_cond_false (by rw[az,h11]) ?_;refine wp_exit ?_;refine wp_seq ?_;refine gc4 z3 ((s3 0 dc).trans h0) fun a4 z4 s4 k4 d4=>?_
  refine wp_ret ?_;obtain⟨m1,hm1,ho⟩:=o1;rw[←hg];refine⟨d4.trans (d3.trans d),_,bM (show dm Tryz.f55.results.toList=some [4]from rfl) _ _,u,m1,?_,hB,ho,hm1⟩;show Ending.returned (a4.tmps.getD 4 undef)=_;rw[k4]
end
def WE(w:World)(p:Nat)(H:Nat→Prop)(l:List (Bool×List Nat)):Prop:=∀i s a,l[i]? =some (s,a)→∃x,w.cell? ⟨p,i*2,none⟩=some (.bool s)∧w.cell? ⟨p,i*2+1,none⟩=some x∧aO w H x (.l 1 (W a))
theorem WE.up{w w':World}{p:Nat}{H:Nat→Prop}{l:List (Bool×List Nat)}(h:WE w p H l)(hp:p<w.heap.size)(hH:∀q,H q→q<w.heap.size)(hb:Below w.heap.size w w'):WE w' p H l:=fun i s a hi=>by
 obtain⟨x,h1,h2,h3⟩:=h i s a hi;exact⟨x,(af (hb.block p hp)).trans h1,(af (hb.block p hp)).trans h2,h3.mono (fun _ h=>h) fun q hq=>hb.block q (hH q hq)⟩
theorem Fe{w:World}{p c:Nat}{l:List (Bool×List Nat)}{Ha:Nat→Prop}(bH:∀q,Ha q→q<w.heap.size)(hp:p<w.heap.size)(hr:WE w p Ha l){m:Nat}(hm:m≤1000000000)(ll:l.length≤1000)(hl:∀p,p∈l→Wd p.2∧p.2.length≤m):Calls Tryz.prog 22 #[.slice (some ⟨p,0,none⟩) l.length c] w (kX w (dg B (gf l))):=by
 refine bW (vs:=[.slice (some ⟨p,0,none⟩) l.length c]) Tryz.func22 (c:=qf Tryz.f22) rfl (by show 1≤_;decide) fun a0 z0 e0 d0=>?_
 have i0:a0.tmps.getD 0 undef= .slice (some ⟨p,0,none⟩) l.length c:=e0 0 (by show 0<1;decide);change a0.tmps.size=19 at z0;refine wp_seq ?_;refine gz0 z0 fun a1 z1 s1 k2 d1=>?_
 refine wp_seq ?_;refine gz1 z1 fun a2 z2 s2 k3 d2=>?_
 have B1:=aQ w (.cells #[] 54);have oN:=World.ownsRow_lit (base:=w.heap.size) (e:=54) (size:=1) w #[] 0 (Nat.le_refl _) (Nat.zero_le _) rfl;refine wp_seq ?_;refine wp_seq ?_;refine gz2 z2 ((s2 0 dc).trans ((s1 0 dc).trans i0)) fun a3 z3 s3 k7 k8 k9 d3=>?_
 have k3':=(s3 3 dc).trans k3;refine wp_block ?_;refine wp_loop_ghost (fun j a' w'=>∃(i:Nat) (g:Value),i+j=l.length∧a'.tmps.size=19∧a'.defers=[]∧a'.tmps.getD 3 undef=g∧a'.tmps.getD 7 undef= .slice (some ⟨p,0,none⟩) l.length c∧a'.tmps.getD 8 undef= .int .i64 (l.length:Int)∧a'.tmps.getD 9 undef= .int .i64 (i:Int)∧Below w.heap.size w w'∧Own w (dg B (gf (l.take i))) g w') l.length ⟨0,_,Nat.zero_add _,z3,d3.trans (d2.trans (d1.trans d0)),k3',k7,k8,k9,B1,?_⟩ ?_
 ·rw[List.take_zero,show gf []=0 from rfl,iq];exact⟨0,Nat.zero_le _,oN⟩
 rintro j a' w' ⟨i,g,hij,z,d,h3,h7,h8,h9,hB,o⟩;refine wp_seq ?_;by_cases hi:i<l.length
 ·refine gz3t z h8 h9 hi fun a4 z4 s4 h10 d4=>?_
  refine wp_seq ?_;refine wp_cond_true (by rw[az,h10]) ?_;refine wp_skip ?_;refine wp_seq ?_;refine wp_block ?_;obtain⟨⟨s,a⟩,hia⟩:∃q,l[i]? =some q:=⟨_,List.getElem?_eq_getElem hi⟩;have hRw:=hr.up hp bH hB;obtain⟨x,c0,c1,hx⟩:=hRw i s a hia;obtain⟨xa,xn,xc,rfl⟩:=bK hx;refine wp_seq ?_;refine gz4 z4 ((s4 7 dc).trans h7) ((s4 9 dc).trans h9) hi c0 c1 fun a5 z5 s5 k5 d5=>?_
  have B5:=aQ w' (.cells #[.bool s,.slice xa xn xc] 25);have hq5:=heap_alloc_new w' (.cells #[.bool s,.slice xa xn xc] 25);have Bw:=ah hB B5;have hmem:=List.mem_of_getElem? hia;obtain⟨wa,la⟩:=hl _ hmem;have hgl:=XG (l:=l.take i) (m:=m) fun p hp=>hl p (List.mem_of_mem_take hp)
  have hgs:=JE hi;rw[List.getD_eq_getElem?_getD,hia]at hgs;have hc:=SC (w:=w'.alloc (.cells #[.bool s,.slice xa xn xc] 25)) (Ha:=fun q=>q<(w'.alloc (.cells #[.bool s,.slice xa xn xc] 25)).heap.size) (fun q h=>h) (o.up B5).rep (hx.mono (fun q h=>Nat.lt_of_lt_of_le (bH q h) Bw.size) fun q h=>B5.block q (Nat.lt_of_lt_of_le (bH q h) hB.size)) (bF _) wa hm (dS hgl) la;rw[dE,show Nat.gcd (gf (l.take i)) (nv B a)=gf (l.take (i+1))from hgs.symm]at hc;refine gz5 z5 ((s5 3 dc dc).trans ((s4 3 dc).trans h3)) k5 (cell_of_row _ _ 1 _ _ _ hq5) hc fun a6 w6 u z6 s6 k6 d6 B6 o6=>?_
  refine gz6 (i:=i) z6 ((s6 9 dc dc).trans ((s5 9 dc dc).trans ((s4 9 dc).trans h9))) om fun a7 z7 s7 k9 d7=>?_
  refine⟨j-1,om,i+1,u,om,z7,d7.trans (d6.trans (d5.trans (d4.trans d))),(s7 3 dc).trans k6,(s7 7 dc).trans ((s6 7 dc dc).trans ((s5 7 dc dc).trans ((s4 7 dc).trans h7))),(s7 8 dc).trans ((s6 8 dc dc).trans ((s5 8 dc dc).trans ((s4 8 dc).trans h8))),k9,ah Bw B6,o6.base Bw.size⟩
 ·obtain rfl:i=l.length:=om;rw[List.take_length]at o;refine gz3f z h8 h9 hi fun a4 z4 s4 h10 d4=>?_
  refine wp_seq ?_;refine wp_cond_false (by rw[az,h10]) ?_;refine wp_exit ?_;refine wp_seq ?_;refine gz7 z4 ((s4 3 dc).trans h3) fun a5 z5 s5 k2 d5=>?_
  refine wp_ret ?_;obtain⟨m1,hm1,ho⟩:=o;refine⟨d5.trans (d4.trans d),_,bM (show dm Tryz.f22.results.toList=some [2]from rfl) _ _,g,m1,?_,hB,ho,hm1⟩;show Ending.returned (a5.tmps.getD 2 undef)=_;rw[k2]
end
section
variable {a:Act}{w:World}{R:Exit→Act→World→Prop}
theorem tz0(hz:a.tmps.size=14)
 (kk:∀(a':Act),kA a a' 14 2 [(2,.int .i64 0)]<|R .normal a' w):(q1 (qf Tryz.f103)).wp Tryz.prog R a w:=by
 replace kk:=pu kk
 refine rl fun gA=>?_
 go_wp2
 exact kk.down _ gZ gN gS rfl
theorem tz1{x:Int}(hz:a.tmps.size=14)(h0:a.tmps.getD 0 undef= .int .u64 x)
 (hl:¬x=0)
 (kk:∀(a':Act),kA a a' 14 3 [(4,.bool false)]<|R .normal a' w):(q1 (q1 (qd 1 (qf Tryz.f103)))).wp Tryz.prog R a w:=by
 replace kk:=pu kk
 refine rl fun gA=>?_
 go_wp2
 exact kk.down _ gZ gN gS rfl
theorem tz3{x y1 y2 y3:Int}{z k:Nat}(hz:a.tmps.size=14)(h0:a.tmps.getD 0 undef= .int .u64 x)
 (hn:IntKind.u64.wrap (-x)=y1) (ha:bits .and .u64 x y1=y2) (hm:IntKind.u64.wrap (y2*285870213051353865)=y3) (hs:y3/288230376151711744=(z:Int)) (hz64:z<64) (hk:IntKind.i64.wrap (k:Int)=(k:Int)) (hc:w.cell? ⟨0,z,none⟩=some (.int .u8 (k:Int)))
 (kk:∀(a':Act),kA a a' 14 2 [(2,.int .i64 (k:Int))]<|R .normal a' w):(q1 (qd 2 (qf Tryz.f103))).wp Tryz.prog R a w:=by
 replace kk:=pu kk
 refine rl fun gA=>?_
 go_wp2
 exact kk.down _ gZ gN gS rfl
theorem lz0(hz:a.tmps.size=20)
 (kk:∀(a':Act),kA a a' 20 2 [(2,.int .i64 0)]<|R .normal a' w):(q1 (qf Tryz.f77)).wp Tryz.prog R a w:=by
 replace kk:=pu kk
 refine rl fun gA=>?_
 go_wp2
 exact kk.down _ gZ gN gS rfl
theorem lz1{la:Option Addr}{ln lc:Nat}(hz:a.tmps.size=20)(h0:a.tmps.getD 0 undef= .slice la ln lc)
 (kk:∀(a':Act),kA a a' 20 3 [(5,.slice la ln lc),(6,.int .i64 (ln:Int)),(7,.int .i64 0)]<|R .normal a' w):(q1 (q1 (qd 1 (qf Tryz.f77)))).wp Tryz.prog R a w:=by
 replace kk:=pu kk
 refine rl fun gA=>?_
 go_wp2
 exact kk.down _ gZ gN gS gS gS rfl
theorem lz2t{i n:Nat}(hz:a.tmps.size=20)(h6:a.tmps.getD 6 undef= .int .i64 (n:Int))(h7:a.tmps.getD 7 undef= .int .i64 (i:Int))
 (hl:i<n)
 (kk:∀(a':Act),kA a a' 20 8 [(8,.bool true)]<|R .normal a' w):(q1 (ql (qb (q2 (q1 (qd 1 (qf Tryz.f77))))))).wp Tryz.prog R a w:=by
 replace kk:=pu kk
 refine rl fun gA=>?_
 go_wp2
 exact kk.down _ gZ gN gS rfl
theorem lz2f{i n:Nat}(hz:a.tmps.size=20)(h6:a.tmps.getD 6 undef= .int .i64 (n:Int))(h7:a.tmps.getD 7 undef= .int .i64 (i:Int))
 (hl:¬i<n)
 (kk:∀(a':Act),kA a a' 20 8 [(8,.bool false)]<|R .normal a' w):(q1 (ql (qb (q2 (q1 (qd 1 (qf Tryz.f77))))))).wp Tryz.prog R a w:=by
 replace kk:=pu kk
 refine rl fun gA=>?_
 go_wp2
 exact kk.down _ gZ gN gS rfl
theorem lz3{p of ln lc i:Nat}{x:Int}(hz:a.tmps.size=20)(h5:a.tmps.getD 5 undef= .slice (some ⟨p,of,none⟩) ln lc)(h7:a.tmps.getD 7 undef= .int .i64 (i:Int))
 (hl:i<ln) (c0:w.cell? ⟨p,of+i,none⟩=some (.int .u64 x))
 (kk:∀(a':Act),a'.tmps.size=20→(∀t,t<8→t≠3→t≠4→a'.tmps.getD t undef=a.tmps.getD t undef)→a'.tmps.getD 3 undef= .int .i64 (i:Int)→a'.tmps.getD 4 undef= .int .u64 x→a'.defers=a.defers→R .normal a' w):(q1 (qb (q1 (qd 2 (ql (qb (q2 (q1 (qd 1 (qf Tryz.f77)))))))))).wp Tryz.prog R a w:=by
 replace kk:=pu kk
 refine rl fun gA=>?_
 go_wp2
 exact kk.down _ gZ gN gS gS rfl
theorem lz4t{x:Int}(hz:a.tmps.size=20)(h4:a.tmps.getD 4 undef= .int .u64 x)
 (hl:¬x=0)
 (kk:∀(a':Act),kA a a' 20 8 [(13,.bool true)]<|R .normal a' w):(q1 (qd 1 (qb (q1 (qd 2 (ql (qb (q2 (q1 (qd 1 (qf Tryz.f77))))))))))).wp Tryz.prog R a w:=by
 replace kk:=pu kk
 refine rl fun gA=>?_
 go_wp2
 exact kk.down _ gZ gN gS rfl
theorem lz4f{x:Int}(hz:a.tmps.size=20)(h4:a.tmps.getD 4 undef= .int .u64 x)
 (hl:x=0)
 (kk:∀(a':Act),kA a a' 20 8 [(13,.bool false)]<|R .normal a' w):(q1 (qd 1 (qb (q1 (qd 2 (ql (qb (q2 (q1 (qd 1 (qf Tryz.f77))))))))))).wp Tryz.prog R a w:=by
 replace kk:=pu kk
 refine rl fun gA=>?_
 go_wp2
 exact kk.down _ gZ gN gS rfl
theorem lz5{i:Nat}{x k y r:Int}(hz:a.tmps.size=20)(h3:a.tmps.getD 3 undef= .int .i64 (i:Int))(h4:a.tmps.getD 4 undef= .int .u64 x)
 (h1:IntKind.i64.wrap ((i:Int)*64)=y) (h2:IntKind.i64.wrap (y+k)=r) (cN:Calls Tryz.prog 103 #[.int .u64 x] w (fun e w1=>e= .returned (.int .i64 k)∧Below w.heap.size w w1))
 (kk:∀(a':Act) (w1:World),kA a a' 20 2 [(2,.int .i64 r)]<|Below w.heap.size w w1→R .normal a' w1):(q1 (qt (qd 2 (qb (q1 (qd 2 (ql (qb (q2 (q1 (qd 1 (qf Tryz.f77)))))))))))).wp Tryz.prog R a w:=by
 replace kk:=pu kk
 refine rl fun gA=>?_
 go_wp2_with (go_at_call 103;refine(cN).mono ?_;rintro e w1 ⟨rfl,b1⟩)
 exact kk.down _ w1 gZ gN gS rfl b1
theorem lz6{i:Nat}(hz:a.tmps.size=20)(h7:a.tmps.getD 7 undef= .int .i64 (i:Int))
 (hi:i≤1000000000000)
 (kk:∀(a':Act),kA a a' 20 7 [(7,.int .i64 ((i:Int)+1))]<|R .normal a' w):(q2 (qd 2 (ql (qb (q2 (q1 (qd 1 (qf Tryz.f77)))))))).wp Tryz.prog R a w:=by
 replace kk:=pu kk
 refine rl fun gA=>?_
 go_wp2
 exact kk.down _ gZ gN gS rfl
theorem lz7(hz:a.tmps.size=20)
 (kk:∀(a':Act),kA a a' 20 2 [(2,.int .i64 0)]<|R .normal a' w):(q1 (qd 2 (qf Tryz.f77))).wp Tryz.prog R a w:=by
 replace kk:=pu kk
 refine rl fun gA=>?_
 go_wp2
 exact kk.down _ gZ gN gS rfl
theorem tw0(hz:a.tmps.size=5)
 (kk:∀(a':Act),kA a a' 5 2 [(2,.int .i64 0)]<|R .normal a' w):(q1 (qf Tryz.f52)).wp Tryz.prog R a w:=by
 replace kk:=pu kk
 refine rl fun gA=>?_
 go_wp2
 exact kk.down _ gZ gN gS rfl
theorem tw1{x:Value}{k:Int}(hz:a.tmps.size=5)(h0:a.tmps.getD 0 undef=x)
 (cN:Calls Tryz.prog 77 #[x] w (fun e w1=>e= .returned (.int .i64 k)∧Below w.heap.size w w1))
 (kk:∀(a':Act) (w1:World),kA a a' 5 2 [(2,.int .i64 k)]<|Below w.heap.size w w1→R .normal a' w1):(q1 (qd 1 (qf Tryz.f52))).wp Tryz.prog R a w:=by
 replace kk:=pu kk
 refine rl fun gA=>?_
 go_wp2_with (go_at_call 77;refine(cN).mono ?_;rintro e w1 ⟨rfl,b1⟩)
 exact kk.down _ w1 gZ gN gS rfl b1
theorem sr0{s:Bool}{xa:Option Addr}{xn xc:Nat}(hz:a.tmps.size=43)(h0:a.tmps.getD 0 undef= .agg #[.bool s,.slice xa xn xc])
 (kk:∀(a':Act),kA a a' 43 2 [(2,.pointer (some ⟨w.heap.size,0,none⟩)),(4,.pointer (some ⟨w.heap.size+1,0,none⟩)),(5,.int .i64 0)]<|R .normal a' (FD w s (.slice xa xn xc))):(q1 (qf Tryz.f18)).wp Tryz.prog R a w:=by
 replace kk:=pu kk
 refine rl fun gA=>?_
 go_wp2
 exact kk.down _ gZ gN gS gS gS rfl
theorem sr1{n:Int}(hz:a.tmps.size=43)(h1:a.tmps.getD 1 undef= .int .i64 n)
 (hl:¬n<0)
 (kk:∀(a':Act),kA a a' 43 8 [(9,.bool false)]<|R .normal a' w):(q1 (q1 (qd 1 (qf Tryz.f18)))).wp Tryz.prog R a w:=by
 replace kk:=pu kk
 refine rl fun gA=>?_
 go_wp2
 exact kk.down _ gZ gN gS rfl
theorem sr3{s:Bool}{xa:Option Addr}{xn xc qx:Nat}{n k y:Int}(hz:a.tmps.size=43)(h1:a.tmps.getD 1 undef= .int .i64 n)(h2:a.tmps.getD 2 undef= .pointer (some ⟨qx,0,none⟩))
 (hw:IntKind.i64.wrap (k+1)=y) (hx:w.heap[qx]? =some (.cells #[.bool s,.slice xa xn xc] 25 (0,0))) (cN:Calls Tryz.prog 50 #[.agg #[.bool s,.slice xa xn xc]] w (fun e w1=>e= .returned (.int .i64 k)∧Below w.heap.size w w1))
 (kk:∀(a':Act) (w1:World),a'.tmps.size=43→(∀t,t<6→t≠1→a'.tmps.getD t undef=a.tmps.getD t undef)→a'.tmps.getD 1 undef= .int .i64 (min n y)→a'.defers=a.defers→Below w.heap.size w w1→R .normal a' w1):(q1 (qd 2 (qf Tryz.f18))).wp Tryz.prog R a w:=by
 have c0:=cell_of_row _ _ 0 _ _ _ hx
 have c1:=cell_of_row _ _ 1 _ _ _ hx
 replace kk:=pu kk
 refine rl fun gA=>?_
 go_wp2_with (go_at_call 50;refine(cN).mono ?_;rintro e w1 ⟨rfl,b1⟩)
 exact kk.down _ w1 gZ gN gS rfl b1
theorem sr4{x:Value}{qx:Nat}{n:Int}{A:List Nat}{f:Int}(hz:a.tmps.size=43)(h2:a.tmps.getD 2 undef= .pointer (some ⟨qx,0,none⟩))(h1:a.tmps.getD 1 undef= .int .i64 n)
 (c1:w.cell? ⟨qx,1,none⟩=some x) (cN:Calls Tryz.prog 51 #[x,.int .i64 n] w (Dh w A (.int .i64 f)))
 (kk:∀(a':Act) (w1:World) (u:Value),kA a a' 43 6 [(6,u),(7,.int .i64 f)]<|Below w.heap.size w w1→Own w A u w1→R .normal a' w1):(q1 (qd 3 (qf Tryz.f18))).wp Tryz.prog R a w:=by
 replace kk:=pu kk
 refine rl fun gA=>?_
 go_wp2_with (go_at_call 51;refine(cN).mono ?_;rintro e w1 ⟨u,n,rfl,b1,o1,m1⟩;obtain⟨ua,uc,rfl⟩:=aB o1)
 exact kk.down _ w1 _ gZ gN gS gS rfl b1 ⟨_,m1,o1⟩
theorem sr5f{f:Int}(hz:a.tmps.size=43)(h7:a.tmps.getD 7 undef= .int .i64 f)
 (hl:f=0)
 (kk:∀(a':Act),kA a a' 43 8 [(24,.bool false)]<|R .normal a' w):(q1 (q1 (qd 4 (qf Tryz.f18)))).wp Tryz.prog R a w:=by
 replace kk:=pu kk
 refine rl fun gA=>?_
 go_wp2
 exact kk.down _ gZ gN gS rfl
theorem sr7f{s:Bool}{xa:Option Addr}{xn xc qx:Nat}{z:Int}(hz:a.tmps.size=43)(h2:a.tmps.getD 2 undef= .pointer (some ⟨qx,0,none⟩))
 (hl:¬z<0) (hx:w.heap[qx]? =some (.cells #[.bool s,.slice xa xn xc] 25 (0,0))) (cS:Calls Tryz.prog 46 #[.agg #[.bool s,.slice xa xn xc]] w (fun e w1=>e= .returned (.int .i64 z)∧Below w.heap.size w w1))
 (kk:∀(a':Act) (w1:World),kA a a' 43 8 [(35,.bool false)]<|Below w.heap.size w w1→R .normal a' w1):(q1 (q1 (qd 5 (qf Tryz.f18)))).wp Tryz.prog R a w:=by
 have c0:=cell_of_row _ _ 0 _ _ _ hx
 have c1:=cell_of_row _ _ 1 _ _ _ hx
 replace kk:=pu kk
 refine rl fun gA=>?_
 go_wp2_with (go_at_call 46;refine(cS).mono ?_;rintro e w1 ⟨rfl,b1⟩)
 exact kk.down _ w1 gZ gN gS rfl b1
theorem sr7t{s:Bool}{xa:Option Addr}{xn xc qx:Nat}{z n t:Int}(hz:a.tmps.size=43)(h2:a.tmps.getD 2 undef= .pointer (some ⟨qx,0,none⟩))(h1:a.tmps.getD 1 undef= .int .i64 n)
 (hl:z<0) (hx:w.heap[qx]? =some (.cells #[.bool s,.slice xa xn xc] 25 (0,0))) (cS:Calls Tryz.prog 46 #[.agg #[.bool s,.slice xa xn xc]] w (fun e w1=>e= .returned (.int .i64 z)∧Below w.heap.size w w1)) (cT:∀w1,Below w.heap.size w w1→Calls Tryz.prog 52 #[.slice xa xn xc] w1 (fun e w2=>e= .returned (.int .i64 t)∧Below w1.heap.size w1 w2))
 (kk:∀(a':Act) (w2:World),kA a a' 43 8 [(35,.bool (decide (t<n)))]<|Below w.heap.size w w2→R .normal a' w2):(q1 (q1 (qd 5 (qf Tryz.f18)))).wp Tryz.prog R a w:=by
 have c0:=cell_of_row _ _ 0 _ _ _ hx
 have c1:=cell_of_row _ _ 1 _ _ _ hx
 replace kk:=pu kk
 refine rl fun gA=>?_
 go_wp2_with (first|(go_at_call 46;refine(cS).mono ?_;rintro e w1 ⟨rfl,b1⟩;clear cS;have hx1:=(b1.block qx (aS hx)).trans hx;have c2:=cell_of_row _ _ 0 _ _ _ hx1;have c3:=cell_of_row _ _ 1 _ _ _ hx1;have hT:=cT w1 b1;clear cT)|(go_at_call 52;refine(hT).mono ?_;rintro e w2 ⟨rfl,b2⟩))
 exact kk.down _ w2 gZ gN gS rfl (ah b1 b2)
theorem sr8{u:Value}{A1 A:List Nat}(hz:a.tmps.size=43)(h6:a.tmps.getD 6 undef=u)
 (cO:Calls Tryz.prog 53 #[.int .u64 1] w (kX w A1)) (cA:∀w1 v,Below w.heap.size w w1→Own w A1 v w1→Calls Tryz.prog 41 #[u,v] w1 (kX w1 A))
 (kk:∀(a':Act) (w2:World) (v:Value),kA a a' 43 6 [(6,v)]<|Below w.heap.size w w2→Own w A v w2→R .normal a' w2):(qt (q2 (q1 (qd 5 (qf Tryz.f18))))).wp Tryz.prog R a w:=by
 replace kk:=pu kk
 refine rl fun gA=>?_
 go_wp2_with (first|(go_at_call 53;refine(cO).mono ?_;rintro e w1 ⟨o,n,rfl,b1,o1,m1⟩;obtain⟨ua,uc,rfl⟩:=aB o1;clear cO;have hA:=cA w1 _ b1 ⟨n,m1,o1⟩;clear cA)|(go_at_call 41;refine(hA).mono ?_;rintro e w2 ⟨v,m,rfl,b2,o2,m2⟩;obtain⟨va,vc,rfl⟩:=aB o2))
 exact kk.down _ w2 _ gZ gN gS rfl (ah b1 b2) (Own.base ⟨m,m2,o2⟩ b1.size)
theorem sr9{s:Bool}{qx qr:Nat}{old:Array Value}{ua:Option Addr}{un uc:Nat}(hz:a.tmps.size=43)(h2:a.tmps.getD 2 undef= .pointer (some ⟨qx,0,none⟩))(h4:a.tmps.getD 4 undef= .pointer (some ⟨qr,0,none⟩))(h6:a.tmps.getD 6 undef= .slice ua un uc)
 (c0:w.cell? ⟨qx,0,none⟩=some (.bool s)) (hbox:w.heap[qr]? =some (.cells old 25 (0,0))) (hb2:old.size=2)
 (kk:∀(a':Act) (w1:World),kA a a' 43 5 [(5,.int .i64 0)]<|Below w.heap.size w w1→R .normal a' (w1.setRow qr #[.bool (s&&decide (0<un)),.slice ua un uc])):(q1 (qd 6 (qf Tryz.f18))).wp Tryz.prog R a w:=by
 replace kk:=pu kk
 refine rl fun gA=>?_
 go_wp2_with (first|(refine wpList_store_row rfl 25 _ _ rfl qr #[.bool (s&&decide (0<un)),.slice ua un uc] gS gS 25 old m_ (by kernel_rfl) hb2 (aN _ _ _ _) ?_)|(go_at_call 40;refine(rE (w:=w) (s:=s) (ua:=ua) (n:=un) (c:=uc)).mono ?_;rintro e w1 ⟨rfl,b1⟩;have m_:=(b1.block qr (aS hbox)).trans hbox))
 exact kk.down _ w1 gZ gN gS rfl b1
end
section
def Tb(w:World):Prop:=0<w.heap.size∧∀k:Nat,k<64→w.cell? ⟨0,2^k*285870213051353865%18446744073709551616/2^58,none⟩=some (.int .u8 (k:Int))
theorem Tb.up{w w':World}(h:Tb w)(hb:Below w.heap.size w w'):Tb w':=⟨Nat.lt_of_lt_of_le h.1 hb.size,fun k hk=>(af (hb.block 0 h.1)).trans (h.2 k hk)⟩
theorem MC{w:World}(hT:Tb w){x:Nat}(hx:x<18446744073709551616)(h0:x≠0):Calls Tryz.prog 103 #[.int .u64 (x:Int)] w (fun e w1=>e= .returned (.int .i64 ((ct x:Nat):Int))∧Below w.heap.size w w1):=by
 have hl:=JD (n:=64) hx h0;have ht:=hT.2 (ct x) hl;have hn:IntKind.u64.wrap (-(x:Int))=((18446744073709551616-x:Nat):Int):=by rw[IntKind.wrap_u64];omega
 have ha:bits .and .u64 (x:Int) ((18446744073709551616-x:Nat):Int)=((2^ct x:Nat):Int):=by rw[PU _ _ hx om,Wj h0 hx]
 have hm:IntKind.u64.wrap (((2^ct x:Nat):Int)*285870213051353865)=((2^ct x*285870213051353865%18446744073709551616:Nat):Int):=by
  rw[IntKind.wrap_u64];omega
 have hs2:2^ct x*285870213051353865%18446744073709551616/2^58<64:=(Nat.div_lt_iff_lt_mul dc).2 (Nat.mod_lt _ dc);have hc:IntKind.i64.wrap ((ct x:Nat):Int)=((ct x:Nat):Int):=wi ⟨om,om⟩;have hs:((2^ct x*285870213051353865%18446744073709551616:Nat):Int)/288230376151711744=((2^ct x*285870213051353865%18446744073709551616/2^58:Nat):Int):=om;generalize 2^ct x*285870213051353865%18446744073709551616=y at*
 generalize y/2^58=z at*
 refine bW (vs:=[.int .u64 (x:Int)]) Tryz.func103 (c:=qf Tryz.f103) rfl (by show 1≤_;decide) fun a0 z0 e0 d0=>?_
 have i0:a0.tmps.getD 0 undef= .int .u64 (x:Int):=e0 0 (by show 0<1;decide);change a0.tmps.size=14 at z0;refine wp_seq ?_;refine tz0 z0 fun a1 z1 s1 _ d1=>?_
 have i1:=(s1 0 dc).trans i0;refine wp_seq ?_;refine wp_seq ?_;refine tz1 z1 i1 om fun a2 z2 s2 h4 d2=>?_
 refine wp_cond_false (by rw[az,h4]) ?_;refine wp_skip ?_;refine wp_seq ?_;refine tz3 z2 ((s2 0 dc).trans i1) hn ha hm hs hs2 hc ht fun a3 z3 s3 h2 d3=>?_
 refine wp_ret ?_;refine⟨d3.trans (d2.trans (d1.trans d0)),_,bM (show dm Tryz.f103.results.toList=some [2]from rfl) _ _,?_,aJ _⟩;show Ending.returned (a3.tmps.getD 2 undef)=_;rw[h2]
section
variable {w:World} (hT:Tb w) {va:Value} {a:List Nat} {Ha:Nat→Prop} (bH:∀q,Ha q→q<w.heap.size) (hr:aO w Ha va (.l 1 (W a))) (ha:Wd a) (la:a.length≤1000000000)
include hT bH hr ha la
theorem MF:Calls Tryz.prog 77 #[va] w (fun e w1=>e= .returned (.int .i64 ((ct (nv B a):Nat):Int))∧Below w.heap.size w w1):=by
 obtain⟨v,hv⟩:∃v,v=nv B a:=⟨_,rfl⟩;rw[←hv];obtain⟨ad,n,cap,f,p,o,rfl,_,hn,hnm,hcp,had,hc,hrr⟩:=hr.l_;rw[aU,Nat.mul_one]at hn;subst hn;rw[aU]at hc;have cl:∀i,i<a.length→ad=some ⟨p,o,none⟩∧p<w.heap.size∧w.cell? ⟨p,o+i,none⟩=some (.int .u64 ((a.getD i 0:Nat):Int)):=fun i hi=>by
  have h1:=hrr i (.i .u64 ((a.getD i 0:Nat):Int)) (by simp only[W,List.getElem?_map,List.getD_eq_getElem?_getD,List.getElem?_eq_getElem hi];rfl);have h2:=(Rep.up (ov:=fun _=>none) h1).bT;rcases had with h|⟨h,h3⟩
  ·have:=aU a;rw[h]at this;simp at this;omega
  ·exact⟨h,bH _ h3,by rw[hc i hi,h2]⟩
 refine bW (vs:=[.slice ad a.length cap]) Tryz.func77 (c:=qf Tryz.f77) rfl (by show 1≤_;decide) fun a0 z0 e0 d0=>?_
 have i0:a0.tmps.getD 0 undef= .slice ad a.length cap:=e0 0 (by show 0<1;decide);change a0.tmps.size=20 at z0;have fin:∀(a':Act) (w':World) (k:Nat),a'.tmps.getD 2 undef= .int .i64 (k:Int)→a'.defers=[]→Below w.heap.size w w'→k=ct v→bodyPost Tryz.prog Tryz.f77 (fun e w1=>e= .returned (.int .i64 ((ct v:Nat):Int))∧Below w.heap.size w w1) .ret a' w':=fun a' w' k h2 d hB hk=>by
  refine⟨d,_,bM (show dm Tryz.f77.results.toList=some [2]from rfl) _ _,?_,hB⟩;show Ending.returned (a'.tmps.getD 2 undef)=_;rw[h2,hk]
 refine wp_seq ?_;refine lz0 z0 fun a1 z1 s1 _ d1=>?_
 refine wp_seq ?_;refine wp_seq ?_;refine lz1 z1 ((s1 0 dc).trans i0) fun a2 z2 s2 k5 k6 k7 d2=>?_
 refine wp_block ?_;refine wp_loop_ghost (fun j a' w'=>∃(i:Nat),i+j=a.length∧a'.tmps.size=20∧a'.defers=[]∧a'.tmps.getD 5 undef= .slice ad a.length cap∧a'.tmps.getD 6 undef= .int .i64 (a.length:Int)∧a'.tmps.getD 7 undef= .int .i64 (i:Int)∧Below w.heap.size w w'∧nv B (a.take i)=0) a.length ⟨0,Nat.zero_add _,z2,d2.trans (d1.trans d0),k5,k6,k7,aJ _,by rw[List.take_zero];rfl⟩ ?_;rintro j a' w' ⟨i,hij,z,d,h5,h6,h7,hB,hj⟩;refine wp_seq ?_;by_cases hi:i<a.length
 ·refine lz2t z h6 h7 hi fun a3 z3 s3 h8 d3=>?_
  refine wp_seq ?_;refine wp_cond_true (by rw[az,h8]) ?_;refine wp_skip ?_;refine wp_seq ?_;refine wp_block ?_;obtain⟨e1,e2,e3⟩:=cl i hi;rw[e1]at h5;have hw:=dI ha i;refine wp_seq ?_;refine lz3 z3 ((s3 5 dc).trans h5) ((s3 7 dc).trans h7) hi ((af (hB.block p e2)).trans e3) fun a4 z4 s4 k3 k4 d4=>?_
  refine wp_seq ?_;by_cases h1:a.getD i 0=0
  ·refine lz4f z4 k4 (by rw[h1];rfl) fun a5 z5 s5 h13 d5=>?_
   refine wp_cond_false (by rw[az,h13]) ?_;refine wp_skip ?_;refine lz6 (i:=i) z5 ((s5 7 dc).trans ((s4 7 dc dc dc).trans ((s3 7 dc).trans h7))) om fun a6 z6 s6 k7 d6=>?_
   refine⟨j-1,om,i+1,om,z6,d6.trans (d5.trans (d4.trans (d3.trans d))),?_,(s6 6 dc).trans ((s5 6 dc).trans ((s4 6 dc dc dc).trans ((s3 6 dc).trans h6))),k7,hB,by rw[au,hj,h1];simp⟩;rw[e1];exact(s6 5 dc).trans ((s5 5 dc).trans ((s4 5 dc dc dc).trans ((s3 5 dc).trans h5)))
  ·refine lz4t z4 k4 om fun a5 z5 s5 h13 d5=>?_
   refine wp_cond_true (by rw[az,h13]) ?_;have hl:=JD (n:=64) hw h1;have e:ct v=64*i+ct (a.getD i 0):=by
    have h4:v=B^i*nv B (a.drop i):=by
     have h5:=mr (b:=B) (a.take i) (a.drop i);rw[List.take_append_drop,hj,List.length_take,Nat.min_eq_left om,Nat.zero_add,←hv]at h5;exact h5
    have h6:nv B (a.drop i)=a.getD i 0+2^64*nv B (a.drop (i+1)):=by
     rw[List.drop_eq_getElem_cons (by omega:i<a.length)];show a[i]+B*_=_;rw[List.getD_eq_getElem?_getD,List.getElem?_eq_getElem om];rfl
    have h7:B^i=2^(64*i):=by rw[Xj,←Nat.pow_mul]
    rw[h4,h7,Ru (by rw[h6];omega),h6,ct_add h1 hw]
   refine wp_seq ?_;refine lz5 (i:=i) (y:=(i:Int)*64) (r:=((64*i+ct (a.getD i 0):Nat):Int)) z5 ((s5 3 dc).trans k3) ((s5 4 dc).trans k4) (wi ⟨om,om⟩) (by rw[wi ⟨om,om⟩];omega) (MC (hT.up hB) hw h1) fun a6 w6 z6 s6 h2 d6 B6=>?_
   refine wp_ret ?_;exact fin a6 w6 _ h2 (d6.trans (d5.trans (d4.trans (d3.trans d)))) (ah hB B6) e.symm
 ·obtain rfl:i=a.length:=om;rw[List.take_length,←hv]at hj;refine lz2f z h6 h7 hi fun a3 z3 s3 h8 d3=>?_
  refine wp_seq ?_;refine wp_cond_false (by rw[az,h8]) ?_;refine wp_exit ?_;refine wp_seq ?_;refine lz7 z3 fun a4 z4 s4 h2 d4=>?_
  refine wp_ret ?_;exact fin a4 w' 0 h2 (d4.trans (d3.trans d)) hB (by rw[hj,ct_0])
theorem SE:Calls Tryz.prog 52 #[va] w (fun e w1=>e= .returned (.int .i64 ((ct (nv B a):Nat):Int))∧Below w.heap.size w w1):=by
 have hc:=MF hT bH hr ha la;refine bW (vs:=[va]) Tryz.func52 (c:=qf Tryz.f52) rfl (by show 1≤_;decide) fun a0 z0 e0 d0=>?_
 have i0:a0.tmps.getD 0 undef=va:=e0 0 (by show 0<1;decide);change a0.tmps.size=5 at z0;refine wp_seq ?_;refine tw0 z0 fun a1 z1 s1 _ d1=>?_
 refine wp_seq ?_;refine tw1 z1 ((s1 0 dc).trans i0) hc fun a2 w2 z2 s2 h2 d2 B2=>?_
 refine wp_ret ?_;refine⟨d2.trans (d1.trans d0),_,bM (show dm Tryz.f52.results.toList=some [2]from rfl) _ _,?_,B2⟩;show Ending.returned (a2.tmps.getD 2 undef)=_;rw[h2]
end
end
section
theorem JK{w:World}{s:Bool}{n:Nat}{f:Int}{e:Ending}{w':World}(h:oQ w (s&&decide (0<(dg B n).length)) (dg B n) f e w'):oQ w (decide (zI s n<0)) (dg B (zI s n).natAbs) f e w':=by
 rw[zM,tY];rw[dgp]at h;exact h
section
variable {w:World} (hT:Tb w) {vx:Value} {s:Bool} {a:List Nat} {Ha:Nat→Prop} (bH:∀q,Ha q→q<w.heap.size) (hx:IA w Ha vx s a) (ha:Wd a) (la:a.length≤100000000)
include hT bH hx ha la
theorem SG{k:Nat}(hk:k≤127):Calls Tryz.prog 18 #[vx,.int .i64 (k:Int)] w (oQ w (decide ((zv s a).fdiv (2^k)<0)) (dg B ((zv s a).fdiv (2^k)).natAbs) 0):=by
 have hx0:=hx;obtain⟨x,rfl,hr⟩:=hx;obtain⟨xa,xn,xc,rfl⟩:=bK hr;have hHw:∀w1,Below w.heap.size w w1→∀q,Ha q→q<w1.heap.size:=fun w1 hB q h=>Nat.lt_of_lt_of_le (bH q h) hB.size
 have hrw:∀w1,Below w.heap.size w w1→aO w1 Ha (.slice xa xn xc) (.l 1 (W a)):=fun w1 hB=>hr.mono (fun _ h=>h) fun q h=>hB.block q (bH q h)
 have hbl:=bl_len ha;have hu:=b_ ha;rw[show zv s a=zI s (nv B a)from rfl,←Wp s (nv B a) k,xZ];obtain⟨m,hm⟩:∃m,m=min k (bl (nv B a)+1):=⟨_,rfl⟩;have hm2:min (k:Int) ((bl (nv B a)+1:Nat):Int)=(m:Int):=om;rw[←hm];have hlen:=dS (Nat.lt_of_le_of_lt (Nat.div_le_self (nv B a) (2^m)) hu);have hS:=shrO a (m:Int) ha om om;rw[JF]at hS;refine(bW (R:=oQ w (s&&decide (0<(dg B (nv B a/2^m+if s=true∧nv B a%2^m≠0 then 1 else 0)).length)) (dg B (nv B a/2^m+if s=true∧nv B a%2^m≠0 then 1 else 0)) 0) (vs:=[.agg #[.bool s,.slice xa xn xc],.int .i64 (k:Int)]) Tryz.func18 (c:=qf Tryz.f18) rfl (by show 2≤_;decide) fun a0 z0 e0 d0=>?_).mono fun e w' h=>JK h
 have i0:a0.tmps.getD 0 undef= .agg #[.bool s,.slice xa xn xc]:=e0 0 (by show 0<2;decide);have i1:a0.tmps.getD 1 undef= .int .i64 (k:Int):=e0 1 (by show 1<2;decide);change a0.tmps.size=43 at z0;obtain⟨B1,l1,l2,c0,c1,hb⟩:=bx1 w s (.slice xa xn xc);have hbx:=heap_alloc2_old w (.cells #[.bool s,.slice xa xn xc] 25) (.cells #[.bool false,.slice none 0 0] 25);change(FD w s (.slice xa xn xc)).heap[w.heap.size]? =_ at hbx;refine wp_seq ?_;refine sr0 z0 i0 fun a1 z1 s1 k2 k4 k5 d1=>?_
 generalize FD w s (.slice xa xn xc)=w1 at*
 have k1:=(s1 1 dc).trans i1;refine wp_seq ?_;refine wp_seq ?_;refine sr1 z1 k1 om fun a2 z2 s2 h9 d2=>?_
 refine wp_cond_false (by rw[az,h9]) ?_;refine wp_skip ?_;refine wp_seq ?_;refine sr3 z2 ((s2 1 dc).trans k1) ((s2 2 dc).trans k2) (wi om) hbx (RI (vs:=[.agg #[.bool s,.slice xa xn xc]]) (Ie s a ha om) (hHw w1 B1) (z_ (hx0.up bH B1).rep)) fun a3 w3 z3 s3 k1 d3 B3=>?_
 rw[show((bl (nv B a):Nat):Int)+1=((bl (nv B a)+1:Nat):Int)from rfl,hm2]at k1;have TA:=ah B1 B3;have j2:=(s3 2 dc dc).trans ((s2 2 dc).trans k2);have j4:=(s3 4 dc dc).trans ((s2 4 dc).trans k4);have hbx3:=(B3.block _ l1).trans hbx;have hb3:=(B3.block _ l2).trans hb;have d3':=d3.trans (d2.trans (d1.trans d0));clear c0 c1 s1 s2 s3 k2 k4;refine wp_seq ?_;refine sr4 z3 j2 k1 (cell_of_row _ _ 1 _ _ _ hbx3) (Ij (vs:=[.slice xa xn xc,.int .i64 (m:Int)]) hS (fun w' H' z hz=>(Rep.up (ov:=fun _=>none) hz).bT) (hHw w3 TA) (LZ (hrw w3 TA) (.i _ _))) fun a4 w4 u z4 s4 k6 k7 d4 B4 o4=>?_
 refine wp_seq ?_;refine wp_seq ?_;refine sr5f z4 k7 rfl fun a5 z5 s5 h24 d5=>?_
 refine wp_cond_false (by rw[az,h24]) ?_;refine wp_skip ?_;have B14:=ah TA B4;have o4':Own w (dg B (nv B a/2^m)) u w4:=o4.base TA.size;have WG:=(B4.block _ (aS hbx3)).trans hbx3;have hb4:=(B4.block _ (aS hb3)).trans hb3;have m1:=(s5 1 dc).trans ((s4 1 dc).trans k1);have m2:=(s5 2 dc).trans ((s4 2 dc).trans j2);have m4:=(s5 4 dc).trans ((s4 4 dc).trans j4);have m6:=(s5 6 dc).trans k6;have d5':=d5.trans (d4.trans d3');clear s4 s5 j2 j4 k6 k7;have fin:∀(a':Act) (w':World) (v:Value) (N:Nat),a'.tmps.size=43→a'.tmps.getD 2 undef= .pointer (some ⟨w.heap.size,0,none⟩)→a'.tmps.getD 4 undef= .pointer (some ⟨w.heap.size+1,0,none⟩)→a'.tmps.getD 6 undef=v→a'.defers=[]→Below w4.heap.size w4 w'→Own w (dg B N) v w'→N=(nv B a/2^m+if s=true∧nv B a%2^m≠0 then 1 else 0)→(qd 6 (qf Tryz.f18)).wp Tryz.prog (bodyPost Tryz.prog Tryz.f18 (oQ w (s&&decide (0<(dg B (nv B a/2^m+if s=true∧nv B a%2^m≠0 then 1 else 0)).length)) (dg B (nv B a/2^m+if s=true∧nv B a%2^m≠0 then 1 else 0)) 0)) a' w':=fun a' w' v N z h2 h4 h6 d hB ho hN=>by
  rw[←hN];obtain⟨ua,uc,rfl⟩:=ho.shape;have hb5:=(hB.block _ (aS hb4)).trans hb4;refine wp_seq ?_;refine sr9 z h2 h4 h6 (cell_of_row _ _ 0 _ _ _ ((hB.block _ (aS WG)).trans WG)) hb5 rfl fun a6 w6 z6 s6 h5 d6 B6=>?_
  refine wp_ret ?_;have hb6:=(B6.block _ (aS hb5)).trans hb5;exact kG rfl (d6.trans d) ((s6 4 dc).trans h4) (dO hb6 rfl).2 h5 ⟨_,rfl,dw (ah (ah B14 hB) B6) om,_,rfl,(ho.up B6).st hb6⟩
 have hsg:=oU (hHw w4 B14) (hx0.up bH B14) ha om;refine wp_seq ?_;refine wp_seq ?_;by_cases hs:s=true∧nv B a≠0
 ·obtain⟨rfl,hu0⟩:=hs;have hsn:jy (zv true a)<0:=by rw[show zv true a=zI true (nv B a)from rfl,show jy (zI true (nv B a))= -1 from if_pos (by show -(nv B a:Int)<0;omega)];decide
  have key:=mod_ct (n:=m) hu0;refine sr7t (t:=((ct (nv B a):Nat):Int)) z5 m2 m1 hsn WG hsg (fun w1 hB=>SE (hT.up (ah B14 hB)) (hHw w1 (ah B14 hB)) (hrw w1 (ah B14 hB)) ha om) fun a6 w6 z6 s6 h35 d6 B6=>?_
  by_cases hc:((ct (nv B a):Nat):Int)<(m:Int)
  ·refine wp_cond_true (by rw[az,h35,decide_eq_true hc]) ?_;have o6:=o4'.up B6;refine sr8 z6 ((s6 6 dc).trans m6) (lM (vs:=[.int .u64 1]) (H:=fun _=>False) (pK 1 dc) (fun _ h=>h.elim) (z_ (.i _ _))) (fun w1 v hB ho=>lM (vs:=[u,v]) (mO (dg B (nv B a/2^m)) (dg B 1) (bF _) (bF _) om (by have:=dS (show 1<B^1 by decide);omega)) (fun q h=>h) (LZ (o6.up hB).rep ho.rep)) fun a7 w7 v z7 s7 h6 d7 B7 o7=>?_
   rw[dE,dE]at o7;exact fin a7 w7 v _ z7 ((s7 2 dc).trans ((s6 2 dc).trans m2)) ((s7 4 dc).trans ((s6 4 dc).trans m4)) h6 (d7.trans (d6.trans d5')) (ah B6 B7) (o7.base (ah B14 B6).size) (by rw[if_pos ⟨rfl,key.2 om⟩])
  ·refine wp_cond_false (by rw[az,h35,decide_eq_false hc]) ?_;refine wp_skip ?_;exact fin a6 w6 u _ z6 ((s6 2 dc).trans m2) ((s6 4 dc).trans m4) ((s6 6 dc).trans m6) (d6.trans d5') B6 (o4'.up B6) (by rw[if_neg (fun h=>hc (by have:=key.1 h.2;omega))];rfl)
 ·have hsn:¬jy (zv s a)<0:=by
   rw[show zv s a=zI s (nv B a)from rfl,Wi];intro h;unfold zI at h;cases s
   ·simp at h;omega
   ·simp only[if_true]at h;exact hs ⟨rfl,om⟩
  refine sr7f z5 m2 hsn WG hsg fun a6 w6 z6 s6 h35 d6 B6=>?_
  refine wp_cond_false (by rw[az,h35]) ?_;refine wp_skip ?_;exact fin a6 w6 u _ z6 ((s6 2 dc).trans m2) ((s6 4 dc).trans m4) ((s6 6 dc).trans m6) (d6.trans d5') B6 (o4'.up B6) (by rw[if_neg (fun h=>hs ⟨h.1,fun h0=>h.2 (by rw[h0];exact Nat.zero_mod _)⟩)];rfl)
end
end
section
variable {a:Act}{w:World}{R:Exit→Act→World→Prop}
theorem pw0{s:Bool}{xa:Option Addr}{xn xc:Nat}(hz:a.tmps.size=44)(h0:a.tmps.getD 0 undef= .agg #[.bool s,.slice xa xn xc])
 (kk:∀(a':Act),kA a a' 44 2 [(2,.pointer (some ⟨w.heap.size,0,none⟩)),(4,.pointer (some ⟨w.heap.size+1,0,none⟩)),(5,.int .i64 0)]<|R .normal a' (FD w s (.slice xa xn xc))):(q1 (qf Tryz.f19)).wp Tryz.prog R a w:=by
 replace kk:=pu kk
 refine rl fun gA=>?_
 go_wp2
 exact kk.down _ gZ gN gS gS gS rfl
theorem pw1{n:Int}(hz:a.tmps.size=44)(h1:a.tmps.getD 1 undef= .int .i64 n)
 (hl:¬n<0) (hl2:¬65536<n)
 (kk:∀(a':Act),kA a a' 44 8 [(14,.bool false)]<|R .normal a' w):(q1 (q1 (qd 1 (qf Tryz.f19)))).wp Tryz.prog R a w:=by
 replace kk:=pu kk
 refine rl fun gA=>?_
 go_wp2
 exact kk.down _ gZ gN gS rfl
def pw3Φ(w0:World)(x:Value)(qx:Nat)(A1 A2:List Nat):Nat→Value→World→Prop
 |0,v,w=>Own w0 A1 v w
 |1,v,_=>v= .pointer (some ⟨qx,1,none⟩)
 |2,v,_=>v=x
 |3,v,w=>Own w0 A2 v w
 |_,_,_=>False
theorem pw3{x:Value}{qx:Nat}{A1 A2:List Nat}(hz:a.tmps.size=44)(h2:a.tmps.getD 2 undef= .pointer (some ⟨qx,0,none⟩))(gX:qx<w.heap.size)(c0:w.cell? ⟨qx,1,none⟩=some (x))
 (cO:∀w1,Below w.heap.size w w1→Calls Tryz.prog 53 #[.int .u64 1] w1 (kX w1 A1)) (cN:∀w1,Below w.heap.size w w1→Calls Tryz.prog 44 #[x] w1 (kX w1 A2))
 (kk:∀(a':Act) (w1:World) (u v:Value),kA a a' 44 6 [(6,u),(7,v)]<|Below w.heap.size w w1→Own w A1 u w1→Own w A2 v w1→R .normal a' w1):(q1 (qd 2 (qf Tryz.f19))).wp Tryz.prog R a w:=by
 refine fA (n:=4) (N:=44) (pw3Φ w x qx A1 A2) (fun _ _=>none) dB (by kernel_rfl) hz (by kernel_rfl) (fun i v w1 w2 hi h hb=>?_) (fun i v w1 q hi h hq=>?_) (fun i o a1 w1 hi ho hsz hB hold aG K hK=>?_) (fun a1 w1 hsz hdf hB hold hval hsep=>?_)
 ·match i,hi with
  |0,_|3,_=>exact Own.up h hb
  |1,_|2,_=>exact h
 ·cases hq
 ·match i,hi,ho with
  |0,_,ho=>
   obtain rfl:=Option.some.inj ho;have hc:=cO w1 hB;have hs:=hB.size;replace hK:=pu hK;go_tidy;have gA:=gJ a1;go_simp;refine hc.mono ?_;rintro e w2 ⟨u,m,rfl,b,o,hm⟩;exact hK.down u w2 ⟨m,hm,dC o hs⟩ b (fun q h=>by cases h)
  |1,_,ho=>
   obtain rfl:=Option.some.inj ho;have g2:=(hold 2 (aj gK)).trans h2;exact oT
  |2,_,ho=>
   obtain rfl:=Option.some.inj ho;have e1:a1.tmps.getD 17 undef= .pointer (some ⟨qx,1,none⟩):=aG ⟨1,.data⟩ gM rfl;have x0:=(af (i:=1) (hB.block qx gX)).trans c0;exact oT
  |3,_,ho=>
   obtain rfl:=Option.some.inj ho;have e2:a1.tmps.getD 18 undef=x:=aG ⟨2,.data⟩ gM rfl;have hc:=cN w1 hB;have hs:=hB.size;replace hK:=pu hK;go_tidy;have gA:=gJ a1;go_simp;refine hc.mono ?_;rintro e w2 ⟨u,m,rfl,b,o,hm⟩;exact hK.down u w2 ⟨m,hm,dC o hs⟩ b (fun q h=>by cases h)
 ·have o0:Own w A1 (a1.tmps.getD 16 undef) w1:=hval 0 dc;have o3:Own w A2 (a1.tmps.getD 19 undef) w1:=hval 3 dc;obtain⟨u,hu⟩:∃u,a1.tmps.getD 16 undef=u:=⟨_,rfl⟩;obtain⟨v,hv⟩:∃v,a1.tmps.getD 19 undef=v:=⟨_,rfl⟩;have g16:=gI hsz hu dc;have g19:=gI hsz hv dc;rw[hu]at o0;rw[hv]at o3;have old:∀t,t<6→a1.tmps.getD t undef=a.tmps.getD t undef:=fun t ht=>hold t (aj (by revert t;decide))
  replace kk:=pu kk;clear hold hval;go_wp2;refine kk.down _ w1 u v (by simp[hsz]) (fun t ht=>?_) ?_ ?_ (by first|exact hdf|rfl) hB o0 o3
  ·dsimp only[Act.put];repeat rw[ae om]
   exact old t ht
  ·exact(ae dc).trans (aC (by simp[hsz]))
  ·exact aC (by simp[hsz])
theorem pw4{n:Int}(hz:a.tmps.size=44)(h1:a.tmps.getD 1 undef= .int .i64 n)
 (kk:∀(a':Act),kA a a' 44 8 [(8,.int .i64 n)]<|R .normal a' w):(q1 (q1 (qd 3 (qf Tryz.f19)))).wp Tryz.prog R a w:=by
 replace kk:=pu kk
 refine rl fun gA=>?_
 go_wp2
 exact kk.down _ gZ gN gS rfl
theorem pw5t{k:Int}(hz:a.tmps.size=44)(h8:a.tmps.getD 8 undef= .int .i64 k)
 (hl:0<k)
 (kk:∀(a':Act),kA a a' 44 9 [(22,.bool true)]<|R .normal a' w):(q1 (q1 (ql (qb (q2 (q1 (qd 3 (qf Tryz.f19)))))))).wp Tryz.prog R a w:=by
 replace kk:=pu kk
 refine rl fun gA=>?_
 go_wp2
 exact kk.down _ gZ gN gS rfl
theorem pw5f{k:Int}(hz:a.tmps.size=44)(h8:a.tmps.getD 8 undef= .int .i64 k)
 (hl:¬0<k)
 (kk:∀(a':Act),kA a a' 44 9 [(22,.bool false)]<|R .normal a' w):(q1 (q1 (ql (qb (q2 (q1 (qd 3 (qf Tryz.f19)))))))).wp Tryz.prog R a w:=by
 replace kk:=pu kk
 refine rl fun gA=>?_
 go_wp2
 exact kk.down _ gZ gN gS rfl
theorem pw7(hz:a.tmps.size=44)(h8:a.tmps.getD 8 undef= .int .i64 1)
 (hb:bits .and .i64 1 1=1)
 (kk:∀(a':Act),kA a a' 44 9 [(27,.bool true)]<|R .normal a' w):(q1 (q1 (qb (q1 (q2 (ql (qb (q2 (q1 (qd 3 (qf Tryz.f19))))))))))).wp Tryz.prog R a w:=by
 replace kk:=pu kk
 refine rl fun gA=>?_
 go_wp2
 exact kk.down _ gZ gN gS rfl
theorem pw8{u v:Value}{A:List Nat}(hz:a.tmps.size=44)(h6:a.tmps.getD 6 undef=u)(h7:a.tmps.getD 7 undef=v)
 (cN:Calls Tryz.prog 43 #[u,v] w (kX w A))
 (kk:∀(a':Act) (w1:World) (z:Value),a'.tmps.size=44→(∀t,t<9→t≠6→a'.tmps.getD t undef=a.tmps.getD t undef)→a'.tmps.getD 6 undef=z→a'.defers=a.defers→Below w.heap.size w w1→Own w A z w1→R .normal a' w1):(qt (q2 (q1 (qb (q1 (q2 (ql (qb (q2 (q1 (qd 3 (qf Tryz.f19)))))))))))).wp Tryz.prog R a w:=by
 replace kk:=pu kk
 refine rl fun gA=>?_
 go_wp2_with (go_at_call 43;refine(cN).mono ?_;rintro e w1 ⟨z,n,rfl,b1,o1,m1⟩;obtain⟨ua,uc,rfl⟩:=aB o1)
 exact kk.down _ w1 _ gZ gN gS rfl b1 ⟨n,m1,o1⟩
theorem pw9{k:Int}(hz:a.tmps.size=44)(h8:a.tmps.getD 8 undef= .int .i64 k)
 (hl:¬1<k)
 (kk:∀(a':Act),kA a a' 44 9 [(32,.bool false)]<|R .normal a' w):(q1 (q2 (qb (q1 (q2 (ql (qb (q2 (q1 (qd 3 (qf Tryz.f19))))))))))).wp Tryz.prog R a w:=by
 replace kk:=pu kk
 refine rl fun gA=>?_
 go_wp2
 exact kk.down _ gZ gN gS rfl
theorem pw6(hz:a.tmps.size=44)(h8:a.tmps.getD 8 undef= .int .i64 1)
 (kk:∀(a':Act),kA a a' 44 8 [(8,.int .i64 0)]<|R .normal a' w):(q2 (q2 (ql (qb (q2 (q1 (qd 3 (qf Tryz.f19)))))))).wp Tryz.prog R a w:=by
 replace kk:=pu kk
 refine rl fun gA=>?_
 go_wp2
 exact kk.down _ gZ gN gS rfl
theorem pw11t{qx qr:Nat}{old:Array Value}{ua:Option Addr}{un uc:Nat}(hz:a.tmps.size=44)(h1:a.tmps.getD 1 undef= .int .i64 1)(h2:a.tmps.getD 2 undef= .pointer (some ⟨qx,0,none⟩))(h4:a.tmps.getD 4 undef= .pointer (some ⟨qr,0,none⟩))(h6:a.tmps.getD 6 undef= .slice ua un uc)
 (hb:bits .and .i64 1 1=1) (c0:w.cell? ⟨qx,0,none⟩=some (.bool true)) (hbox:w.heap[qr]? =some (.cells old 25 (0,0))) (hb2:old.size=2)
 (kk:∀(a':Act) (w1:World),kA a a' 44 5 [(5,.int .i64 0)]<|Below w.heap.size w w1→R .normal a' (w1.setRow qr #[.bool (decide (0<un)),.slice ua un uc])):(q1 (qd 4 (qf Tryz.f19))).wp Tryz.prog R a w:=by
 replace kk:=pu kk
 refine rl fun gA=>?_
 go_wp2_with (first|(refine wpList_store_row rfl 25 _ _ rfl qr #[.bool (decide (0<un)),.slice ua un uc] gS gS 25 old m_ (by kernel_rfl) hb2 (aN _ _ _ _) ?_)|(go_at_call 40;refine(rE (w:=w) (s:=true) (ua:=ua) (n:=un) (c:=uc)).mono ?_;rintro e w1 ⟨rfl,b1⟩;have m_:=(b1.block qr (aS hbox)).trans hbox))
 exact kk.down _ w1 gZ gN gS rfl b1
theorem pw11f{qx qr:Nat}{old:Array Value}{ua:Option Addr}{un uc:Nat}(hz:a.tmps.size=44)(h1:a.tmps.getD 1 undef= .int .i64 1)(h2:a.tmps.getD 2 undef= .pointer (some ⟨qx,0,none⟩))(h4:a.tmps.getD 4 undef= .pointer (some ⟨qr,0,none⟩))(h6:a.tmps.getD 6 undef= .slice ua un uc)
 (hb:bits .and .i64 1 1=1) (c0:w.cell? ⟨qx,0,none⟩=some (.bool false)) (hbox:w.heap[qr]? =some (.cells old 25 (0,0))) (hb2:old.size=2)
 (kk:∀(a':Act) (w1:World),kA a a' 44 5 [(5,.int .i64 0)]<|Below w.heap.size w w1→R .normal a' (w1.setRow qr #[.bool (false),.slice ua un uc])):(q1 (qd 4 (qf Tryz.f19))).wp Tryz.prog R a w:=by
 replace kk:=pu kk
 refine rl fun gA=>?_
 go_wp2_with (first|(refine wpList_store_row rfl 25 _ _ rfl qr #[.bool (false),.slice ua un uc] gS gS 25 old m_ (by kernel_rfl) hb2 (aN _ _ _ _) ?_)|(go_at_call 40;refine(rE (w:=w) (s:=false) (ua:=ua) (n:=un) (c:=uc)).mono ?_;rintro e w1 ⟨rfl,b1⟩;have m_:=(b1.block qr (aS hbox)).trans hbox))
 exact kk.down _ w1 gZ gN gS rfl b1
end
section
section
variable {w:World} {vx:Value} {s:Bool} {a:List Nat} {Ha:Nat→Prop} (bH:∀q,Ha q→q<w.heap.size) (hx:IA w Ha vx s a) (ha:Wd a) (la:a.length≤100000000)
include bH hx ha la
theorem MG:Calls Tryz.prog 19 #[vx,.int .i64 1] w (oQ w (decide (zv s a<0)) (dg B (zv s a).natAbs) 0):=by
 obtain⟨x,rfl,hr⟩:=hx;obtain⟨xa,xn,xc,rfl⟩:=bK hr;have hHw:∀w1,Below w.heap.size w w1→∀q,Ha q→q<w1.heap.size:=fun w1 hB q h=>Nat.lt_of_lt_of_le (bH q h) hB.size
 have hrw:∀w1,Below w.heap.size w w1→aO w1 Ha (.slice xa xn xc) (.l 1 (W a)):=fun w1 hB=>hr.mono (fun _ h=>h) fun q h=>hB.block q (bH q h)
 have hlen:=dS (b_ ha);have b1:bits .and .i64 1 1=1:=band1 1 dc;rw[show zv s a=zI s (nv B a)from rfl];refine(bW (R:=oQ w (s&&decide (0<(dg B (nv B a)).length)) (dg B (nv B a)) 0) (vs:=[.agg #[.bool s,.slice xa xn xc],.int .i64 1]) Tryz.func19 (c:=qf Tryz.f19) rfl (by show 2≤_;decide) fun a0 z0 e0 d0=>?_).mono fun e w' h=>JK h
 have i0:a0.tmps.getD 0 undef= .agg #[.bool s,.slice xa xn xc]:=e0 0 (by show 0<2;decide);have i1:a0.tmps.getD 1 undef= .int .i64 1:=e0 1 (by show 1<2;decide);change a0.tmps.size=44 at z0;obtain⟨B1,l1,l2,c0,c1,hb⟩:=bx1 w s (.slice xa xn xc);refine wp_seq ?_;refine pw0 z0 i0 fun a1 z1 s1 k2 k4 k5 d1=>?_
 generalize FD w s (.slice xa xn xc)=w1 at*
 have k1:=(s1 1 dc).trans i1;refine wp_seq ?_;refine wp_seq ?_;refine pw1 z1 k1 dc dc fun a2 z2 s2 Q8 d2=>?_
 refine wp_cond_false (by rw[az,Q8]) ?_;refine wp_skip ?_;refine wp_seq ?_;refine pw3 z2 ((s2 2 dc).trans k2) l1 c1 (fun w2 hB=>lM (vs:=[.int .u64 1]) (H:=fun _=>False) (pK 1 dc) (fun _ h=>h.elim) (z_ (.i _ _))) (fun w2 hB=>lM (vs:=[.slice xa xn xc]) (jl a ha om) (hHw w2 (ah B1 hB)) (z_ (hrw w2 (ah B1 hB)))) fun a3 w3 u v z3 s3 k6 k7 d3 B3 o3 p3=>?_
 have TA:=ah B1 B3;refine wp_seq ?_;refine wp_seq ?_;refine pw4 z3 ((s3 1 dc).trans ((s2 1 dc).trans k1)) fun a4 z4 s4 k8 d4=>?_
 have j1:=(s4 1 dc).trans ((s3 1 dc).trans ((s2 1 dc).trans k1));have j2:=(s4 2 dc).trans ((s3 2 dc).trans ((s2 2 dc).trans k2));have j4:=(s4 4 dc).trans ((s3 4 dc).trans ((s2 4 dc).trans k4));have j6:=(s4 6 dc).trans k6;have j7:=(s4 7 dc).trans k7;have hb3:=(B3.block _ l2).trans hb;have hc3:=(af (B3.block _ l1)).trans c0;have d4':=d4.trans (d3.trans (d2.trans (d1.trans d0)));have fin:∀(a':Act) (w':World) (v:Value),a'.tmps.size=44→a'.tmps.getD 1 undef= .int .i64 1→a'.tmps.getD 2 undef= .pointer (some ⟨w.heap.size,0,none⟩)→a'.tmps.getD 4 undef= .pointer (some ⟨w.heap.size+1,0,none⟩)→a'.tmps.getD 6 undef=v→a'.defers=[]→Below w3.heap.size w3 w'→Own w (dg B (nv B a)) v w'→(qd 4 (qf Tryz.f19)).wp Tryz.prog (bodyPost Tryz.prog Tryz.f19 (oQ w (s&&decide (0<(dg B (nv B a)).length)) (dg B (nv B a)) 0)) a' w':=fun a' w' v z h1 h2 h4 h6 d hB ho=>by
  obtain⟨ua,uc,rfl⟩:=ho.shape;have hb5:=(hB.block _ (aS hb3)).trans hb3;have hc5:=(af (hB.block _ (by have:=B3.size;omega))).trans hc3;refine wp_seq ?_;have key:∀(a6:Act) (w6:World),a6.tmps.size=44→(∀t,t<5→a6.tmps.getD t undef=a'.tmps.getD t undef)→a6.tmps.getD 5 undef= .int .i64 0→a6.defers=a'.defers→Below w'.heap.size w' w6→(qd 5 (qf Tryz.f19)).wp Tryz.prog (bodyPost Tryz.prog Tryz.f19 (oQ w (s&&decide (0<(dg B (nv B a)).length)) (dg B (nv B a)) 0)) a6 (w6.setRow (w.heap.size+1) #[.bool (s&&decide (0<(dg B (nv B a)).length)),.slice ua (dg B (nv B a)).length uc]):=fun a6 w6 z6 s6 h5 d6 B6=>by
   refine wp_ret ?_;have hb6:=(B6.block _ (aS hb5)).trans hb5;exact kG rfl (d6.trans d) ((s6 4 dc).trans h4) (dO hb6 rfl).2 h5 ⟨_,rfl,dw (ah (ah TA hB) B6) om,_,rfl,(ho.up B6).st hb6⟩
  cases s
  ·exact pw11f z h1 h2 h4 h6 b1 hc5 hb5 rfl key
  ·simp only[Bool.true_and]at key ⊢;exact pw11t z h1 h2 h4 h6 b1 hc5 hb5 rfl key
 refine wp_block ?_;refine wp_loop_rounds 2 ?_;refine wp_seq ?_;refine wp_seq ?_;refine pw5t z4 k8 dc fun a5 z5 s5 h22 d5=>?_
 refine wp_cond_true (by rw[az,h22]) ?_;refine wp_skip ?_;refine wp_seq ?_;refine wp_block ?_;refine wp_seq ?_;refine wp_seq ?_;refine pw7 z5 ((s5 8 dc).trans k8) b1 fun a6 z6 s6 h27 d6=>?_
 refine wp_cond_true (by rw[az,h27]) ?_;have hml:=lM (w:=w3) (vs:=[u,v]) (Jv (dg B 1) (dg B (nv B a)) (bF _) (bF _) (by have:=dS (show 1<B^1 by decide);omega) om) (fun q h=>h) (LZ (o3.base B1.size).rep (p3.base B1.size).rep);rw[dE,dE,Nat.one_mul]at hml;refine pw8 z6 ((s6 6 dc).trans ((s5 6 dc).trans j6)) ((s6 7 dc).trans ((s5 7 dc).trans j7)) hml fun a7 w7 z z7 s7 k6' d7 B7 o7=>?_
 refine wp_seq ?_;refine pw9 z7 ((s7 8 dc dc).trans ((s6 8 dc).trans ((s5 8 dc).trans k8))) dc fun a8 z8 s8 h32 d8=>?_
 refine wp_cond_false (by rw[az,h32]) ?_;refine wp_skip ?_;have e:∀t,t<9→t≠6→a8.tmps.getD t undef=a4.tmps.getD t undef:=fun t ht hne=>(s8 t ht).trans ((s7 t ht hne).trans ((s6 t ht).trans (s5 t ht)))
 refine pw6 z8 ((e 8 dc dc).trans k8) fun a9 z9 s9 k8' d9=>?_
 refine wp_seq ?_;refine wp_seq ?_;refine pw5f z9 k8' dc fun a10 z10 s10 h22' d10=>?_
 refine wp_cond_false (by rw[az,h22']) ?_;refine wp_exit ?_;have e2:∀t,t<8→t≠6→a10.tmps.getD t undef=a4.tmps.getD t undef:=fun t ht hne=>(s10 t om).trans ((s9 t ht).trans (e t om hne))
 exact fin a10 w7 z z10 ((e2 1 dc dc).trans j1) ((e2 2 dc dc).trans j2) ((e2 4 dc dc).trans j4) ((s10 6 dc).trans ((s9 6 dc).trans ((s8 6 dc).trans k6'))) (d10.trans (d9.trans (d8.trans (d7.trans (d6.trans (d5.trans d4')))))) B7 (o7.base TA.size)
end
end
def zaL(f:Func):Code:=ql (qb (q2 (q1 (qd 5 (qf f)))))
def uh(f:Func):Code:=qb (q1 (q2 (zaL f)))
def jI(w0:World)(H:Nat→Prop)(s:Bool)(A:List Nat)(v:Value)(w:World):Prop:=(∀q,H q→q<w0.heap.size)∧w0.heap.size≤w.heap.size∧IA w (fun q=>H q∨(w0.heap.size≤q∧q<w.heap.size)) v s A
theorem jI.up{w0 w w':World}{H:Nat→Prop}{s:Bool}{A:List Nat}{v:Value}(h:jI w0 H s A v w)(hb:Below w.heap.size w w'):jI w0 H s A v w':=by
 obtain⟨h1,h2,x,e,r⟩:=h;have hs:=hb.size;exact⟨h1,om,x,e,r.mono (fun q hq=>hq.imp id fun h=>⟨h.1,om⟩) fun q hq=>hb.block q (hq.elim (fun h=>by have:=h1 q h;omega) fun h=>h.2)⟩
theorem jI.ia{w0 w:World}{H:Nat→Prop}{s:Bool}{A:List Nat}{v:Value}(h:jI w0 H s A v w):IA w (fun q=>q<w.heap.size) v s A:=by
 obtain⟨h1,h2,x,e,r⟩:=h;exact⟨x,e,r.mono (fun q hq=>hq.elim (fun h=>by have:=h1 q h;omega) fun h=>h.2) fun _ _=>rfl⟩
theorem jI.shape{w0 w:World}{H:Nat→Prop}{v:Value}{s:Bool}{a:List Nat}(h:jI w0 H s a v w):∃ua un uc,v= .agg #[.bool s,.slice ua un uc]:=h.2.2.shape
theorem IA.ian{w0 w:World}{H:Nat→Prop}{s:Bool}{A:List Nat}{v:Value}(h:IA w H v s A)(hH:∀q,H q→q<w0.heap.size)(hs:w0.heap.size≤w.heap.size):jI w0 H s A v w:=by
 obtain⟨x,e,r⟩:=h;exact⟨hH,hs,x,e,r.mono (fun q hq=> .inl hq) fun _ _=>rfl⟩
theorem dA.ian{w0 w:World}{H:Nat→Prop}{s:Bool}{A:List Nat}{v:Value}(h:dA w0 s A v w)(hH:∀q,H q→q<w0.heap.size)(hs:w0.heap.size≤w.heap.size):jI w0 H s A v w:=by
 obtain⟨u,e,m,hm,ho⟩:=h;exact⟨hH,hs,u,e,(Bo (H:=fun q=>H q∨(w0.heap.size≤q∧q<w.heap.size)) Nat.one_pos ho (CW A) hm fun q hq=> .inr (ho.lt q hq))⟩
theorem uk{f:FuncId}{args:List V}{z:Int}{w0 w:World}{H:Nat→Prop}{vs:List Value}(c:aF Tryz.prog J0 f args (zN z))(hH:∀q,H q→q<w0.heap.size)(hs:w0.heap.size≤w.heap.size)(hr:aA w (fun q=>H q∨(w0.heap.size≤q∧q<w.heap.size)) vs args):Calls Tryz.prog f vs.toArray w (fun e w1=>∃v,e= .returned v∧Below w.heap.size w w1∧jI w0 H (decide (z<0)) (dg B z.natAbs) v w1):=by
 refine((c.Yl rfl) w _ vs trivial (MO _ _) (fun q h=>h.elim (fun h=>by have:=hH q h;omega) fun h=>h.2) hr).mono ?_;rintro e w' ⟨v,rfl,hB,N,hN,h⟩;have hs':=hB.size;rcases h with h|⟨e,sz,cs,n,xs,he,_⟩|⟨r,h,_⟩
 ·obtain⟨vs,rfl,hv⟩:=(Rep.up (ov:=fun _=>none) h).yx;match vs,hv with
  |[],hv=>exact absurd hv.1 sy
  |[_],hv=>exact absurd hv.1 sy
  |_::_::_::_,hv=>exact absurd hv.1 sy
  |[p,q],hv=>
   have h1:=hv.2 0 p _ rfl rfl;have h2:=hv.2 1 q _ rfl rfl;have e1:=(Rep.up (ov:=fun _=>none) h1).nT;subst e1;exact⟨_,rfl,hB,hH,om,q,rfl,h2.mono (fun q hq=>by
    rcases hq with (h|h)|h
    ·exact .inl h
    ·exact .inr ⟨h.1,om⟩
    ·have:=hN q h;exact .inr ⟨om,om⟩) fun _ _=>rfl⟩
 ·cases he
 ·cases h
def Ai(w:World)(k:Nat):Prop:=∃s a n c,w.heap[k]? =some (.cells #[.bool s,.slice a n c] 25 (0,0))
theorem aO.bx{w w':World}{H:Nat→Prop}{u:Value}{A:List Nat}(h:aO w H u (.l 1 (W A)))(hb:∀k,H k→w'.heap[k]? =w.heap[k]? ∨Ai w k):aO w' H u (.l 1 (W A)):=by
 obtain⟨ad,n,cap,f,b,o,rfl,hsz,hn,hm,hcp,ha,hc,hr⟩:=h.l_;have key:∀j,j<(W A).length→w'.heap[b]? =w.heap[b]? :=fun j hj=>by
  have hH:H b:=by
   rcases ha with h|h
   ·rw[h]at hj;simp at hj
   ·exact h.2
  rcases hb b hH with h|⟨s,a,n,c,hq⟩
  ·exact h
  exfalso;have h1:=hc j hj;rw[aU]at hj;have h2:=(Rep.up (ov:=fun _=>none) (hr j (.i .u64 ((A[j]:Nat):Int)) (by simp only[W,List.getElem?_map,List.getElem?_eq_getElem hj];rfl))).bT;rw[h2]at h1;unfold World.cell? at h1;simp only[hq]at h1;generalize o+j=k at h1;match k,h1 with
  |0,h1=>cases h1
  |1,h1=>cases h1
  |k+2,h1=>simp at h1
 refine .l ad n cap 1 (W A) f b o hsz hn hm hcp ha (fun j hj=>?_) (fun j x hx=>?_)
 ·rw[af (key j hj)];exact hc j hj
 ·have hj:j<A.length:=by
   have:=(List.getElem?_eq_some_iff.1 hx).1;rwa[aU]at this
  have e:x= .i .u64 ((A[j]:Nat):Int):=by
   simp only[W,List.getElem?_map,List.getElem?_eq_getElem hj]at hx;exact(Option.some.inj hx).symm
  subst e;have h2:=(Rep.up (ov:=fun _=>none) (hr j _ hx)).bT;rw[h2];exact .i _ _
theorem aO.box{w:World}{H:Nat→Prop}{u x y:Value}{A:List Nat}{q:Nat}(h:aO w H u (.l 1 (W A)))(hq:Ai w q):aO (w.setRow q #[x,y]) H u (.l 1 (W A)):=
 aO.bx h fun k _=>by
  by_cases e:k=q
  ·exact .inr (e▸hq)
  ·exact .inl (setRow_other w q k _ e)
theorem jI.st{w0 w:World}{H:Nat→Prop}{s:Bool}{A:List Nat}{v x y:Value}{q:Nat}(h:jI w0 H s A v w)(hq:Ai w q):jI w0 H s A v (w.setRow q #[x,y]):=by
 obtain⟨h1,h2,u,e,r⟩:=h;exact⟨h1,by simpa using h2,u,e,(aO.box r hq).mono (fun q hq=>by simpa using hq) fun _ _=>rfl⟩
def oV(w0:World)(v:Value)(w:World):Prop:=∃q,v= .pointer (some ⟨q,0,none⟩)∧w0.heap.size≤q∧w.heap[q]? =some (.cells #[.bool false,.slice none 0 0] 25 (0,0))
theorem oV.up{w0 w w':World}{v:Value}(h:oV w0 v w)(hb:Below w.heap.size w w'):oV w0 v w':=by
 obtain⟨q,e,h1,h2⟩:=h;exact⟨q,e,h1,(hb.block q (aS h2)).trans h2⟩
def SH:Value→Option Nat
 | .pointer (some a)=>some a.block
 |_=>none
def Ff:Value→Option Nat
 | .agg cs=>(cs.getD 1 undef).ownBlock
 |_=>none
theorem oV.lt{w0 w:World}{v:Value}{q:Nat}(h:oV w0 v w)(hq:SH v=some q):q<w.heap.size:=by
 obtain⟨p,rfl,h1,h2⟩:=h;cases hq;exact aS h2
theorem oV.alloc{w0 w:World}(hs:w0.heap.size≤w.heap.size):oV w0 (.pointer (some ⟨w.heap.size,0,none⟩)) (w.alloc (.cells #[.bool false,.slice none 0 0] 25)):=⟨_,rfl,hs,heap_alloc_new _ _⟩
theorem Own.lt{w0 w:World}{A:List Nat}{v:Value}{q:Nat}(h:Own w0 A v w)(hq:v.ownBlock=some q):w0.heap.size≤q∧q<w.heap.size:=by
 obtain⟨m,hm,ho⟩:=h;exact ho.lt q hq
theorem dA.lt{w0 w:World}{s:Bool}{A:List Nat}{v:Value}{q:Nat}(h:dA w0 s A v w)(hq:Ff v=some q):w0.heap.size≤q∧q<w.heap.size:=by
 obtain⟨u,rfl,h⟩:=h;exact h.lt hq
def ZI(w0:World)(z:Int)(v:Value)(w:World):Prop:=dA w0 (decide (z<0)) (dg B z.natAbs) v w
theorem ZI.up{w0 w w':World}{z:Int}{v:Value}(h:ZI w0 z v w)(hb:Below w.heap.size w w'):ZI w0 z v w':=dA.up h hb
theorem dA.base{w0 w1 w:World}{s:Bool}{A:List Nat}{v:Value}(h:dA w1 s A v w)(hs:w0.heap.size≤w1.heap.size):dA w0 s A v w:=by
 obtain⟨u,e,h⟩:=h;exact⟨u,e,h.base hs⟩
def gu(w:World)(q:Nat)(s:Bool)(u:Value):Prop:=w.heap[q]? =some (.cells #[.bool s,u] 25 (0,0))
theorem gu.up{w w':World}{q:Nat}{s:Bool}{u:Value}(h:gu w q s u)(hb:Below w.heap.size w w'):gu w' q s u:=(hb.block q (aS h)).trans h
theorem JL{n:Nat}{bk:Nat→Option Nat}{us:List Value}{ix:List Nat}(hsep:∀i j q,i<n→j<n→i≠j→bk i=some q→bk j≠some q)(hl:us.length=ix.length)(hnd:ix.Nodup)(hlt:∀m,m∈ix→m<n)(hk:∀(k:Nat) (v:Value) (m:Nat),us[k]? =some v→ix[k]? =some m→bk m=v.ownBlock):EG us:=by
 intro i j vi vj q hij hi hj hq;have li:=(List.getElem?_eq_some_iff.1 hi).1;have lj:=(List.getElem?_eq_some_iff.1 hj).1;have e1:ix[i]? =some (ix[i]' om):=List.getElem?_eq_getElem _;have e2:ix[j]? =some (ix[j]' om):=List.getElem?_eq_getElem _;have hne:ix[i]' om≠ix[j]' om:=fun e=>hij ((List.getElem?_inj (i:=i) (j:=j) om hnd).1 (by rw[e1,e2,e]))
 rw[←hk j vj _ hj e2];exact hsep _ _ q (hlt _ (List.getElem_mem _)) (hlt _ (List.getElem_mem _)) hne ((hk i vi _ hi e1).trans hq)
