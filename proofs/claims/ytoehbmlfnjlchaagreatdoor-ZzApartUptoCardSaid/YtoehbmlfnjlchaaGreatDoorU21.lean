import Derived.Test.YtoehbmlfnjlchaaGreatDoorU20
set_option linter.all false
set_option maxHeartbeats 10000000
set_option maxRecDepth 2000000
namespace Go.Proofs.YtoehbmlfnjlchaaGreatDoor
open Go Go.RowKit Go.Proofs Ab
section
variable {a:Act}{w:World}{R:Exit→Act→World→Prop}
def za9Φ(w0:World)(s t:Bool)(xa ya:Option Addr)(xn xc yn yc p8 p9:Nat)(H:Nat→Prop)(s1 s2:Bool)(A1 A2:List Nat):Nat→Value→World→Prop
 |0,v,_=>v= .agg #[.bool s,.slice xa xn xc]
 |1,v,w=>jI w0 H s1 A1 v w
 |2,v,_=>v= .agg #[.bool t,.slice ya yn yc]
 |3,v,w=>jI w0 H s2 A2 v w
 |4,v,w=>oV w0 v w
 |5,v,w=>oV w0 v w
 |_,_,_=>False
theorem za9{s t:Bool}{xa ya:Option Addr}{xn xc yn yc p8 p9:Nat}{H:Nat→Prop}{s1 s2:Bool}{A1 A2:List Nat}(hz:a.tmps.size=353)(h8:a.tmps.getD 8 undef= .pointer (some ⟨p8,0,none⟩))(h9:a.tmps.getD 9 undef= .pointer (some ⟨p9,0,none⟩))(jT:p8<w.heap.size)(xJ:p9<w.heap.size)(c0:w.cell? ⟨p8,0,none⟩=some (.bool s))(c1:w.cell? ⟨p8,1,none⟩=some (.slice xa xn xc))(c2:w.cell? ⟨p9,0,none⟩=some (.bool t))(c3:w.cell? ⟨p9,1,none⟩=some (.slice ya yn yc))
 (cX:∀w1,Below w.heap.size w w1→Calls Tryz.prog 6 #[.agg #[.bool s,.slice xa xn xc]] w1 (fun e w2=>∃v,e= .returned v∧Below w1.heap.size w1 w2∧jI w H s1 A1 v w2)) (cY:∀w1,Below w.heap.size w w1→Calls Tryz.prog 6 #[.agg #[.bool t,.slice ya yn yc]] w1 (fun e w2=>∃v,e= .returned v∧Below w1.heap.size w1 w2∧jI w H s2 A2 v w2))
 (kk:∀(a':Act) (w':World) (q1 q2:Nat) (u1 u2:Value),kA a a' 353 11 [(11,.pointer (some ⟨q1,0,none⟩)),(12,.pointer (some ⟨q2,0,none⟩))]<|Below w.heap.size w w'→w.heap.size≤q1→w.heap.size≤q2→gu w' q1 s1 u1→gu w' q2 s2 u2→jI w H s1 A1 (.agg #[.bool s1,u1]) w'→jI w H s2 A2 (.agg #[.bool s2,u2]) w'→R .normal a' w'):(q1 (uh Tryz.f3)).wp Tryz.prog R a w:=by
 refine fA (n:=6) (N:=353) (za9Φ w s t xa ya xn xc yn yc p8 p9 H s1 s2 A1 A2) (fun i v=>match i with|4=>SH v|5=>SH v|_=>none) dB (by kernel_rfl) hz (by kernel_rfl) (fun i v w1 w2 hi h hb=>?_) (fun i v w1 q hi h hq=>?_) (fun i o a1 w1 hi ho hsz hB hold aG K hK=>?_) (fun a1 w1 hsz hdf hB hold hval hsep=>?_)
 ·match i,hi with
  |0,_|2,_=>exact h
  |1,_|3,_=>exact jI.up h hb
  |4,_|5,_=>exact oV.up h hb
 ·match i,hi with
  |0,_|1,_|2,_|3,_=>cases hq
  |4,_|5,_=>exact oV.lt h hq
 ·match i,hi,ho with
  |0,_,ho=>
   obtain rfl:=Option.some.inj ho;have g8:=(hold 8 (aj gK)).trans h8;have x0:=(af (i:=0) (hB.block p8 jT)).trans c0;have x1:=(af (i:=1) (hB.block p8 jT)).trans c1;exact oT
  |1,_,ho=>
   obtain rfl:=Option.some.inj ho;have e0:a1.tmps.getD 72 undef= .agg #[.bool s,.slice xa xn xc]:=aG ⟨0,.data⟩ gM rfl;have hc:=cX w1 hB;replace hK:=pu hK;go_tidy;have gA:=gJ a1;go_simp;refine hc.mono ?_;rintro e w2 ⟨v,rfl,b,hv⟩;exact hK.down v w2 hv b (fun q h=>by cases h)
  |2,_,ho=>
   obtain rfl:=Option.some.inj ho;have g9:=(hold 9 (aj gK)).trans h9;have x2:=(af (i:=0) (hB.block p9 xJ)).trans c2;have x3:=(af (i:=1) (hB.block p9 xJ)).trans c3;exact oT
  |3,_,ho=>
   obtain rfl:=Option.some.inj ho;have e2:a1.tmps.getD 74 undef= .agg #[.bool t,.slice ya yn yc]:=aG ⟨2,.data⟩ gM rfl;have hc:=cY w1 hB;replace hK:=pu hK;go_tidy;have gA:=gJ a1;go_simp;refine hc.mono ?_;rintro e w2 ⟨v,rfl,b,hv⟩;exact hK.down v w2 hv b (fun q h=>by cases h)
  |4,_,ho=>
   obtain rfl:=Option.some.inj ho;replace hK:=pu hK;go_tidy;have gA:=gJ a1;go_simp;exact hK.down _ _ (oV.alloc hB.size) (aQ _ _) (fun q h=>by cases h;exact Nat.le_refl _)
  |5,_,ho=>
   obtain rfl:=Option.some.inj ho;replace hK:=pu hK;go_tidy;have gA:=gJ a1;go_simp;exact hK.down _ _ (oV.alloc hB.size) (aQ _ _) (fun q h=>by cases h;exact Nat.le_refl _)
 ·have e1:jI w H s1 A1 (a1.tmps.getD 73 undef) w1:=hval 1 dc;have e3:jI w H s2 A2 (a1.tmps.getD 75 undef) w1:=hval 3 dc;obtain⟨q1,p1,lq1,hq1⟩:oV w (a1.tmps.getD 11 undef) w1:=hval 4 dc;obtain⟨q2,p2,lq2,hq2⟩:oV w (a1.tmps.getD 12 undef) w1:=hval 5 dc;have hne:q2≠q1:=fun e=>hsep 4 5 q1 dc dc dc (by show SH (a1.tmps.getD 11 undef)=_;rw[p1];rfl) (by show SH (a1.tmps.getD 12 undef)=_;rw[p2,e];rfl)
  obtain⟨ua,un,uc,eu⟩:=e1.shape;obtain⟨va,vn,vc,ev⟩:=e3.shape;rw[eu]at e1;rw[ev]at e3;have old:∀t,t<11→a1.tmps.getD t undef=a.tmps.getD t undef:=fun t ht=>hold t (aj (by revert t;decide))
  refine wpList_store_row rfl 25 (.tmp 11) (.tmp 73) rfl q1 #[.bool s1,.slice ua un uc] p1 eu 25 _ hq1 (by kernel_rfl) rfl (aN _ _ _ _) ?_;have WH:=(setRow_other w1 q1 q2 #[.bool s1,.slice ua un uc] hne).trans hq2;refine wpList_store_row rfl 25 (.tmp 12) (.tmp 75) rfl q2 #[.bool s2,.slice va vn vc] p2 ev 25 _ WH (by kernel_rfl) rfl (aN _ _ _ _) ?_;have h1:=(dO (x:= .bool s1) (y:= .slice ua un uc) hq1 rfl).2;have h2:=(dO (x:= .bool s2) (y:= .slice va vn vc) WH rfl).2;refine kk _ _ q1 q2 _ _ hsz old p1 p2 hdf (dw (dw hB lq1) lq2) lq1 lq2 ((setRow_other _ q2 q1 _ (Ne.symm hne)).trans h1) h2 ((e1.st ⟨_,_,_,_,hq1⟩).st ⟨_,_,_,_,WH⟩) ((e3.st ⟨_,_,_,_,hq1⟩).st ⟨_,_,_,_,WH⟩)
def SI(w0:World)(s t:Bool)(xa ya:Option Addr)(xn xc yn yc p8 p9:Nat)(H:Nat→Prop)(z0 z1 z2 z3 z4 z5 z6:Int):Nat→Value→World→Prop
 |0,v,_=>v= .agg #[.bool s,.slice xa xn xc]
 |1,v,_=>v= .agg #[.bool t,.slice ya yn yc]
 |2,v,w=>ZI w0 z0 v w
 |3,v,_=>v= .agg #[.bool s,.slice xa xn xc]
 |4,v,_=>v= .agg #[.bool t,.slice ya yn yc]
 |5,v,w=>ZI w0 z1 v w
 |6,v,_=>v= .agg #[.bool s,.slice xa xn xc]
 |7,v,_=>v= .agg #[.bool t,.slice ya yn yc]
 |8,v,w=>ZI w0 z2 v w
 |9,v,_=>v= .agg #[.bool s,.slice xa xn xc]
 |10,v,w=>ZI w0 z3 v w
 |11,v,_=>v= .agg #[.bool s,.slice xa xn xc]
 |12,v,w=>ZI w0 z4 v w
 |13,v,_=>v= .agg #[.bool s,.slice xa xn xc]
 |14,v,_=>v= .agg #[.bool false,.slice none 0 0]
 |15,v,w=>ZI w0 z5 v w
 |16,v,_=>v= .agg #[.bool s,.slice xa xn xc]
 |17,v,w=>jI w0 H false (dg B 1) v w
 |18,v,w=>ZI w0 z6 v w
 |_,_,_=>False
theorem za10{s t:Bool}{xa ya:Option Addr}{xn xc yn yc p8 p9:Nat}{H:Nat→Prop}{z0 z1 z2 z3 z4 z5 z6:Int}(hz:a.tmps.size=353)(h8:a.tmps.getD 8 undef= .pointer (some ⟨p8,0,none⟩))(h9:a.tmps.getD 9 undef= .pointer (some ⟨p9,0,none⟩))(jT:p8<w.heap.size)(xJ:p9<w.heap.size)(c0:w.cell? ⟨p8,0,none⟩=some (.bool s))(c1:w.cell? ⟨p8,1,none⟩=some (.slice xa xn xc))(c2:w.cell? ⟨p9,0,none⟩=some (.bool t))(c3:w.cell? ⟨p9,1,none⟩=some (.slice ya yn yc))
 (SK:∀w1,Below w.heap.size w w1→Calls Tryz.prog 7 #[.agg #[.bool s,.slice xa xn xc],.agg #[.bool t,.slice ya yn yc]] w1 (ZR w1 z0)) (SL:∀w1,Below w.heap.size w w1→Calls Tryz.prog 8 #[.agg #[.bool s,.slice xa xn xc],.agg #[.bool t,.slice ya yn yc]] w1 (ZR w1 z1)) (SN:∀w1,Below w.heap.size w w1→Calls Tryz.prog 9 #[.agg #[.bool s,.slice xa xn xc],.agg #[.bool t,.slice ya yn yc]] w1 (ZR w1 z2)) (SQ:∀w1,Below w.heap.size w w1→Calls Tryz.prog 10 #[.agg #[.bool s,.slice xa xn xc]] w1 (ZR w1 z3)) (c104:∀w1,Below w.heap.size w w1→Calls Tryz.prog 11 #[.agg #[.bool s,.slice xa xn xc]] w1 (ZR w1 z4)) (c105:∀w1,Below w.heap.size w w1→Calls Tryz.prog 7 #[.agg #[.bool s,.slice xa xn xc],.agg #[.bool false,.slice none 0 0]] w1 (ZR w1 z5)) (cO:∀w1,Below w.heap.size w w1→Calls Tryz.prog 12 #[.int .i64 1] w1 (fun e w2=>∃v,e= .returned v∧Below w1.heap.size w1 w2∧jI w H false (dg B 1) v w2)) (c106:∀w1 v,Below w.heap.size w w1→jI w H false (dg B 1) v w1→Calls Tryz.prog 9 #[.agg #[.bool s,.slice xa xn xc],v] w1 (ZR w1 z6))
 (kk:∀(a':Act) (w':World) (g:Nat) (u0 u1 u2 u3 u4 u5 u6:Value),kA a a' 353 13 [(13,.slice (some ⟨g,0,none⟩) 7 7)]<|Below w.heap.size w w'→w.heap.size≤g→w'.heap[g]? =some (.cells #[.bool (decide (z0<0)),u0,.bool (decide (z1<0)),u1,.bool (decide (z2<0)),u2,.bool (decide (z3<0)),u3,.bool (decide (z4<0)),u4,.bool (decide (z5<0)),u5,.bool (decide (z6<0)),u6] 25 (0,0))→Own w (dg B z0.natAbs) u0 w'→Own w (dg B z1.natAbs) u1 w'→Own w (dg B z2.natAbs) u2 w'→Own w (dg B z3.natAbs) u3 w'→Own w (dg B z4.natAbs) u4 w'→Own w (dg B z5.natAbs) u5 w'→Own w (dg B z6.natAbs) u6 w'→EG [u0,u1,u2,u3,u4,u5,u6]→R .normal a' w'):(q1 (qd 1 (uh Tryz.f3))).wp Tryz.prog R a w:=by
 refine fA (n:=19) (N:=353) (SI w s t xa ya xn xc yn yc p8 p9 H z0 z1 z2 z3 z4 z5 z6) (fun i v=>match i with|2=>Ff v|5=>Ff v|8=>Ff v|10=>Ff v|12=>Ff v|15=>Ff v|18=>Ff v|_=>none) dB (by kernel_rfl) hz (by kernel_rfl) (fun i v w1 w2 hi h hb=>?_) (fun i v w1 q hi h hq=>?_) (fun i o a1 w1 hi ho hsz hB hold aG K hK=>?_) (fun a1 w1 hsz hdf hB hold hval hsep=>?_)
 ·match i,hi with
  |0,_|1,_|3,_|4,_|6,_|7,_|9,_|11,_|13,_|14,_|16,_=>exact h
  |2,_|5,_|8,_|10,_|12,_|15,_|18,_=>exact ZI.up h hb
  |17,_=>exact jI.up h hb
 ·match i,hi with
  |0,_|1,_|3,_|4,_|6,_|7,_|9,_|11,_|13,_|14,_|16,_|17,_=>cases hq
  |2,_|5,_|8,_|10,_|12,_|15,_|18,_=>exact(dA.lt h hq).2
 ·match i,hi,ho with
  |0,_,ho=>
   obtain rfl:=Option.some.inj ho;have g8:=(hold 8 (aj gK)).trans h8;have x0:=(af (i:=0) (hB.block p8 jT)).trans c0;have x1:=(af (i:=1) (hB.block p8 jT)).trans c1;exact oT
  |1,_,ho=>
   obtain rfl:=Option.some.inj ho;have g9:=(hold 9 (aj gK)).trans h9;have x2:=(af (i:=0) (hB.block p9 xJ)).trans c2;have x3:=(af (i:=1) (hB.block p9 xJ)).trans c3;exact oT
  |2,_,ho=>
   obtain rfl:=Option.some.inj ho;have e0:a1.tmps.getD 76 undef= .agg #[.bool s,.slice xa xn xc]:=aG ⟨0,.data⟩ gM rfl;have e1:a1.tmps.getD 77 undef= .agg #[.bool t,.slice ya yn yc]:=aG ⟨1,.data⟩ gM rfl;have hc:=SK w1 hB;have hs:=hB.size;replace hK:=pu hK;go_tidy;have gA:=gJ a1;go_simp;refine hc.mono ?_;rintro e w2 ⟨v,rfl,b,hv⟩;exact hK.down v w2 (dA.base hv hs) b (fun q h=>(dA.lt hv h).1)
  |3,_,ho=>
   obtain rfl:=Option.some.inj ho;have g8:=(hold 8 (aj gK)).trans h8;have x0:=(af (i:=0) (hB.block p8 jT)).trans c0;have x1:=(af (i:=1) (hB.block p8 jT)).trans c1;exact oT
  |4,_,ho=>
   obtain rfl:=Option.some.inj ho;have g9:=(hold 9 (aj gK)).trans h9;have x2:=(af (i:=0) (hB.block p9 xJ)).trans c2;have x3:=(af (i:=1) (hB.block p9 xJ)).trans c3;exact oT
  |5,_,ho=>
   obtain rfl:=Option.some.inj ho;have e3:a1.tmps.getD 79 undef= .agg #[.bool s,.slice xa xn xc]:=aG ⟨3,.data⟩ gM rfl;have e4:a1.tmps.getD 80 undef= .agg #[.bool t,.slice ya yn yc]:=aG ⟨4,.data⟩ gM rfl;have hc:=SL w1 hB;have hs:=hB.size;replace hK:=pu hK;go_tidy;have gA:=gJ a1;go_simp;refine hc.mono ?_;rintro e w2 ⟨v,rfl,b,hv⟩;exact hK.down v w2 (dA.base hv hs) b (fun q h=>(dA.lt hv h).1)
  |6,_,ho=>
   obtain rfl:=Option.some.inj ho;have g8:=(hold 8 (aj gK)).trans h8;have x0:=(af (i:=0) (hB.block p8 jT)).trans c0;have x1:=(af (i:=1) (hB.block p8 jT)).trans c1;exact oT
  |7,_,ho=>
   obtain rfl:=Option.some.inj ho;have g9:=(hold 9 (aj gK)).trans h9;have x2:=(af (i:=0) (hB.block p9 xJ)).trans c2;have x3:=(af (i:=1) (hB.block p9 xJ)).trans c3;exact oT
  |8,_,ho=>
   obtain rfl:=Option.some.inj ho;have e6:a1.tmps.getD 82 undef= .agg #[.bool s,.slice xa xn xc]:=aG ⟨6,.data⟩ gM rfl;have e7:a1.tmps.getD 83 undef= .agg #[.bool t,.slice ya yn yc]:=aG ⟨7,.data⟩ gM rfl;have hc:=SN w1 hB;have hs:=hB.size;replace hK:=pu hK;go_tidy;have gA:=gJ a1;go_simp;refine hc.mono ?_;rintro e w2 ⟨v,rfl,b,hv⟩;exact hK.down v w2 (dA.base hv hs) b (fun q h=>(dA.lt hv h).1)
  |9,_,ho=>
   obtain rfl:=Option.some.inj ho;have g8:=(hold 8 (aj gK)).trans h8;have x0:=(af (i:=0) (hB.block p8 jT)).trans c0;have x1:=(af (i:=1) (hB.block p8 jT)).trans c1;exact oT
  |10,_,ho=>
   obtain rfl:=Option.some.inj ho;have e9:a1.tmps.getD 85 undef= .agg #[.bool s,.slice xa xn xc]:=aG ⟨9,.data⟩ gM rfl;have hc:=SQ w1 hB;have hs:=hB.size;replace hK:=pu hK;go_tidy;have gA:=gJ a1;go_simp;refine hc.mono ?_;rintro e w2 ⟨v,rfl,b,hv⟩;exact hK.down v w2 (dA.base hv hs) b (fun q h=>(dA.lt hv h).1)
  |11,_,ho=>
   obtain rfl:=Option.some.inj ho;have g8:=(hold 8 (aj gK)).trans h8;have x0:=(af (i:=0) (hB.block p8 jT)).trans c0;have x1:=(af (i:=1) (hB.block p8 jT)).trans c1;exact oT
  |12,_,ho=>
   obtain rfl:=Option.some.inj ho;have e11:a1.tmps.getD 87 undef= .agg #[.bool s,.slice xa xn xc]:=aG ⟨11,.data⟩ gM rfl;have hc:=c104 w1 hB;have hs:=hB.size;replace hK:=pu hK;go_tidy;have gA:=gJ a1;go_simp;refine hc.mono ?_;rintro e w2 ⟨v,rfl,b,hv⟩;exact hK.down v w2 (dA.base hv hs) b (fun q h=>(dA.lt hv h).1)
  |13,_,ho=>
   obtain rfl:=Option.some.inj ho;have g8:=(hold 8 (aj gK)).trans h8;have x0:=(af (i:=0) (hB.block p8 jT)).trans c0;have x1:=(af (i:=1) (hB.block p8 jT)).trans c1;exact oT
  |14,_,ho=>
   obtain rfl:=Option.some.inj ho;exact oT
  |15,_,ho=>
   obtain rfl:=Option.some.inj ho;have e13:a1.tmps.getD 89 undef= .agg #[.bool s,.slice xa xn xc]:=aG ⟨13,.data⟩ gM rfl;have e14:a1.tmps.getD 90 undef= .agg #[.bool false,.slice none 0 0]:=aG ⟨14,.data⟩ gM rfl;have hc:=c105 w1 hB;have hs:=hB.size;replace hK:=pu hK;go_tidy;have gA:=gJ a1;go_simp;refine hc.mono ?_;rintro e w2 ⟨v,rfl,b,hv⟩;exact hK.down v w2 (dA.base hv hs) b (fun q h=>(dA.lt hv h).1)
  |16,_,ho=>
   obtain rfl:=Option.some.inj ho;have g8:=(hold 8 (aj gK)).trans h8;have x0:=(af (i:=0) (hB.block p8 jT)).trans c0;have x1:=(af (i:=1) (hB.block p8 jT)).trans c1;exact oT
  |17,_,ho=>
   obtain rfl:=Option.some.inj ho;have hc:=cO w1 hB;replace hK:=pu hK;go_tidy;have gA:=gJ a1;go_simp;refine hc.mono ?_;rintro e w2 ⟨v,rfl,b,hv⟩;exact hK.down v w2 hv b (fun q h=>by cases h)
  |18,_,ho=>
   obtain rfl:=Option.some.inj ho;have e16:a1.tmps.getD 92 undef= .agg #[.bool s,.slice xa xn xc]:=aG ⟨16,.data⟩ gM rfl;have e17:SI w s t xa ya xn xc yn yc p8 p9 H z0 z1 z2 z3 z4 z5 z6 17 (a1.tmps.getD 93 undef) w1:=aG ⟨17,.data⟩ gM rfl;obtain⟨oa,on,oc,eo⟩:=jI.shape e17;have g93:=gI hsz eo dc;rw[eo]at e17;have hc:=c106 w1 _ hB e17;have hs:=hB.size;replace hK:=pu hK;go_tidy;have gA:=gJ a1;go_simp;refine hc.mono ?_;rintro e w2 ⟨v,rfl,b,hv⟩;exact hK.down v w2 (dA.base hv hs) b (fun q h=>(dA.lt hv h).1)
  |k+19,hi,_=>exact absurd hi om
 ·have e2:ZI w z0 (a1.tmps.getD 78 undef) w1:=hval 2 dc;obtain⟨u0,f0,o0⟩:=e2;have g78:=gI hsz f0 dc;have e5:ZI w z1 (a1.tmps.getD 81 undef) w1:=hval 5 dc;obtain⟨u1,f1,o1⟩:=e5;have g81:=gI hsz f1 dc;have e8:ZI w z2 (a1.tmps.getD 84 undef) w1:=hval 8 dc;obtain⟨u2,f2,o2⟩:=e8;have g84:=gI hsz f2 dc;have e10:ZI w z3 (a1.tmps.getD 86 undef) w1:=hval 10 dc;obtain⟨u3,f3,o3⟩:=e10;have g86:=gI hsz f3 dc;have e12:ZI w z4 (a1.tmps.getD 88 undef) w1:=hval 12 dc;obtain⟨u4,f4,o4⟩:=e12;have g88:=gI hsz f4 dc;have e15:ZI w z5 (a1.tmps.getD 91 undef) w1:=hval 15 dc;obtain⟨u5,f5,o5⟩:=e15;have g91:=gI hsz f5 dc;have e18:ZI w z6 (a1.tmps.getD 94 undef) w1:=hval 18 dc;obtain⟨u6,f6,o6⟩:=e18;have g94:=gI hsz f6 dc;have ap:EG [u0,u1,u2,u3,u4,u5,u6]:=JL (ix:=[2,5,8,10,12,15,18]) hsep rfl dc dc fun k v m h1 h2=>by
   match k,h1,h2 with
   |0,h1,h2=>cases h1;cases h2;show Ff (a1.tmps.getD 78 undef)=_;rw[f0];rfl
   |1,h1,h2=>cases h1;cases h2;show Ff (a1.tmps.getD 81 undef)=_;rw[f1];rfl
   |2,h1,h2=>cases h1;cases h2;show Ff (a1.tmps.getD 84 undef)=_;rw[f2];rfl
   |3,h1,h2=>cases h1;cases h2;show Ff (a1.tmps.getD 86 undef)=_;rw[f3];rfl
   |4,h1,h2=>cases h1;cases h2;show Ff (a1.tmps.getD 88 undef)=_;rw[f4];rfl
   |5,h1,h2=>cases h1;cases h2;show Ff (a1.tmps.getD 91 undef)=_;rw[f5];rfl
   |6,h1,h2=>cases h1;cases h2;show Ff (a1.tmps.getD 94 undef)=_;rw[f6];rfl
  have old:∀t,t<13→a1.tmps.getD t undef=a.tmps.getD t undef:=fun t ht=>hold t (aj (by revert t;decide))
  replace kk:=pu kk;clear hold hval hsep cO SK SL SN SQ c104 c105 c106;simp only[List.drop_succ_cons,List.drop_zero];go_wp2;have ba:=aQ w1 (.cells #[.bool (decide (z0<0)),u0,.bool (decide (z1<0)),u1,.bool (decide (z2<0)),u2,.bool (decide (z3<0)),u3,.bool (decide (z4<0)),u4,.bool (decide (z5<0)),u5,.bool (decide (z6<0)),u6] 25);refine kk.down _ _ w1.heap.size u0 u1 u2 u3 u4 u5 u6 (by simp[hsz]) (fun t ht=>?_) ?_ (by first|exact hdf|rfl) (ah hB ba) hB.size (heap_alloc_new w1 _) (o0.up ba) (o1.up ba) (o2.up ba) (o3.up ba) (o4.up ba) (o5.up ba) (o6.up ba) ap
  ·dsimp only[Act.put];repeat rw[ae om]
   exact old t ht
  ·exact aC (by simp[hsz])
theorem za11{s t sg:Bool}{xa ya:Option Addr}{xn xc yn yc p8 p9:Nat}{A1 A2:List Nat}{f:Int}(hz:a.tmps.size=353)(h8:a.tmps.getD 8 undef= .pointer (some ⟨p8,0,none⟩))(h9:a.tmps.getD 9 undef= .pointer (some ⟨p9,0,none⟩))
 (c0:w.cell? ⟨p8,0,none⟩=some (.bool s)) (c1:w.cell? ⟨p8,1,none⟩=some (.slice xa xn xc)) (c2:w.cell? ⟨p9,0,none⟩=some (.bool t)) (c3:w.cell? ⟨p9,1,none⟩=some (.slice ya yn yc)) (cN:Calls Tryz.prog 13 #[.agg #[.bool s,.slice xa xn xc],.agg #[.bool t,.slice ya yn yc]] w (IntD w sg A1 A2 f))
 (kk:∀(a':Act) (w1:World) (u1 u2:Value),kA a a' 353 14 [(14,.pointer (some ⟨w1.heap.size,0,none⟩)),(15,u2),(16,.int .i64 f)]<|Below w.heap.size w w1→Own w A1 u1 w1→Own w A2 u2 w1→(∀q,u1.ownBlock=some q→u2.ownBlock≠some q)→R .normal a' (Du w1 sg u1)):(q1 (qd 2 (uh Tryz.f3))).wp Tryz.prog R a w:=by
 replace kk:=pu kk
 refine rl fun gA=>?_
 go_wp2_with (first|(refine wpList_store_row rfl 25 _ _ rfl w1.heap.size #[.bool sg,.slice ua n1 uc] gS gS 25 #[.bool false,.slice none 0 0] hq1 (by kernel_rfl) rfl (aN _ _ _ _) ?_)|(go_at_call 13;refine(cN).mono ?_;rintro e w1 ⟨u1,u2,rfl,b1,o1,o2,s12⟩;obtain⟨n1,m1,p1⟩:=o1;obtain⟨n2,m2,p2⟩:=o2;obtain⟨ua,uc,rfl⟩:=aB p1;obtain⟨va,vc,rfl⟩:=aB p2;have hq1:=heap_alloc_new w1 (.cells #[.bool false,.slice none 0 0] 25)))
 exact kk.down _ w1 _ _ gZ gN gS gS gS rfl b1 ⟨n1,m1,p1⟩ ⟨n2,m2,p2⟩ s12
theorem za12{s t sg sh:Bool}{xa ya:Option Addr}{xn xc yn yc p8 p9:Nat}{A1 A2:List Nat}{f:Int}(hz:a.tmps.size=353)(h8:a.tmps.getD 8 undef= .pointer (some ⟨p8,0,none⟩))(h9:a.tmps.getD 9 undef= .pointer (some ⟨p9,0,none⟩))
 (c0:w.cell? ⟨p8,0,none⟩=some (.bool s)) (c1:w.cell? ⟨p8,1,none⟩=some (.slice xa xn xc)) (c2:w.cell? ⟨p9,0,none⟩=some (.bool t)) (c3:w.cell? ⟨p9,1,none⟩=some (.slice ya yn yc)) (cN:Calls Tryz.prog 14 #[.agg #[.bool s,.slice xa xn xc],.agg #[.bool t,.slice ya yn yc]] w (RU w sg A1 sh A2 f))
 (kk:∀(a':Act) (w1:World) (u1 u2:Value),kA a a' 353 17 [(17,.pointer (some ⟨w1.heap.size,0,none⟩)),(18,.pointer (some ⟨w1.heap.size+1,0,none⟩)),(19,.int .i64 f)]<|Below w.heap.size w w1→Own w A1 u1 w1→Own w A2 u2 w1→(∀q,u1.ownBlock=some q→u2.ownBlock≠some q)→R .normal a' (MP w1 sg u1 sh u2)):(q1 (qd 3 (uh Tryz.f3))).wp Tryz.prog R a w:=by
 replace kk:=pu kk
 refine rl fun gA=>?_
 go_wp2_with (first|(refine wpList_store_row rfl 25 _ _ rfl w1.heap.size #[.bool sg,.slice ua n1 uc] gS gS 25 #[.bool false,.slice none 0 0] hq1 (by kernel_rfl) rfl (aN _ _ _ _) ?_)|(refine wpList_store_row rfl 25 _ _ rfl (w1.heap.size+1) #[.bool sh,.slice va n2 vc] gS gS 25 #[.bool false,.slice none 0 0] ((setRow_other _ _ _ _ om).trans hq2) (by kernel_rfl) rfl (aN _ _ _ _) ?_)|(go_at_call 14;refine(cN).mono ?_;rintro e w1 ⟨u1,u2,rfl,b1,o1,o2,s12⟩;obtain⟨n1,m1,p1⟩:=o1;obtain⟨n2,m2,p2⟩:=o2;obtain⟨ua,uc,rfl⟩:=aB p1;obtain⟨va,vc,rfl⟩:=aB p2;have hq1:=heap_alloc2_old w1 (.cells #[.bool false,.slice none 0 0] 25) (.cells #[.bool false,.slice none 0 0] 25);have hq2:=heap_alloc2_new w1 (.cells #[.bool false,.slice none 0 0] 25) (.cells #[.bool false,.slice none 0 0] 25)))
 exact kk.down _ w1 _ _ gZ gN gS gS gS rfl b1 ⟨n1,m1,p1⟩ ⟨n2,m2,p2⟩ s12
theorem za13{s t sg:Bool}{xa ya:Option Addr}{xn xc yn yc p8 p9:Nat}{A:List Nat}{f:Int}(hz:a.tmps.size=353)(h8:a.tmps.getD 8 undef= .pointer (some ⟨p8,0,none⟩))(h9:a.tmps.getD 9 undef= .pointer (some ⟨p9,0,none⟩))
 (c0:w.cell? ⟨p8,0,none⟩=some (.bool s)) (c1:w.cell? ⟨p8,1,none⟩=some (.slice xa xn xc)) (c2:w.cell? ⟨p9,0,none⟩=some (.bool t)) (c3:w.cell? ⟨p9,1,none⟩=some (.slice ya yn yc)) (cN:Calls Tryz.prog 15 #[.agg #[.bool s,.slice xa xn xc],.agg #[.bool t,.slice ya yn yc]] w (oQ w sg A f))
 (kk:∀(a':Act) (w1:World) (u:Value),kA a a' 353 20 [(20,.pointer (some ⟨w1.heap.size,0,none⟩)),(21,.int .i64 f)]<|Below w.heap.size w w1→Own w A u w1→R .normal a' (Du w1 sg u)):(q1 (qd 4 (uh Tryz.f3))).wp Tryz.prog R a w:=by
 replace kk:=pu kk
 refine rl fun gA=>?_
 go_wp2_with (first|(refine wpList_store_row rfl 25 _ _ rfl w1.heap.size #[.bool sg,.slice ua n1 uc] gS gS 25 #[.bool false,.slice none 0 0] hq1 (by kernel_rfl) rfl (aN _ _ _ _) ?_)|(go_at_call 15;refine(cN).mono ?_;rintro e w1 ⟨v,rfl,b1,u,rfl,o1⟩;obtain⟨n1,m1,p1⟩:=o1;obtain⟨ua,uc,rfl⟩:=aB p1;have hq1:=heap_alloc_new w1 (.cells #[.bool false,.slice none 0 0] 25)))
 exact kk.down _ w1 _ gZ gN gS gS rfl b1 ⟨n1,m1,p1⟩
theorem za15{s sg:Bool}{xa:Option Addr}{xn xc p8:Nat}{A:List Nat}{f:Int}{n:Int}(hz:a.tmps.size=353)(h8:a.tmps.getD 8 undef= .pointer (some ⟨p8,0,none⟩))(h2:a.tmps.getD 2 undef= .int .i64 n)
 (c0:w.cell? ⟨p8,0,none⟩=some (.bool s)) (c1:w.cell? ⟨p8,1,none⟩=some (.slice xa xn xc)) (cN:Calls Tryz.prog 17 #[.agg #[.bool s,.slice xa xn xc],.int .i64 n] w (oQ w sg A f))
 (kk:∀(a':Act) (w1:World) (u:Value),kA a a' 353 24 [(24,.pointer (some ⟨w1.heap.size,0,none⟩)),(25,.int .i64 f)]<|Below w.heap.size w w1→Own w A u w1→R .normal a' (Du w1 sg u)):(q1 (qd 6 (uh Tryz.f3))).wp Tryz.prog R a w:=by
 replace kk:=pu kk
 refine rl fun gA=>?_
 go_wp2_with (first|(refine wpList_store_row rfl 25 _ _ rfl w1.heap.size #[.bool sg,.slice ua n1 uc] gS gS 25 #[.bool false,.slice none 0 0] hq1 (by kernel_rfl) rfl (aN _ _ _ _) ?_)|(go_at_call 17;refine(cN).mono ?_;rintro e w1 ⟨v,rfl,b1,u,rfl,o1⟩;obtain⟨n1,m1,p1⟩:=o1;obtain⟨ua,uc,rfl⟩:=aB p1;have hq1:=heap_alloc_new w1 (.cells #[.bool false,.slice none 0 0] 25)))
 exact kk.down _ w1 _ gZ gN gS gS rfl b1 ⟨n1,m1,p1⟩
theorem za16{s sg:Bool}{xa:Option Addr}{xn xc p8:Nat}{A:List Nat}{f:Int}{n:Int}(hz:a.tmps.size=353)(h8:a.tmps.getD 8 undef= .pointer (some ⟨p8,0,none⟩))(h2:a.tmps.getD 2 undef= .int .i64 n)
 (c0:w.cell? ⟨p8,0,none⟩=some (.bool s)) (c1:w.cell? ⟨p8,1,none⟩=some (.slice xa xn xc)) (cN:Calls Tryz.prog 18 #[.agg #[.bool s,.slice xa xn xc],.int .i64 n] w (oQ w sg A f))
 (kk:∀(a':Act) (w1:World) (u:Value),kA a a' 353 26 [(26,.pointer (some ⟨w1.heap.size,0,none⟩)),(27,.int .i64 f)]<|Below w.heap.size w w1→Own w A u w1→R .normal a' (Du w1 sg u)):(q1 (qd 7 (uh Tryz.f3))).wp Tryz.prog R a w:=by
 replace kk:=pu kk
 refine rl fun gA=>?_
 go_wp2_with (first|(refine wpList_store_row rfl 25 _ _ rfl w1.heap.size #[.bool sg,.slice ua n1 uc] gS gS 25 #[.bool false,.slice none 0 0] hq1 (by kernel_rfl) rfl (aN _ _ _ _) ?_)|(go_at_call 18;refine(cN).mono ?_;rintro e w1 ⟨v,rfl,b1,u,rfl,o1⟩;obtain⟨n1,m1,p1⟩:=o1;obtain⟨ua,uc,rfl⟩:=aB p1;have hq1:=heap_alloc_new w1 (.cells #[.bool false,.slice none 0 0] 25)))
 exact kk.down _ w1 _ gZ gN gS gS rfl b1 ⟨n1,m1,p1⟩
theorem za17{s sg:Bool}{xa:Option Addr}{xn xc p8:Nat}{A:List Nat}{f:Int}(hz:a.tmps.size=353)(h8:a.tmps.getD 8 undef= .pointer (some ⟨p8,0,none⟩))
 (c0:w.cell? ⟨p8,0,none⟩=some (.bool s)) (c1:w.cell? ⟨p8,1,none⟩=some (.slice xa xn xc)) (cN:Calls Tryz.prog 19 #[.agg #[.bool s,.slice xa xn xc],.int .i64 1] w (oQ w sg A f))
 (kk:∀(a':Act) (w1:World) (u:Value),kA a a' 353 28 [(28,.pointer (some ⟨w1.heap.size,0,none⟩)),(29,.int .i64 f)]<|Below w.heap.size w w1→Own w A u w1→R .normal a' (Du w1 sg u)):(q1 (qd 8 (uh Tryz.f3))).wp Tryz.prog R a w:=by
 replace kk:=pu kk
 refine rl fun gA=>?_
 go_wp2_with (first|(refine wpList_store_row rfl 25 _ _ rfl w1.heap.size #[.bool sg,.slice ua n1 uc] gS gS 25 #[.bool false,.slice none 0 0] hq1 (by kernel_rfl) rfl (aN _ _ _ _) ?_)|(go_at_call 19;refine(cN).mono ?_;rintro e w1 ⟨v,rfl,b1,u,rfl,o1⟩;obtain⟨n1,m1,p1⟩:=o1;obtain⟨ua,uc,rfl⟩:=aB p1;have hq1:=heap_alloc_new w1 (.cells #[.bool false,.slice none 0 0] 25)))
 exact kk.down _ w1 _ gZ gN gS gS rfl b1 ⟨n1,m1,p1⟩
def Ir(w0:World)(s t:Bool)(xa ya:Option Addr)(xn xc yn yc p8 p9:Nat)(A1 A2 A3:List Nat)(z:Int):Nat→Value→World→Prop
 |0,v,_=>v= .agg #[.bool s,.slice xa xn xc]
 |1,v,w=>Own w0 A1 v w
 |2,v,_=>v= .pointer (some ⟨p8,1,none⟩)
 |3,v,_=>v= .slice xa xn xc
 |4,v,w=>ZI w0 z v w
 |5,v,_=>v= .agg #[.bool s,.slice xa xn xc]
 |6,v,_=>v= .agg #[.bool t,.slice ya yn yc]
 |7,v,w=>∃g,v= .slice (some ⟨g,0,none⟩) 2 2∧w0.heap.size≤g∧w.heap[g]? =some (.cells #[.bool s,.slice xa xn xc,.bool t,.slice ya yn yc] 25 (0,0))
 |8,v,w=>Own w0 A2 v w
 |9,v,_=>v= .agg #[.bool s,.slice xa xn xc]
 |10,v,w=>∃g,v= .slice (some ⟨g,0,none⟩) 1 1∧w0.heap.size≤g∧w.heap[g]? =some (.cells #[.bool s,.slice xa xn xc] 25 (0,0))
 |11,v,w=>Own w0 A3 v w
 |12,v,w=>oV w0 v w
 |_,_,_=>False
theorem za18{s t:Bool}{xa ya:Option Addr}{xn xc yn yc p8 p9:Nat}{A1 A2 A3:List Nat}{z:Int}(hz:a.tmps.size=353)(h8:a.tmps.getD 8 undef= .pointer (some ⟨p8,0,none⟩))(h9:a.tmps.getD 9 undef= .pointer (some ⟨p9,0,none⟩))(jT:p8<w.heap.size)(xJ:p9<w.heap.size)(c0:w.cell? ⟨p8,0,none⟩=some (.bool s))(c1:w.cell? ⟨p8,1,none⟩=some (.slice xa xn xc))(c2:w.cell? ⟨p9,0,none⟩=some (.bool t))(c3:w.cell? ⟨p9,1,none⟩=some (.slice ya yn yc))
 (cA:∀w1,Below w.heap.size w w1→Calls Tryz.prog 20 #[.agg #[.bool s,.slice xa xn xc]] w1 (kX w1 A1)) (cN:∀w1,Below w.heap.size w w1→Calls Tryz.prog 21 #[.bool true,.slice xa xn xc] w1 (ZR w1 z)) (cG:∀w1 g,Below w.heap.size w w1→w.heap.size≤g→w1.heap[g]? =some (.cells #[.bool s,.slice xa xn xc,.bool t,.slice ya yn yc] 25 (0,0))→Calls Tryz.prog 22 #[.slice (some ⟨g,0,none⟩) 2 2] w1 (kX w1 A2)) (cH:∀w1 g,Below w.heap.size w w1→w.heap.size≤g→w1.heap[g]? =some (.cells #[.bool s,.slice xa xn xc] 25 (0,0))→Calls Tryz.prog 22 #[.slice (some ⟨g,0,none⟩) 1 1] w1 (kX w1 A3))
 (kk:∀(a':Act) (w':World) (q:Nat) (u1 u4 u8 u11:Value),kA a a' 353 30 [(30,u1),(31,.pointer (some ⟨q,0,none⟩)),(32,u8),(33,u11)]<|Below w.heap.size w w'→w.heap.size≤q→gu w' q (decide (z<0)) u4→Own w A1 u1 w'→Own w (dg B z.natAbs) u4 w'→Own w A2 u8 w'→Own w A3 u11 w'→EG [u1,u4,u8,u11]→R .normal a' w'):(q1 (qd 9 (uh Tryz.f3))).wp Tryz.prog R a w:=by
 refine fA (n:=13) (N:=353) (Ir w s t xa ya xn xc yn yc p8 p9 A1 A2 A3 z) (fun i v=>match i with|1=>v.ownBlock|4=>Ff v|8=>v.ownBlock|11=>v.ownBlock|12=>SH v|_=>none) dB (by kernel_rfl) hz (by kernel_rfl) (fun i v w1 w2 hi h hb=>?_) (fun i v w1 q hi h hq=>?_) (fun i o a1 w1 hi ho hsz hB hold aG K hK=>?_) (fun a1 w1 hsz hdf hB hold hval hsep=>?_)
 ·match i,hi with
  |0,_|2,_|3,_|5,_|6,_|9,_=>exact h
  |1,_|8,_|11,_=>exact Own.up h hb
  |4,_=>exact ZI.up h hb
  |7,_|10,_=>obtain⟨g,e,h1,h2⟩:=h;exact⟨g,e,h1,(hb.block g (aS h2)).trans h2⟩
  |12,_=>exact oV.up h hb
 ·match i,hi with
  |0,_|2,_|3,_|5,_|6,_|7,_|9,_|10,_=>cases hq
  |1,_|8,_|11,_=>exact(Own.lt h hq).2
  |4,_=>exact(dA.lt h hq).2
  |12,_=>exact oV.lt h hq
 ·match i,hi,ho with
  |0,_,ho=>
   obtain rfl:=Option.some.inj ho;have g8:=(hold 8 (aj gK)).trans h8;have x0:=(af (i:=0) (hB.block p8 jT)).trans c0;have x1:=(af (i:=1) (hB.block p8 jT)).trans c1;exact oT
  |1,_,ho=>
   obtain rfl:=Option.some.inj ho;have e0:a1.tmps.getD 139 undef= .agg #[.bool s,.slice xa xn xc]:=aG ⟨0,.data⟩ gM rfl;have hc:=cA w1 hB;have hs:=hB.size;replace hK:=pu hK;go_tidy;have gA:=gJ a1;go_simp;refine hc.mono ?_;rintro e w2 ⟨u,m,rfl,b,o,hm⟩;exact hK.down u w2 ⟨m,hm,dC o hs⟩ b (fun q h=>(o.lt q h).1)
  |2,_,ho=>
   obtain rfl:=Option.some.inj ho;have g8:=(hold 8 (aj gK)).trans h8;exact oT
  |3,_,ho=>
   obtain rfl:=Option.some.inj ho;have e2:a1.tmps.getD 141 undef= .pointer (some ⟨p8,1,none⟩):=aG ⟨2,.data⟩ gM rfl;have x0:=(af (i:=0) (hB.block p8 jT)).trans c0;have x1:=(af (i:=1) (hB.block p8 jT)).trans c1;exact oT
  |4,_,ho=>
   obtain rfl:=Option.some.inj ho;have e3:a1.tmps.getD 142 undef= .slice xa xn xc:=aG ⟨3,.data⟩ gM rfl;have hc:=cN w1 hB;have hs:=hB.size;replace hK:=pu hK;go_tidy;have gA:=gJ a1;go_simp;refine hc.mono ?_;rintro e w2 ⟨v,rfl,b,hv⟩;exact hK.down v w2 (dA.base hv hs) b (fun q h=>(dA.lt hv h).1)
  |5,_,ho=>
   obtain rfl:=Option.some.inj ho;have g8:=(hold 8 (aj gK)).trans h8;have x0:=(af (i:=0) (hB.block p8 jT)).trans c0;have x1:=(af (i:=1) (hB.block p8 jT)).trans c1;exact oT
  |6,_,ho=>
   obtain rfl:=Option.some.inj ho;have g9:=(hold 9 (aj gK)).trans h9;have x2:=(af (i:=0) (hB.block p9 xJ)).trans c2;have x3:=(af (i:=1) (hB.block p9 xJ)).trans c3;exact oT
  |7,_,ho=>
   obtain rfl:=Option.some.inj ho;have e5:a1.tmps.getD 144 undef= .agg #[.bool s,.slice xa xn xc]:=aG ⟨5,.data⟩ gM rfl;have e6:a1.tmps.getD 145 undef= .agg #[.bool t,.slice ya yn yc]:=aG ⟨6,.data⟩ gM rfl;replace hK:=pu hK;go_tidy;have gA:=gJ a1;go_simp;exact hK.down _ _ ⟨_,rfl,hB.size,heap_alloc_new _ _⟩ (aQ _ _) (fun q h=>by cases h)
  |8,_,ho=>
   obtain rfl:=Option.some.inj ho;have e7:Ir w s t xa ya xn xc yn yc p8 p9 A1 A2 A3 z 7 (a1.tmps.getD 146 undef) w1:=aG ⟨7,.data⟩ gM rfl;obtain⟨g,eg,lg,hg⟩:=e7;have g146:=gI hsz eg dc;have hc:=cG w1 g hB lg hg;have hs:=hB.size;replace hK:=pu hK;go_tidy;have gA:=gJ a1;go_simp;refine hc.mono ?_;rintro e w2 ⟨u,m,rfl,b,o,hm⟩;exact hK.down u w2 ⟨m,hm,dC o hs⟩ b (fun q h=>(o.lt q h).1)
  |9,_,ho=>
   obtain rfl:=Option.some.inj ho;have g8:=(hold 8 (aj gK)).trans h8;have x0:=(af (i:=0) (hB.block p8 jT)).trans c0;have x1:=(af (i:=1) (hB.block p8 jT)).trans c1;exact oT
  |10,_,ho=>
   obtain rfl:=Option.some.inj ho;have e9:a1.tmps.getD 148 undef= .agg #[.bool s,.slice xa xn xc]:=aG ⟨9,.data⟩ gM rfl;replace hK:=pu hK;go_tidy;have gA:=gJ a1;go_simp;exact hK.down _ _ ⟨_,rfl,hB.size,heap_alloc_new _ _⟩ (aQ _ _) (fun q h=>by cases h)
  |11,_,ho=>
   obtain rfl:=Option.some.inj ho;have e10:Ir w s t xa ya xn xc yn yc p8 p9 A1 A2 A3 z 10 (a1.tmps.getD 149 undef) w1:=aG ⟨10,.data⟩ gM rfl;obtain⟨g,eg,lg,hg⟩:=e10;have g149:=gI hsz eg dc;have hc:=cH w1 g hB lg hg;have hs:=hB.size;replace hK:=pu hK;go_tidy;have gA:=gJ a1;go_simp;refine hc.mono ?_;rintro e w2 ⟨u,m,rfl,b,o,hm⟩;exact hK.down u w2 ⟨m,hm,dC o hs⟩ b (fun q h=>(o.lt q h).1)
  |12,_,ho=>
   obtain rfl:=Option.some.inj ho;replace hK:=pu hK;go_tidy;have gA:=gJ a1;go_simp;exact hK.down _ _ (oV.alloc hB.size) (aQ _ _) (fun q h=>by cases h;exact Nat.le_refl _)
  |k+13,hi,_=>exact absurd hi om
 ·have e1:Own w A1 (a1.tmps.getD 140 undef) w1:=hval 1 dc;obtain⟨u4,f4,o4⟩:ZI w z (a1.tmps.getD 143 undef) w1:=hval 4 dc;have e8:Own w A2 (a1.tmps.getD 147 undef) w1:=hval 8 dc;have e11:Own w A3 (a1.tmps.getD 150 undef) w1:=hval 11 dc;obtain⟨q,p12,lq,hq⟩:oV w (a1.tmps.getD 31 undef) w1:=hval 12 dc;have ap:EG [a1.tmps.getD 140 undef,u4,a1.tmps.getD 147 undef,a1.tmps.getD 150 undef]:=JL (ix:=[1,4,8,11]) hsep rfl dc dc fun k v m h1 h2=>by
   match k,h1,h2 with
   |0,h1,h2=>cases h1;cases h2;rfl
   |1,h1,h2=>cases h1;cases h2;show Ff (a1.tmps.getD 143 undef)=_;rw[f4];rfl
   |2,h1,h2=>cases h1;cases h2;rfl
   |3,h1,h2=>cases h1;cases h2;rfl
  have old:∀t,t<30→a1.tmps.getD t undef=a.tmps.getD t undef:=fun t ht=>hold t (aj (by revert t;decide))
  obtain⟨u1,f1⟩:∃u,a1.tmps.getD 140 undef=u:=⟨_,rfl⟩;rw[f1]at e1 ap;have g140:=gI hsz f1 dc;obtain⟨u8,f8⟩:∃u,a1.tmps.getD 147 undef=u:=⟨_,rfl⟩;rw[f8]at e8 ap;have g147:=gI hsz f8 dc;obtain⟨u11,f11⟩:∃u,a1.tmps.getD 150 undef=u:=⟨_,rfl⟩;rw[f11]at e11 ap;have g150:=gI hsz f11 dc;obtain⟨ma,mc,eu⟩:=o4.shape;subst eu;have g143:=gI hsz f4 dc;have g31:=gI hsz p12 dc;have hz:=hsz;replace kk:=pu kk;clear hold hval hsep cA cN cG cH;simp only[List.drop_succ_cons,List.drop_zero];go_wp2_with (refine wpList_store_row rfl 25 _ _ rfl q #[.bool (decide (z<0)),.slice ma (dg B z.natAbs).length mc] gS gS 25 #[.bool false,.slice none 0 0] hq (by kernel_rfl) rfl (aN _ _ _ _) ?_);refine kk.down _ _ q u1 _ u8 u11 (by simp[hsz]) (fun t ht=>?_) ?_ ?_ ?_ ?_ (by first|exact hdf|rfl) (dw hB lq) lq (dO hq rfl).2 (e1.st hq) (o4.st hq) (e8.st hq) (e11.st hq) ap
  ·dsimp only[Act.put];repeat rw[ae om]
   exact old t ht
  ·dsimp only[Act.put];repeat (first|rw[ae dc]|rw[aC (by simp[hsz])])
   try exact p12
  ·dsimp only[Act.put];repeat (first|rw[ae dc]|rw[aC (by simp[hsz])])
   try exact p12
  ·dsimp only[Act.put];repeat (first|rw[ae dc]|rw[aC (by simp[hsz])])
   try exact p12
  ·dsimp only[Act.put];repeat (first|rw[ae dc]|rw[aC (by simp[hsz])])
   try exact p12
end
def LB(w0:World)(w w':World):Prop:=aY w (fun k=>w0.heap.size≤k∧Ai w k) w'∧∀k,Ai w k→Ai w' k
theorem LB.of{w0 w w':World}(h:Below w.heap.size w w'):LB w0 w w':=⟨⟨h.os,h.tape,h.output,h.size,fun k hk _=>h.block k hk⟩,fun k ⟨s,a,n,c,h1⟩=>⟨s,a,n,c,(h.block k (aS h1)).trans h1⟩⟩
theorem Ai.lt{w:World}{k:Nat}(h:Ai w k):k<w.heap.size:=by
 obtain⟨_,_,_,_,h⟩:=h;exact aS h
theorem LB.tr{w0 a b c:World}(h1:LB w0 a b)(h2:LB w0 b c):LB w0 a c:=
 ⟨⟨h2.1.os.trans h1.1.os,h2.1.tape.trans h1.1.tape,h2.1.output.trans h1.1.output,Nat.le_trans h1.1.size h2.1.size,fun k hk hn=>by
   have e1:=h1.1.block k hk hn;refine(h2.1.block k (Nat.lt_of_lt_of_le hk h1.1.size) fun h=>hn ⟨h.1,?_⟩).trans e1;obtain⟨s,a,n,c,h3⟩:=h.2;exact⟨s,a,n,c,e1.symm.trans h3⟩⟩,fun k h=>h2.2 k (h1.2 k h)⟩
theorem LB.ian{w0 w w':World}{H:Nat→Prop}{s:Bool}{A:List Nat}{v:Value}(h:jI w0 H s A v w)(hb:LB w0 w w'):jI w0 H s A v w':=by
 obtain⟨h1,h2,x,e,r⟩:=h;have hs:=hb.1.size;refine⟨h1,om,x,e,(aO.bx (w':=w') r fun k hk=>?_).mono (fun q hq=>hq.imp id fun h=>⟨h.1,om⟩) fun _ _=>rfl⟩;by_cases hB:Ai w k
 ·exact .inr hB
 ·exact .inl (hb.1.block k (hk.elim (fun h=>by have:=h1 k h;omega) fun h=>h.2) fun h=>hB h.2)
theorem LB.own{w0 w w':World}{A:List Nat}{v:Value}(h:Own w0 A v w)(hb:LB w0 w w'):Own w0 A v w':=by
 obtain⟨m,hm,ho⟩:=h;refine⟨m,hm,bg ho fun k hk=>hb.1.block k (ho.lt k hk).2 fun e=>?_⟩;obtain⟨_,s,a,n,c,hg⟩:=e;rcases ho.2 with ⟨rfl,_⟩|⟨g,cap,cur,rfl,_,h2,_⟩
 ·cases hk
 ·cases hk;rw[hg]at h2;cases h2
theorem LB.owni{w0 w w':World}{s:Bool}{A:List Nat}{v:Value}(h:dA w0 s A v w)(hb:LB w0 w w'):dA w0 s A v w':=by
 obtain⟨u,e,h⟩:=h;exact⟨u,e,LB.own h hb⟩
theorem LB.st{w0 w:World}{q:Nat}{s:Bool}{a:Option Addr}{n c:Nat}(hq:Ai w q)(hl:w0.heap.size≤q):LB w0 w (w.setRow q #[.bool s,.slice a n c])∧gu (w.setRow q #[.bool s,.slice a n c]) q s (.slice a n c):=by
 have hq':=hq;obtain⟨s1,a1,n1,c1,hg⟩:=hq;have hst:=dO (x:= .bool s) (y:= .slice a n c) hg rfl;refine⟨⟨⟨rfl,rfl,rfl,sy,fun k hk hn=>setRow_other w q k _ fun e=>hn (e▸⟨hl,hq'⟩)⟩,fun k hk=>?_⟩,hst.2⟩;by_cases e:k=q
 ·exact⟨s,a,n,c,e▸hst.2⟩
 ·obtain⟨s2,a2,n2,c2,h2⟩:=hk;exact⟨s2,a2,n2,c2,(setRow_other w q k _ e).trans h2⟩
def PB(w0:World)(v:Value)(w:World):Prop:=∃q,v= .pointer (some ⟨q,0,none⟩)∧w0.heap.size≤q∧Ai w q
theorem PB.up{w0 w w':World}{v:Value}(h:PB w0 v w)(hb:LB w0 w w'):PB w0 v w':=by
 obtain⟨q,e,h1,h2⟩:=h;exact⟨q,e,h1,hb.2 q h2⟩
theorem PB.alloc{w0 w:World}(hs:w0.heap.size≤w.heap.size):PB w0 (.pointer (some ⟨w.heap.size,0,none⟩)) (w.alloc (.cells #[.bool false,.slice none 0 0] 25)):=⟨_,rfl,hs,_,_,_,_,heap_alloc_new _ _⟩
theorem LB.below{w w':World}(h:LB w w w'):Below w.heap.size w w':=⟨h.1.os,h.1.tape,h.1.output,h.1.size,fun k hk=>h.1.block k hk fun e=>om⟩
def xF(sg:Bool)(A:List Nat)(f:Int)(w0:World)(v:Value)(w:World):Prop:=∃x,v= .tuple #[x,.int .i64 f]∧dA w0 sg A x w
def za14Φ(w0:World)(H:Nat→Prop)(s sg:Bool)(xa:Option Addr)(xn xc:Nat)(A:List Nat)(f:Int):Nat→Value→World→Prop
 |0,v,_=>v= .agg #[.bool s,.slice xa xn xc]
 |1,v,w=>jI w0 H false (dg B 1) v w
 |2,v,w=>xF sg A f w0 v w
 |3,v,w=>xF sg A f w0 v w
 |4,v,w=>dA w0 sg A v w
 |5,v,_=>v= .int .i64 f
 |6,v,w=>PB w0 v w
 |7,_,_=>True
 |_,_,_=>False
def xw(sg:Bool)(l:Array Bool)(a:Act)(w:World):Prop:=l.getD 7 true=true→l.getD 4 true=true∧l.getD 6 true=true∧∃q u,a.tmps.getD 22 undef= .pointer (some ⟨q,0,none⟩)∧a.tmps.getD 120 undef= .agg #[.bool sg,u]∧gu w q sg u
theorem xw.keep{sg:Bool}{l:Array Bool}{a:Act}{w w':World}{i d:Nat}{v:Value}(h:xw sg l a w)(hi:i≠7)(hd:d≠22∧d≠120)(hb:Below w.heap.size w w'):xw sg (l.setIfInBounds i true) (a.put (some d) v) w':=fun h7=>by
 rw[iw,if_neg (fun e=>hi e.1)]at h7;obtain⟨h4,h6,q,u,e1,e2,e3⟩:=h h7;have up:∀k,l.getD k true=true→(l.setIfInBounds i true).getD k true=true:=fun k hk=>by rw[iw];split<;>first|rfl|exact hk
 exact⟨up 4 h4,up 6 h6,q,u,(ae hd.1).trans e1,(ae hd.2).trans e2,e3.up hb⟩
theorem xw.off{sg:Bool}{l:Array Bool}{a a':Act}{w w':World}{i:Nat}(h:xw sg l a w)(hi:l.getD i true=false)(h2:i=4∨i=6):xw sg (l.setIfInBounds i true) a' w':=fun h7=>by
 rw[iw,if_neg (fun e=>om)]at h7;obtain⟨h4,h6,_⟩:=h h7;rcases h2 with rfl|rfl
 ·rw[h4]at hi;cases hi
 ·rw[h6]at hi;cases hi
theorem za14{a:Act}{w:World}{R:Exit→Act→World→Prop}{s sg:Bool}{xa:Option Addr}{xn xc p8:Nat}{H:Nat→Prop}{A:List Nat}{f:Int}(hz:a.tmps.size=353)(h8:a.tmps.getD 8 undef= .pointer (some ⟨p8,0,none⟩))(jT:p8<w.heap.size)(hbx:gu w p8 s (.slice xa xn xc))
 (cO:∀w1,Below w.heap.size w w1→Calls Tryz.prog 12 #[.int .i64 1] w1 (fun e w2=>∃v,e= .returned v∧Below w1.heap.size w1 w2∧jI w H false (dg B 1) v w2)) (cE:∀w1 v,Below w.heap.size w w1→jI w H false (dg B 1) v w1→Calls Tryz.prog 16 #[.agg #[.bool s,.slice xa xn xc],v] w1 (oQ w1 sg A f))
 (kk:∀(a':Act) (w':World) (q:Nat) (u:Value),a'.tmps.size=353→(∀t,0<t→t<22→a'.tmps.getD t undef=a.tmps.getD t undef)→a'.tmps.getD 22 undef= .pointer (some ⟨q,0,none⟩)→a'.tmps.getD 23 undef= .int .i64 f→a'.defers=a.defers→Below w.heap.size w w'→w.heap.size≤q→gu w' q sg u→Own w A u w'→R .normal a' w'):(q1 (qd 5 (uh Tryz.f3))).wp Tryz.prog R a w:=by
 refine uf (xw sg) (LB w) (fun w=>LB.of ⟨rfl,rfl,rfl,Nat.le_refl _,fun _ _=>rfl⟩) (fun a b c h1 h2=>LB.tr h1 h2) (n:=8) (N:=353) (za14Φ w H s sg xa xn xc A f) (fun _ _=>none) dB (by kernel_rfl) hz (by kernel_rfl) (fun i v w1 w2 hi h hb=>?_) (fun i v w1 q hi h hq=>?_) (fun i o v v' w1 hi ho hd h=>?_) ?_ (fun i o a1 w1 l hi ho hls hl hcl hI hsz hB hold aG K hK=>?_) (fun a1 w1 l hall hI hsz hdf hB hold hval hsep=>?_)
 ·match i,hi with
  |0,_=>exact h
  |1,_=>exact LB.ian h hb
  |2,_=>obtain⟨x,e,h⟩:=h;exact⟨x,e,LB.owni h hb⟩
  |3,_=>obtain⟨x,e,h⟩:=h;exact⟨x,e,LB.owni h hb⟩
  |4,_=>exact LB.owni h hb
  |5,_=>exact h
  |6,_=>exact PB.up h hb
  |7,_=>trivial
 ·cases hq
 ·match i,hi,ho with
  |0,_,ho=>obtain rfl:=Option.some.inj ho;cases hd
  |1,_,ho=>obtain rfl:=Option.some.inj ho;cases hd
  |2,_,ho=>obtain rfl:=Option.some.inj ho;cases hd
  |3,_,ho=>obtain rfl:=Option.some.inj ho;cases hd
  |4,_,ho=>obtain rfl:=Option.some.inj ho;cases hd
  |5,_,ho=>obtain rfl:=Option.some.inj ho;cases hd
  |6,_,ho=>obtain rfl:=Option.some.inj ho;cases hd
  |7,_,ho=>exact⟨trivial,rfl⟩
 ·intro h7;simp at h7
 ·have hBb:=hB.below;have NK:∀(d:Nat) (v:Value) (w':World),d≠22∧d≠120→i≠7→Below w1.heap.size w1 w'→xw sg (l.setIfInBounds i true) (a1.put (some d) v) w':=fun d v w' hd h7 hb=>hI.keep h7 hd hb
  match i,hi,ho with
  |0,_,ho=>
   obtain rfl:=Option.some.inj ho;refine bP rfl ?_;have g8:=gI hsz ((hold 8 (aj (by kernel_rfl))).trans h8) dc;have hx:=hBb.block p8 jT|>.trans hbx
   have x0:=cell_of_row _ _ 0 _ _ _ hx;have x1:=cell_of_row _ _ 1 _ _ _ hx;have hk:=PLift.up hK;have hn:=PLift.up NK;clear hK hold aG NK cO cE;go_simp;exact hk.down _ _ rfl (LB.of (aJ _)) (fun q h=>by cases h) (hn.down _ _ _ dc dc (aJ _))
  |1,_,ho=>
   obtain rfl:=Option.some.inj ho;refine bP rfl ?_;have hc:=cO w1 hBb;have hk:=PLift.up hK;have hn:=PLift.up NK;clear hK hold aG NK cO cE;go_simp;refine hc.mono ?_;rintro e w2 ⟨v,rfl,b,hv⟩;exact hk.down _ _ hv (LB.of b) (fun q h=>by cases h) (hn.down _ _ _ dc dc b)
  |2,_,ho=>
   obtain rfl:=Option.some.inj ho;refine bP rfl ?_;have e0:a1.tmps.getD 117 undef= .agg #[.bool s,.slice xa xn xc]:=aG ⟨0,.data⟩ sy rfl;have g117:=gI hsz e0 dc;have e1:jI w H false (dg B 1) (a1.tmps.getD 118 undef) w1:=aG ⟨1,.data⟩ sy rfl;obtain⟨oa,on,oc,eo⟩:=jI.shape e1;have g118:=gI hsz eo dc;rw[eo]at e1;have hc:=cE w1 _ hBb e1;have hk:=PLift.up hK;have hn:=PLift.up NK;have hs:=hBb.size;clear hK hold aG NK cO cE;go_simp;refine hc.mono ?_;rintro e w2 ⟨v,rfl,b,hv⟩;exact hk.down _ _ ⟨v,rfl,hv.base hs⟩ (LB.of b) (fun q h=>by cases h) (hn.down _ _ _ dc dc b)
  |3,_,ho=>
   obtain rfl:=Option.some.inj ho;refine bP rfl ?_;obtain⟨x,ex,hx⟩:xF sg A f w (a1.tmps.getD 119 undef) w1:=aG ⟨2,.data⟩ sy rfl;have g119:=gI hsz ex dc;have hk:=PLift.up hK;have hn:=PLift.up NK;clear hK hold aG NK cO cE;go_simp;exact hk.down _ _ ⟨x,rfl,hx⟩ (LB.of (aJ _)) (fun q h=>by cases h) (hn.down _ _ _ dc dc (aJ _))
  |4,_,ho=>
   obtain rfl:=Option.some.inj ho;refine bP rfl ?_;obtain⟨x,ex,hx⟩:xF sg A f w (a1.tmps.getD 116 undef) w1:=aG ⟨3,.data⟩ sy rfl;have g116:=gI hsz ex dc;have hk:=PLift.up hK;have hn:=PLift.up hI;clear hK hold aG NK cO cE hI;go_simp;exact hk.down _ _ hx (LB.of (aJ _)) (fun q h=>by cases h) (hn.down.off hl (.inl rfl))
  |5,_,ho=>
   obtain rfl:=Option.some.inj ho;refine bP rfl ?_;obtain⟨x,ex,hx⟩:xF sg A f w (a1.tmps.getD 116 undef) w1:=aG ⟨3,.data⟩ sy rfl;have g116:=gI hsz ex dc;have hk:=PLift.up hK;have hn:=PLift.up NK;clear hK hold aG NK cO cE;go_simp;exact hk.down _ _ rfl (LB.of (aJ _)) (fun q h=>by cases h) (hn.down _ _ _ dc dc (aJ _))
  |6,_,ho=>
   obtain rfl:=Option.some.inj ho;refine bP rfl ?_;have hk:=PLift.up hK;have hn:=PLift.up hI;have hs:=hBb.size;clear hK hold aG NK cO cE hI;go_simp;exact hk.down _ _ (PB.alloc hs) (LB.of (aQ _ _)) (fun q h=>by cases h) (hn.down.off hl (.inr rfl))
  |7,_,ho=>
   obtain rfl:=Option.some.inj ho;refine bP rfl ?_;obtain⟨q,eq,hq1,hq2⟩:PB w (a1.tmps.getD 22 undef) w1:=aG ⟨6,.data⟩ sy rfl;obtain⟨u,eu,hu⟩:dA w sg A (a1.tmps.getD 120 undef) w1:=aG ⟨4,.data⟩ sy rfl;obtain⟨ua,uc,rfl⟩:=hu.shape;obtain⟨s1,b1,n1,c1,hg⟩:=hq2;have hst:=LB.st (w0:=w) (s:=sg) (a:=ua) (n:=A.length) (c:=uc) ⟨s1,b1,n1,c1,hg⟩ hq1;have up:∀{k:Nat},l.getD k true=true→(l.setIfInBounds 7 true).getD k true=true:=fun hk=>by rw[iw];split<;>first|rfl|exact hk
   refine wp_store_row 25 (.tmp 22) (.tmp 120) rfl q #[.bool sg,.slice ua A.length uc] eq eu 25 _ hg (by kernel_rfl) rfl (aN _ _ _ _) ?_;exact hK undef _ trivial hst.1 (fun q h=>by cases h) fun _=>⟨up (hcl ⟨4,.data⟩ sy rfl),up (hcl ⟨6,.data⟩ sy rfl),q,_,eq,eu,hst.2⟩
 ·obtain⟨_,_,q,u,eq,eu,hbq⟩:=hI (hall 7 dc);have e4:dA w sg A (a1.tmps.getD 120 undef) w1:=hval 4 dc;have e5:a1.tmps.getD 121 undef= .int .i64 f:=hval 5 dc;obtain⟨q',eq',lq,_⟩:PB w (a1.tmps.getD 22 undef) w1:=hval 6 dc;rw[eq]at eq';cases eq';obtain⟨u',eu',hu⟩:=e4;rw[eu]at eu';cases eu';have g121:=gI hsz e5 dc;have old:∀t,t<22→0<t→a1.tmps.getD t undef=a.tmps.getD t undef:=fun t ht h0=>hold t (aj (by revert t;decide))
  have iU:=PLift.up kk;clear kk hold hval hsep hI hall cO cE;simp only[List.drop_succ_cons,List.drop_zero];go_wp2;refine iU.down _ w1 q u (by simp[hsz]) (fun t h0 ht=>?_) ?_ ?_ (by first|exact hdf|rfl) hB.below lq hbq hu
  ·exact(ae om).trans (old t ht h0)
  ·exact(ae dc).trans eq
  ·exact aC (by simp[hsz])
section
theorem ug1{N:Nat}{a a':Act}{f:Nat→Value}{v1:Value}(hf:∀t,0<t→t<N→a.tmps.getD t undef=f t)(hs:∀t,0<t→t<N→a'.tmps.getD t undef=a.tmps.getD t undef)(h1:a'.tmps.getD N undef=v1):∀t,0<t→t<N+1→a'.tmps.getD t undef=up f N v1 t:=fun t h0 ht=>by
 by_cases e:t=N
 ·rw[e,XI];exact h1
 ·rw[iC e,hs t h0 om,hf t h0 om]
theorem ug2{N:Nat}{a a':Act}{f:Nat→Value}{v1 v2:Value}(hf:∀t,0<t→t<N→a.tmps.getD t undef=f t)(hs:∀t,0<t→t<N→a'.tmps.getD t undef=a.tmps.getD t undef)(h1:a'.tmps.getD N undef=v1)(h2:a'.tmps.getD (N+1) undef=v2):∀t,0<t→t<N+2→a'.tmps.getD t undef=up (up f N v1) (N+1) v2 t:=
 ug1 (a:=a') (ug1 hf hs h1) (fun _ _ _=>rfl) h2
theorem ug3{N:Nat}{a a':Act}{f:Nat→Value}{v1 v2 v3:Value}(hf:∀t,0<t→t<N→a.tmps.getD t undef=f t)(hs:∀t,0<t→t<N→a'.tmps.getD t undef=a.tmps.getD t undef)(h1:a'.tmps.getD N undef=v1)(h2:a'.tmps.getD (N+1) undef=v2)(h3:a'.tmps.getD (N+2) undef=v3):∀t,0<t→t<N+3→a'.tmps.getD t undef=up (up (up f N v1) (N+1) v2) (N+2) v3 t:=
 ug1 (a:=a') (ug2 hf hs h1 h2) (fun _ _ _=>rfl) h3
def z7(X Y:Int):List Int:=[X+Y,X-Y,X*Y,-X,X,X,X]
def fC(n:Nat)(s t:Bool)(A1 A2:List Nat)(V:Nat→Value):List (Value×List Nat):=
 [(V 0,dg B (zv s A1+zv t A2).natAbs),(V 1,dg B (zv s A1-zv t A2).natAbs),(V 2,dg B (zv s A1*zv t A2).natAbs),(V 3,dg B (-zv s A1).natAbs),(V 4,dg B (zv s A1).natAbs),(V 5,dg B (zv s A1).natAbs),(V 6,dg B (zv s A1).natAbs)]++([(V 14,dg B ((zv s A1).ediv (zv t A2)).natAbs),(V 15,dg B (FC (zv s A1) (zv t A2)))]++([(V 17,dg B (zq (zv s A1) (zv t A2)).natAbs),(V 18,dg B (zr (zv s A1) (zv t A2)).natAbs)]++([(V 20,dg B ((zv s A1).fdiv (zv t A2)).natAbs)]++([(V 22,dg B (zv s A1).natAbs)]++([(V 24,dg B (zv s A1*2^n).natAbs)]++([(V 26,dg B ((zv s A1).fdiv (2^n)).natAbs)]++([(V 28,dg B (zv s A1).natAbs)]++[(V 30,dg B (nv B A1)),(V 31,dg B (zv true A1).natAbs),(V 32,dg B (gf [(s,A1),(t,A2)])),(V 33,dg B (gf [(s,A1)]))])))))))
def SB(w w':World)(v:Value)(z:Int)(u:Value):Prop:=∃q,v= .pointer (some ⟨q,0,none⟩)∧w.heap.size≤q∧gu w' q (decide (z<0)) u
theorem SB.up{w w1 w2:World}{v:Value}{z:Int}{u:Value}(h:SB w w1 v z u)(hb:Below w1.heap.size w1 w2):SB w w2 v z u:=by
 obtain⟨q,e,h1,h2⟩:=h;exact⟨q,e,h1,h2.up hb⟩
theorem SB.base{w0 w w':World}{v:Value}{z:Int}{u:Value}(h:SB w w' v z u)(hs:w0.heap.size≤w.heap.size):SB w0 w' v z u:=by
 obtain⟨q,e,h1,h2⟩:=h;exact⟨q,e,om,h2⟩
def SL7(w w':World)(v:Value)(X Y:Int)(V:Nat→Value):Prop:=∃g,v= .slice (some ⟨g,0,none⟩) 7 7∧w.heap.size≤g∧w'.heap[g]? =some (.cells #[.bool (decide (X+Y<0)),V 0,.bool (decide (X-Y<0)),V 1,.bool (decide (X*Y<0)),V 2,.bool (decide (-X<0)),V 3,.bool (decide (X<0)),V 4,.bool (decide (X<0)),V 5,.bool (decide (X<0)),V 6] 25 (0,0))
structure AnsZ(w w':World)(n:Nat)(H:Nat→Prop)(s t:Bool)(A1 A2:List Nat)(f us V:Nat→Value):Prop where
 old:∀t,0<t→t<11→us t=f t
 was:∃u,SB w w' (us 11) (zv s A1) u∧jI w H (decide (zv s A1<0)) (dg B (zv s A1).natAbs) (.agg #[.bool (decide (zv s A1<0)),u]) w'
 Dj:∃u,SB w w' (us 12) (zv t A2) u∧jI w H (decide (zv t A2<0)) (dg B (zv t A2).natAbs) (.agg #[.bool (decide (zv t A2<0)),u]) w'
 l13:SL7 w w' (us 13) (zv s A1) (zv t A2) V
 s14:SB w w' (us 14) ((zv s A1).ediv (zv t A2)) (V 14)
 s15:us 15=V 15
 s16:us 16= .int .i64 (ze (zv t A2))
 s17:SB w w' (us 17) (zq (zv s A1) (zv t A2)) (V 17)
 s18:SB w w' (us 18) (zr (zv s A1) (zv t A2)) (V 18)
 s19:us 19= .int .i64 (ze (zv t A2))
 s20:SB w w' (us 20) ((zv s A1).fdiv (zv t A2)) (V 20)
 s22:SB w w' (us 22) (zv s A1) (V 22)
 s24:SB w w' (us 24) (zv s A1*2^n) (V 24)
 s26:SB w w' (us 26) ((zv s A1).fdiv (2^n)) (V 26)
 s28:SB w w' (us 28) (zv s A1) (V 28)
 s30:us 30=V 30
 s31:SB w w' (us 31) (zv true A1) (V 31)
 s32:us 32=V 32
 s33:us 33=V 33
 cl:Cl w w' (fC n s t A1 A2 V)
theorem Cl.o1{w w1:World}{u:Value}{A:List Nat}(h:Own w A u w1):Cl w w1 [(u,A)]:=⟨fun p hp=>by rw[List.mem_singleton.1 hp];exact h,uU u⟩
theorem Cl.o2{w w1:World}{u v:Value}{A A':List Nat}(h:Own w A u w1)(h2:Own w A' v w1)(hx:∀q,u.ownBlock=some q→v.ownBlock≠some q):Cl w w1 [(u,A),(v,A')]:=⟨fun p hp=>by
 simp only[List.mem_cons,List.not_mem_nil,or_false]at hp;rcases hp with rfl|rfl
 ·exact h
 ·exact h2,x_ (L:=[u]) (M:=[v]) (uU _) (uU _) fun a b q ha hb=>by rw[List.mem_singleton.1 ha,List.mem_singleton.1 hb];exact hx q⟩
section
variable {w:World} {vx:Value} {s:Bool} {a:List Nat} {Ha:Nat→Prop} (bH:∀q,Ha q→q<w.heap.size) (hx:IA w Ha vx s a) (ha:Wd a) (la:a.length≤100000000)
include bH hx ha la
theorem MH{k:Nat}(hk:k≤127):Calls Tryz.prog 17 #[vx,.int .i64 (k:Int)] w (oQ w (decide (zv s a*2^k<0)) (dg B (zv s a*2^k).natAbs) 0):=by
 have h:=Sz bH hx ha la (n:=(k:Int)) om om (by rw[Df om]);rw[Df om]at h;have:=h.mono fun e w' h=>JK h
 rw[JG]at this;exact this
end
theorem SS{w:World}{vx vy:Value}{s:Bool}{a:List Nat}{Ha:Nat→Prop}(bH:∀q,Ha q→q<w.heap.size)(hx:IA w Ha vx s a)(hy:IA w Ha vy false (dg B 1))(ha:Wd a)(la:a.length≤100000000):Calls Tryz.prog 16 #[vx,vy] w (oQ w (decide (zv s a<0)) (dg B (zv s a).natAbs) 0):=by
 have h:=Ip bH hx ha la hy (bF _) dc;rw[dE,show VA (nv B a) 1=0 from by unfold VA;rw[if_neg dc,if_pos (Nat.mod_one _)],show Tz (nv B a) 1=dg B (nv B a)from by unfold Tz;rw[if_neg dc,if_pos (Nat.mod_one _),Nat.div_one],show(!(s==false))=s from by cases s<;>rfl]at h;exact h.mono fun e w' h=>JK h
theorem SV{a:Act}{w:World}{R:Exit→Act→World→Prop}{n p1 n1 c1 p2 n2 c2 p8 p9:Nat}{s t:Bool}{A1 A2 Z1 Z2:List Nat}{f:Nat→Value}(hz:a.tmps.size=353)(hf:∀t,0<t→t<11→a.tmps.getD t undef=f t)(h2:f 2= .int .i64 (n:Int))(h8:f 8= .pointer (some ⟨p8,0,none⟩))(h9:f 9= .pointer (some ⟨p9,0,none⟩))(hT:Tb w)(TB:gu w p8 s (.slice (some ⟨p1,0,none⟩) n1 c1))(WI:gu w p9 t (.slice (some ⟨p2,0,none⟩) n2 c2))
 (r1:w.ownsRow 0 54 1 (.slice (some ⟨p1,0,none⟩) (n1+5) c1) (n1+5) (Wv (A1++Z1))) (r2:w.ownsRow 0 54 1 (.slice (some ⟨p2,0,none⟩) (n2+5) c2) (n2+5) (Wv (A2++Z2))) (l1:A1.length=n1) (l2:A2.length=n2) (xq:Wd A1) (wd2:Wd A2) (b1:n1≤10000000) (b2:n2≤10000000) (hn:n≤127)
 (kk:∀(a':Act) (w':World) (us V:Nat→Value),a'.tmps.size=353→a'.defers=a.defers→(∀t,0<t→t<34→a'.tmps.getD t undef=us t)→Below w.heap.size w w'→AnsZ w w' n (fun q=>q=p1∨q=p2) s t A1 A2 f us V→(qd 10 (uh Tryz.f3)).wp Tryz.prog R a' w'):(uh Tryz.f3).wp Tryz.prog R a w:=by
 have iU:=PLift.up kk
 clear kk
 have lt1:p1<w.heap.size:=(r1.lt p1 rfl).2
 have lt2:p2<w.heap.size:=(r2.lt p2 rfl).2
 obtain⟨H,hH⟩:∃H:Nat→Prop,H=fun q=>q=p1∨q=p2:=⟨_,rfl⟩
 have rx:∀w',Below w.heap.size w w'→IA w' H (.agg #[.bool s,.slice (some ⟨p1,0,none⟩) n1 c1]) s A1:=fun w' hb=>⟨_,rfl,Ry (bg r1 fun q hq=>by cases hq;exact hb.block _ lt1) l1 om (by rw[hH];exact .inl rfl)⟩
 have ry:∀w',Below w.heap.size w w'→IA w' H (.agg #[.bool t,.slice (some ⟨p2,0,none⟩) n2 c2]) t A2:=fun w' hb=>⟨_,rfl,Ry (bg r2 fun q hq=>by cases hq;exact hb.block _ lt2) l2 om (by rw[hH];exact .inr rfl)⟩
 have hH0:∀q,H q→q<w.heap.size:=fun q hq=>by
  rw[hH]at hq;rcases hq with rfl|rfl<;>omega
 have u_:∀w',Below w.heap.size w w'→∀q,H q→q<w'.heap.size:=fun w' hb q hq=>Nat.lt_of_lt_of_le (hH0 q hq) hb.size
 obtain⟨xa,hxa⟩:∃xa,xa=some (⟨p1,0,none⟩:Addr):=⟨_,rfl⟩
 obtain⟨ya,hya⟩:∃ya,ya=some (⟨p2,0,none⟩:Addr):=⟨_,rfl⟩
 rw[←hxa]at rx TB
 rw[←hya]at ry WI
 rw[←hH]at iU
 clear hxa hya hH r1 r2
 have CZ:A1.length≤100000000:=om
 have WJ:A2.length≤100000000:=om
 obtain⟨X,hX⟩:∃X,X=zv s A1:=⟨_,rfl⟩
 obtain⟨Y,hY⟩:∃Y,Y=zv t A2:=⟨_,rfl⟩
 have L8:=aS TB
 have L9:=aS WI
 have H1:∀w',Below w.heap.size w w'→zv false (dg B 1)=1:=fun _ _=>kW 1
 have rd:∀{a':Act} {g:Nat→Value} {N:Nat},(∀t,0<t→t<N→a'.tmps.getD t undef=g t)→11≤N→g 2=f 2→g 8=f 8→g 9=f 9→a'.tmps.getD 2 undef= .int .i64 (n:Int)∧a'.tmps.getD 8 undef= .pointer (some ⟨p8,0,none⟩)∧a'.tmps.getD 9 undef= .pointer (some ⟨p9,0,none⟩):=fun {a' g N} hg hN e2 e8 e9=>
  ⟨(hg 2 dc om).trans (e2.trans h2),(hg 8 dc om).trans (e8.trans h8),(hg 9 dc om).trans (e9.trans h9)⟩
 have Dk:∀w',Below w.heap.size w w'→w'.cell? ⟨p8,0,none⟩=some (.bool s)∧w'.cell? ⟨p8,1,none⟩=some (.slice xa n1 c1):=fun w' hb=>⟨cell_of_row _ _ 0 _ _ _ (TB.up hb),cell_of_row _ _ 1 _ _ _ (TB.up hb)⟩
 have MI:∀w',Below w.heap.size w w'→w'.cell? ⟨p9,0,none⟩=some (.bool t)∧w'.cell? ⟨p9,1,none⟩=some (.slice ya n2 c2):=fun w' hb=>⟨cell_of_row _ _ 0 _ _ _ (WI.up hb),cell_of_row _ _ 1 _ _ _ (WI.up hb)⟩
 have gx:∀w',Below w.heap.size w w'→∀w0,w0.heap.size≤w'.heap.size→(∀q,H q→q<w0.heap.size)→jI w0 H s A1 (.agg #[.bool s,.slice xa n1 c1]) w':=fun w' hb w0 hs hw=>(rx w' hb).ian hw hs
 have B0:=aJ w
 refine wp_seq ?_
 obtain⟨i2,i8,i9⟩:=rd hf (Nat.le_refl _) rfl rfl rfl
 refine za9 (H:=H) (A1:=dg B X.natAbs) (A2:=dg B Y.natAbs) (s1:=decide (X<0)) (s2:=decide (Y<0)) hz i8 i9 L8 L9 (Dk w B0).1 (Dk w B0).2 (MI w B0).1 (MI w B0).2 (fun w1 hb=>by
  have:=uk (w0:=w) (w:=w1) (H:=H) (vs:=[.agg #[.bool s,.slice xa n1 c1]]) (g_ s A1 xq om) hH0 hb.size (z_ (((rx w1 hb).ian hH0 hb.size).2.2.rep));rwa[←hX]at this) (fun w1 hb=>by
  have:=uk (w0:=w) (w:=w1) (H:=H) (vs:=[.agg #[.bool t,.slice ya n2 c2]]) (g_ t A2 wd2 om) hH0 hb.size (z_ (((ry w1 hb).ian hH0 hb.size).2.2.rep));rwa[←hY]at this) fun a1 w1 q11 q12 u11 u12 z1 s1 k11 k12 d1 B1 lq11 lq12 hb11 hb12 hi11 hi12=>?_
 have f1:=ug2 hf (fun t _ ht=>s1 t ht) k11 k12
 have W1:=B1
 have one:∀w0 w',Below w.heap.size w w0→Below w0.heap.size w0 w'→Calls Tryz.prog 12 #[.int .i64 1] w' (fun e w2=>∃v,e= .returned v∧Below w'.heap.size w' w2∧jI w0 H false (dg B 1) v w2):=fun w0 w' hb hs=>
  uk (w0:=w0) (w:=w') (vs:=[.int .i64 1]) (jH 1 dc dc) (u_ w0 hb) hs.size (z_ (.i _ _))
 have nil0:∀w',IA w' H (.agg #[.bool false,.slice none 0 0]) false []:=fun w'=>⟨_,rfl,.l none 0 0 1 _ (fun _=>undef) 0 0 Nat.one_pos rfl (Nat.zero_le _) (Nat.le_refl _) (.inl rfl) (fun j hj=>absurd hj (Nat.not_lt_zero _)) (fun j x hx=>by cases hx)⟩
 refine wp_seq ?_
 obtain⟨i2,i8,i9⟩:=rd f1 dc rfl rfl rfl
 refine za10 (H:=H) (z0:=X+Y) (z1:=X-Y) (z2:=X*Y) (z3:= -X) (z4:=X) (z5:=X) (z6:=X) z1 i8 i9 (Nat.lt_of_lt_of_le L8 W1.size) (Nat.lt_of_lt_of_le L9 W1.size) (Dk w1 W1).1 (Dk w1 W1).2 (MI w1 W1).1 (MI w1 W1).2
  (fun w2 hb=>by
    have hb':=ah W1 hb;have:=rF (u_ w2 hb') (rx w2 hb') xq CZ (ry w2 hb') wd2 WJ;rwa[←hX,←hY]at this)
  (fun w2 hb=>by
    have hb':=ah W1 hb;have:=zY (u_ w2 hb') (rx w2 hb') xq CZ (ry w2 hb') wd2 WJ;rwa[←hX,←hY]at this)
  (fun w2 hb=>by
    have hb':=ah W1 hb;have:=Fb (u_ w2 hb') (rx w2 hb') xq CZ (ry w2 hb') wd2 WJ;rwa[←hX,←hY]at this)
  (fun w2 hb=>by
    have hb':=ah W1 hb;have:=Fa (u_ w2 hb') (rx w2 hb') xq CZ;rwa[←hX]at this)
  (fun w2 hb=>by
    have hb':=ah W1 hb;have:=BF (u_ w2 hb') (rx w2 hb') xq CZ;rwa[←hX]at this)
  (fun w2 hb=>by
    have hb':=ah W1 hb;have:=rF (u_ w2 hb') (rx w2 hb') xq CZ (nil0 w2) Ce (Nat.zero_le _);rwa[←hX,show zv false []=0 from rfl,Int.add_zero]at this)
  (fun w2 hb=>one w1 w2 W1 hb)
  (fun w2 v hb hv=>by
    have hb':=ah W1 hb;have hl:∀q,(H q∨(w1.heap.size≤q∧q<w2.heap.size))→q<w2.heap.size:=fun q hq=>hq.elim (u_ w2 hb' q) fun h=>h.2
    have:=Fb hl ((gx w2 hb' w1 hb.size (u_ w1 W1)).2.2) xq CZ hv.2.2 (bF _) dc;rwa[←hX,show zv false (dg B 1)=1 from kW 1,Int.mul_one]at this)
  fun a2 w2 g v0 v1 v2 v3 v4 v5 v6 z2 s2 k13 d2 B2 lg hg o0 o1 o2 o3 o4 o5 o6 ap=>?_
 have f2:=ug1 f1 (fun t _ ht=>s2 t ht) k13
 have W2:=ah W1 B2
 refine wp_seq ?_
 obtain⟨i2,i8,i9⟩:=rd f2 dc rfl rfl rfl
 have hc:=Sr (u_ w2 W2) (rx w2 W2) xq CZ (ry w2 W2) wd2 WJ
 rw[←hX,←hY]at hc
 refine za11 z2 i8 i9 (Dk w2 W2).1 (Dk w2 W2).2 (MI w2 W2).1 (MI w2 W2).2 hc fun a3 x3 q14 q15 z3 s3 k14 k15 k16 d3 B3 p14 p15 x14=>?_
 have S3:=B3.size
 obtain⟨E3,_,hq3⟩:=l7 x3 (decide (X.ediv Y<0)) q14
 obtain⟨w3,ew3⟩:∃w,w=Du x3 (decide (X.ediv Y<0)) q14:=⟨_,rfl⟩
 rw[←ew3]at E3 hq3 ⊢
 replace B3:=ah B3 E3
 have f3:=ug3 f2 (fun t _ ht=>s3 t ht) k14 k15 k16
 have W3:=ah W2 B3
 refine wp_seq ?_
 obtain⟨i2,i8,i9⟩:=rd f3 dc rfl rfl rfl
 have hc:=wP (u_ w3 W3) (rx w3 W3) xq CZ (ry w3 W3) wd2 WJ
 rw[←hX,←hY]at hc
 refine za12 z3 i8 i9 (Dk w3 W3).1 (Dk w3 W3).2 (MI w3 W3).1 (MI w3 W3).2 hc fun a4 x4 q17 q18 z4 s4 k17 k18 k19 d4 B4 p17 p18 x17=>?_
 have S4:=B4.size
 obtain⟨E4,_,hq4,hq4b⟩:=wQ x4 (decide (zq X Y<0)) q17 (decide (zr X Y<0)) q18
 obtain⟨w4,ew4⟩:∃w,w=MP x4 (decide (zq X Y<0)) q17 (decide (zr X Y<0)) q18:=⟨_,rfl⟩
 rw[←ew4]at E4 hq4 hq4b ⊢
 replace B4:=ah B4 E4
 have f4:=ug3 f3 (fun t _ ht=>s4 t ht) k17 k18 k19
 have W4:=ah W3 B4
 refine wp_seq ?_
 obtain⟨i2,i8,i9⟩:=rd f4 dc rfl rfl rfl
 have hc:=zZ (u_ w4 W4) (rx w4 W4) xq CZ (ry w4 W4) wd2 WJ
 rw[←hX,←hY]at hc
 refine za13 z4 i8 i9 (Dk w4 W4).1 (Dk w4 W4).2 (MI w4 W4).1 (MI w4 W4).2 hc fun a5 x5 q20 z5 s5 k20 k21 d5 B5 p20=>?_
 have S5:=B5.size
 obtain⟨E5,_,hq5⟩:=l7 x5 (decide (X.fdiv Y<0)) q20
 obtain⟨w5,ew5⟩:∃w,w=Du x5 (decide (X.fdiv Y<0)) q20:=⟨_,rfl⟩
 rw[←ew5]at E5 hq5 ⊢
 replace B5:=ah B5 E5
 have f5:=ug2 f4 (fun t _ ht=>s5 t ht) k20 k21
 have W5:=ah W4 B5
 refine wp_seq ?_
 obtain⟨i2,i8,i9⟩:=rd f5 dc rfl rfl rfl
 refine za14 (H:=H) (sg:=decide (X<0)) (A:=dg B X.natAbs) (f:=0) z5 i8 (Nat.lt_of_lt_of_le L8 W5.size) (TB.up W5) (fun w6 hb=>one w5 w6 W5 hb) (fun w6 v hb hv=>by
  have hb':=ah W5 hb;have hl:∀q,(H q∨(w5.heap.size≤q∧q<w6.heap.size))→q<w6.heap.size:=fun q hq=>hq.elim (u_ w6 hb' q) fun h=>h.2
  have:=SS hl ((gx w6 hb' w5 hb.size (u_ w5 W5)).2.2) hv.2.2 xq CZ;rwa[←hX]at this) fun a6 w6 p22 q22 z6 s6 k22 k23 d6 B6 lq6 hq6 p22'=>?_
 have f6:=ug2 f5 s6 k22 k23
 have W6:=ah W5 B6
 refine wp_seq ?_
 obtain⟨i2,i8,i9⟩:=rd f6 dc rfl rfl rfl
 have hc:=MH (u_ w6 W6) (rx w6 W6) xq CZ hn
 rw[←hX]at hc
 refine za15 z6 i8 i2 (Dk w6 W6).1 (Dk w6 W6).2 hc fun a7 x7 q24 z7 s7 k24 k25 d7 B7 p24=>?_
 have S7:=B7.size
 obtain⟨E7,_,hq7⟩:=l7 x7 (decide (X*2^n<0)) q24
 obtain⟨w7,ew7⟩:∃w,w=Du x7 (decide (X*2^n<0)) q24:=⟨_,rfl⟩
 rw[←ew7]at E7 hq7 ⊢
 replace B7:=ah B7 E7
 have f7:=ug2 f6 (fun t _ ht=>s7 t ht) k24 k25
 have W7:=ah W6 B7
 refine wp_seq ?_
 obtain⟨i2,i8,i9⟩:=rd f7 dc rfl rfl rfl
 have hc:=SG (hT.up W7) (u_ w7 W7) (rx w7 W7) xq CZ hn
 rw[←hX]at hc
 refine za16 z7 i8 i2 (Dk w7 W7).1 (Dk w7 W7).2 hc fun a8 x8 q26 z8 s8 k26 k27 d8 B8 p26=>?_
 have S8:=B8.size
 obtain⟨E8,_,hq8⟩:=l7 x8 (decide (X.fdiv (2^n)<0)) q26
 obtain⟨w8,ew8⟩:∃w,w=Du x8 (decide (X.fdiv (2^n)<0)) q26:=⟨_,rfl⟩
 rw[←ew8]at E8 hq8 ⊢
 replace B8:=ah B8 E8
 have f8:=ug2 f7 (fun t _ ht=>s8 t ht) k26 k27
 have W8:=ah W7 B8
 refine wp_seq ?_
 obtain⟨i2,i8,i9⟩:=rd f8 dc rfl rfl rfl
 have hc:=MG (u_ w8 W8) (rx w8 W8) xq CZ
 rw[←hX]at hc
 refine za17 z8 i8 (Dk w8 W8).1 (Dk w8 W8).2 hc fun a9 x9 q28 z9 s9 k28 k29 d9 B9 p28=>?_
 have S9:=B9.size
 obtain⟨E9,_,hq9⟩:=l7 x9 (decide (X<0)) q28
 obtain⟨w9,ew9⟩:∃w,w=Du x9 (decide (X<0)) q28:=⟨_,rfl⟩
 rw[←ew9]at E9 hq9 ⊢
 replace B9:=ah B9 E9
 have f9:=ug2 f8 (fun t _ ht=>s9 t ht) k28 k29
 have W9:=ah W8 B9
 refine wp_seq ?_
 obtain⟨i2,i8,i9⟩:=rd f9 dc rfl rfl rfl
 have L89:=Nat.lt_of_lt_of_le L8 W9.size
 have L99:=Nat.lt_of_lt_of_le L9 W9.size
 refine za18 (A1:=dg B (nv B A1)) (A2:=dg B (gf [(s,A1),(t,A2)])) (A3:=dg B (gf [(s,A1)])) (z:=zv true A1) z9 i8 i9 L89 L99 (Dk w9 W9).1 (Dk w9 W9).2 (MI w9 W9).1 (MI w9 W9).2
  (fun w1 hb=>Si (u_ w1 (ah W9 hb)) xq CZ (rx w1 (ah W9 hb))) (fun w1 hb=>by
    obtain⟨x,ex,r⟩:=rx w1 (ah W9 hb);cases ex;exact R_ (u_ w1 (ah W9 hb)) xq CZ (s:=true) r)
  (fun w1 g hb lg hg=>by
    have hb':=ah W9 hb;obtain⟨x,ex,r⟩:=rx w1 hb';obtain⟨y,ey,r'⟩:=ry w1 hb';cases ex;cases ey;refine Fe (l:=[(s,A1),(t,A2)]) (u_ w1 hb') (aS hg) (fun i u b hi=>?_) (m:=100000000) dc (by show 2≤1000;decide) (fun p hp=>?_)
    ·match i,hi with
     |0,hi=>cases hi;exact⟨_,cell_of_row _ _ 0 _ _ _ hg,cell_of_row _ _ 1 _ _ _ hg,r⟩
     |1,hi=>cases hi;exact⟨_,cell_of_row _ _ 2 _ _ _ hg,cell_of_row _ _ 3 _ _ _ hg,r'⟩
    ·simp only[List.mem_cons,List.not_mem_nil,or_false]at hp;rcases hp with rfl|rfl
     ·exact⟨xq,CZ⟩
     ·exact⟨wd2,WJ⟩)
  (fun w1 g hb lg hg=>by
    have hb':=ah W9 hb;obtain⟨x,ex,r⟩:=rx w1 hb';cases ex;refine Fe (l:=[(s,A1)]) (u_ w1 hb') (aS hg) (fun i u b hi=>?_) (m:=100000000) dc (by show 1≤1000;decide) (fun p hp=>?_)
    ·match i,hi with
     |0,hi=>cases hi;exact⟨_,cell_of_row _ _ 0 _ _ _ hg,cell_of_row _ _ 1 _ _ _ hg,r⟩
    ·rw[List.mem_singleton.1 hp];exact⟨xq,CZ⟩)
  fun a10 w10 p31 q30 q31 q32 q33 z10 s10 k30 k31 k32 k33 d10 B10 lq10 hq10 p30 p31' p32 p33 ap10=>?_
 have f10:=ug1 (a:=a10) (ug3 f9 (fun t _ ht=>s10 t ht) k30 k31 k32) (fun _ _ _=>rfl) k33
 have W10:=ah W9 B10
 have T9:=B10
 have T8:=ah B9 T9
 have T7:=ah B8 T8
 have T6:=ah B7 T7
 have T5:=ah B6 T6
 have T4:=ah B5 T5
 have T3:=ah B4 T4
 have T2:=ah B3 T3
 have T1:=ah B2 T2
 have C1:Cl w w1 []:=⟨fun p hp=>by simp at hp,fun i j vi vj q _ h=>by simp at h⟩
 have C2:=C1.step B1.size B2 (M:=[(v0,dg B (X+Y).natAbs),(v1,dg B (X-Y).natAbs),(v2,dg B (X*Y).natAbs),(v3,dg B (-X).natAbs),(v4,dg B X.natAbs),(v5,dg B X.natAbs),(v6,dg B X.natAbs)]) ⟨fun p hp=>by
  simp only[List.mem_cons,List.not_mem_nil,or_false]at hp;rcases hp with rfl|rfl|rfl|rfl|rfl|rfl|rfl
  ·exact o0
  ·exact o1
  ·exact o2
  ·exact o3
  ·exact o4
  ·exact o5
  ·exact o6,ap⟩
 have C3:=C2.step W2.size B3 (Cl.below (Cl.o2 p14 p15 x14) E3)
 have C4:=C3.step W3.size B4 (Cl.below (Cl.o2 p17 p18 x17) E4)
 have C5:=C4.step W4.size B5 (Cl.below (Cl.o1 p20) E5)
 have C6:=C5.step W5.size B6 (Cl.o1 p22')
 have C7:=C6.step W6.size B7 (Cl.below (Cl.o1 p24) E7)
 have C8:=C7.step W7.size B8 (Cl.below (Cl.o1 p26) E8)
 have C9:=C8.step W8.size B9 (Cl.below (Cl.o1 p28) E9)
 have C10:=C9.step W9.size B10 (M:=[(q30,dg B (nv B A1)),(q31,dg B (zv true A1).natAbs),(q32,dg B (gf [(s,A1),(t,A2)])),(q33,dg B (gf [(s,A1)]))]) ⟨fun p hp=>by
  simp only[List.mem_cons,List.not_mem_nil,or_false]at hp;rcases hp with rfl|rfl|rfl|rfl
  ·exact p30
  ·exact p31'
  ·exact p32
  ·exact p33,ap10⟩
 have dd:a10.defers=a.defers:=d10.trans (d9.trans (d8.trans (d7.trans (d6.trans (d5.trans (d4.trans (d3.trans (d2.trans d1))))))))
 clear C1 C2 C3 C4 C5 C6 C7 C8 C9 f1 f2 f3 f4 f5 f6 f7 f8 f9 rx ry gx Dk MI rd one nil0
 refine iU.down a10 w10 _ (fun k=>match k with|0=>v0|1=>v1|2=>v2|3=>v3|4=>v4|5=>v5|6=>v6|14=>q14|15=>q15|17=>q17|18=>q18|20=>q20|22=>q22|24=>q24|26=>q26|28=>q28|30=>q30|31=>q31|32=>q32|33=>q33|_=>undef) z10 dd f10 W10 ?_
 subst hX hY
 have s1':=W1.size
 have s2':=W2.size
 have s3':=W3.size
 have s4':=W4.size
 have s5':=W5.size
 have s6':=W6.size
 have s7':=W7.size
 have s8':=W8.size
 have s9':=W9.size
 exact⟨fun t h0 ht=>by
  have q:∀k,11≤k→t≠k:=fun k hk=>om
  simp only[iC (q 11 dc),iC (q 12 dc),iC (q 13 dc),iC (q 14 dc),iC (q 15 dc),iC (q 16 dc),iC (q 17 dc),iC (q 18 dc),iC (q 19 dc),iC (q 20 dc),iC (q 21 dc),iC (q 22 dc),iC (q 23 dc),iC (q 24 dc),iC (q 25 dc),iC (q 26 dc),iC (q 27 dc),iC (q 28 dc),iC (q 29 dc),iC (q 30 dc),iC (q 31 dc),iC (q 32 dc),iC (q 33 dc)],⟨_,⟨_,rfl,lq11,hb11.up T1⟩,hi11.up T1⟩,⟨_,⟨_,rfl,lq12,hb12.up T1⟩,hi12.up T1⟩,⟨_,rfl,om,(T2.block _ (aS hg)).trans hg⟩,⟨_,rfl,om,gu.up hq3 T3⟩,rfl,rfl,⟨_,rfl,om,gu.up hq4 T4⟩,⟨_,rfl,om,gu.up hq4b T4⟩,rfl,⟨_,rfl,om,gu.up hq5 T5⟩,⟨_,rfl,om,hq6.up T6⟩,⟨_,rfl,om,gu.up hq7 T7⟩,⟨_,rfl,om,gu.up hq8 T8⟩,⟨_,rfl,om,gu.up hq9 T9⟩,rfl,⟨_,rfl,om,hq10⟩,rfl,rfl,C10⟩
end
section
variable {a:Act}{w:World}{R:Exit→Act→World→Prop}
theorem SX{f:FuncId}{args:List V}{x:Bool}{w:World}{H:Nat→Prop}{vs:List Value}(c:aF Tryz.prog J0 f args (.b x))(hH:∀q,H q→q<w.heap.size)(hr:aA w H vs args):Calls Tryz.prog f vs.toArray w (fun e w'=>e= .returned (.bool x)∧Below w.heap.size w w'):=by
 refine((c.Yl rfl) w H vs trivial (MO _ _) hH hr).mono ?_;rintro e w' ⟨v,rfl,hB,N,hN,h⟩;rcases h with h|⟨e,sz,cs,n,xs,he,_⟩|⟨r,h,_⟩
 ·cases h;exact⟨rfl,hB⟩
 ·cases he
 ·cases h
theorem za19t{b:Nat}(hz:a.tmps.size=353)(h7:a.tmps.getD 7 undef= .pointer (some ⟨b,0,none⟩))(h10:a.tmps.getD 10 undef= .int .i64 0)
 (cU:Calls Tryz.prog 23 #[.pointer (some ⟨b,0,none⟩)] w (fun e w1=>e= .returned (.bool true)∧Below w.heap.size w w1))
 (kk:∀(a':Act) (w1:World),kA a a' 353 35 [(157,.bool false)]<|Below w.heap.size w w1→R .normal a' w1):(q1 (q1 (qd 10 (uh Tryz.f3)))).wp Tryz.prog R a w:=by
 replace kk:=pu kk
 refine rl fun gA=>?_
 go_wp2_with (go_at_call 23;refine(cU).mono ?_;rintro e w1 ⟨rfl,b1⟩)
 exact kk.down _ w1 gZ gN gS rfl b1
theorem za19f{k:Nat}(hz:a.tmps.size=353)(h10:a.tmps.getD 10 undef= .int .i64 (k:Int))
 (hl:¬k=0)
 (kk:∀(a':Act),kA a a' 353 35 [(157,.bool false)]<|R .normal a' w):(q1 (q1 (qd 10 (uh Tryz.f3)))).wp Tryz.prog R a w:=by
 replace kk:=pu kk
 refine rl fun gA=>?_
 go_wp2
 exact kk.down _ gZ gN gS rfl
def za21Φ(w0:World)(s t:Bool)(xa ya:Option Addr)(xn xc yn yc m1 m2:Nat)(H:Nat→Prop)(z0 z1 z2 z3:Int):Nat→Value→World→Prop
 |0,v,_=>v= .agg #[.bool s,.slice xa xn xc]
 |1,v,_=>v= .agg #[.bool t,.slice ya yn yc]
 |2,v,w=>jI w0 H (decide (z0<0)) (dg B z0.natAbs) v w
 |3,v,_=>v= .agg #[.bool s,.slice xa xn xc]
 |4,v,_=>v= .agg #[.bool t,.slice ya yn yc]
 |5,v,w=>jI w0 H (decide (z1<0)) (dg B z1.natAbs) v w
 |6,v,_=>v= .agg #[.bool s,.slice xa xn xc]
 |7,v,_=>v= .agg #[.bool t,.slice ya yn yc]
 |8,v,w=>jI w0 H (decide (z2<0)) (dg B z2.natAbs) v w
 |9,v,_=>v= .agg #[.bool s,.slice xa xn xc]
 |10,v,w=>jI w0 H (decide (z3<0)) (dg B z3.natAbs) v w
 |11,v,_=>v= .agg #[.bool s,.slice xa xn xc]
 |12,v,_=>v= .agg #[.bool s,.slice xa xn xc]
 |13,v,_=>v= .agg #[.bool s,.slice xa xn xc]
 |_,_,_=>False
theorem za21{s t:Bool}{xa ya:Option Addr}{xn xc yn yc m1 m2:Nat}{H:Nat→Prop}{z0 z1 z2 z3:Int}(hz:a.tmps.size=353)(h11:a.tmps.getD 11 undef= .pointer (some ⟨m1,0,none⟩))(h12:a.tmps.getD 12 undef= .pointer (some ⟨m2,0,none⟩))(uY:m1<w.heap.size)(MJ:m2<w.heap.size)(c0:w.cell? ⟨m1,0,none⟩=some (.bool s))(c1:w.cell? ⟨m1,1,none⟩=some (.slice xa xn xc))(c2:w.cell? ⟨m2,0,none⟩=some (.bool t))(c3:w.cell? ⟨m2,1,none⟩=some (.slice ya yn yc))
 (SK:∀w1,Below w.heap.size w w1→Calls Tryz.prog 24 #[.agg #[.bool s,.slice xa xn xc],.agg #[.bool t,.slice ya yn yc]] w1 (fun e w2=>∃v,e= .returned v∧Below w1.heap.size w1 w2∧jI w H (decide (z0<0)) (dg B z0.natAbs) v w2)) (SL:∀w1,Below w.heap.size w w1→Calls Tryz.prog 25 #[.agg #[.bool s,.slice xa xn xc],.agg #[.bool t,.slice ya yn yc]] w1 (fun e w2=>∃v,e= .returned v∧Below w1.heap.size w1 w2∧jI w H (decide (z1<0)) (dg B z1.natAbs) v w2)) (SN:∀w1,Below w.heap.size w w1→Calls Tryz.prog 26 #[.agg #[.bool s,.slice xa xn xc],.agg #[.bool t,.slice ya yn yc]] w1 (fun e w2=>∃v,e= .returned v∧Below w1.heap.size w1 w2∧jI w H (decide (z2<0)) (dg B z2.natAbs) v w2)) (SQ:∀w1,Below w.heap.size w w1→Calls Tryz.prog 27 #[.agg #[.bool s,.slice xa xn xc]] w1 (fun e w2=>∃v,e= .returned v∧Below w1.heap.size w1 w2∧jI w H (decide (z3<0)) (dg B z3.natAbs) v w2))
 (kk:∀(a':Act) (w':World) (g:Nat) (v0 v1 v2 v3:Value),kA a a' 353 34 [(34,.slice (some ⟨g,0,none⟩) 7 7)]<|Below w.heap.size w w'→w.heap.size≤g→w'.heap[g]? =some (.cells #[.bool (decide (z0<0)),v0,.bool (decide (z1<0)),v1,.bool (decide (z2<0)),v2,.bool (decide (z3<0)),v3,.bool s,.slice xa xn xc,.bool s,.slice xa xn xc,.bool s,.slice xa xn xc] 25 (0,0))→jI w H (decide (z0<0)) (dg B z0.natAbs) (.agg #[.bool (decide (z0<0)),v0]) w'→jI w H (decide (z1<0)) (dg B z1.natAbs) (.agg #[.bool (decide (z1<0)),v1]) w'→jI w H (decide (z2<0)) (dg B z2.natAbs) (.agg #[.bool (decide (z2<0)),v2]) w'→jI w H (decide (z3<0)) (dg B z3.natAbs) (.agg #[.bool (decide (z3<0)),v3]) w'→R .normal a' w'):(q1 (qd 11 (uh Tryz.f3))).wp Tryz.prog R a w:=by
 refine fA (n:=14) (N:=353) (za21Φ w s t xa ya xn xc yn yc m1 m2 H z0 z1 z2 z3) (fun _ _=>none) dB (by kernel_rfl) hz (by kernel_rfl) (fun i v w1 w2 hi h hb=>?_) (fun i v w1 q hi h hq=>?_) (fun i o a1 w1 hi ho hsz hB hold aG K hK=>?_) (fun a1 w1 hsz hdf hB hold hval hsep=>?_)
 ·match i,hi with
  |0,_|1,_|3,_|4,_|6,_|7,_|9,_|11,_|12,_|13,_=>exact h
  |2,_|5,_|8,_|10,_=>exact jI.up h hb
 ·cases hq
 ·match i,hi,ho with
  |0,_,ho=>
   obtain rfl:=Option.some.inj ho;have g11:=(hold 11 (aj gK)).trans h11;have x0:=(af (i:=0) (hB.block m1 uY)).trans c0;have x1:=(af (i:=1) (hB.block m1 uY)).trans c1;exact oT
  |1,_,ho=>
   obtain rfl:=Option.some.inj ho;have g12:=(hold 12 (aj gK)).trans h12;have x2:=(af (i:=0) (hB.block m2 MJ)).trans c2;have x3:=(af (i:=1) (hB.block m2 MJ)).trans c3;exact oT
  |2,_,ho=>
   obtain rfl:=Option.some.inj ho;have e0:a1.tmps.getD 158 undef= .agg #[.bool s,.slice xa xn xc]:=aG ⟨0,.data⟩ gM rfl;have e1:a1.tmps.getD 159 undef= .agg #[.bool t,.slice ya yn yc]:=aG ⟨1,.data⟩ gM rfl;have hc:=SK w1 hB;replace hK:=pu hK;go_tidy;have gA:=gJ a1;go_simp;refine hc.mono ?_;rintro e w2 ⟨v,rfl,b,hv⟩;exact hK.down v w2 hv b (fun q h=>by cases h)
  |3,_,ho=>
   obtain rfl:=Option.some.inj ho;have g11:=(hold 11 (aj gK)).trans h11;have x0:=(af (i:=0) (hB.block m1 uY)).trans c0;have x1:=(af (i:=1) (hB.block m1 uY)).trans c1;exact oT
  |4,_,ho=>
   obtain rfl:=Option.some.inj ho;have g12:=(hold 12 (aj gK)).trans h12;have x2:=(af (i:=0) (hB.block m2 MJ)).trans c2;have x3:=(af (i:=1) (hB.block m2 MJ)).trans c3;exact oT
  |5,_,ho=>
   obtain rfl:=Option.some.inj ho;have e3:a1.tmps.getD 161 undef= .agg #[.bool s,.slice xa xn xc]:=aG ⟨3,.data⟩ gM rfl;have e4:a1.tmps.getD 162 undef= .agg #[.bool t,.slice ya yn yc]:=aG ⟨4,.data⟩ gM rfl;have hc:=SL w1 hB;replace hK:=pu hK;go_tidy;have gA:=gJ a1;go_simp;refine hc.mono ?_;rintro e w2 ⟨v,rfl,b,hv⟩;exact hK.down v w2 hv b (fun q h=>by cases h)
  |6,_,ho=>
   obtain rfl:=Option.some.inj ho;have g11:=(hold 11 (aj gK)).trans h11;have x0:=(af (i:=0) (hB.block m1 uY)).trans c0;have x1:=(af (i:=1) (hB.block m1 uY)).trans c1;exact oT
  |7,_,ho=>
   obtain rfl:=Option.some.inj ho;have g12:=(hold 12 (aj gK)).trans h12;have x2:=(af (i:=0) (hB.block m2 MJ)).trans c2;have x3:=(af (i:=1) (hB.block m2 MJ)).trans c3;exact oT
  |8,_,ho=>
   obtain rfl:=Option.some.inj ho;have e6:a1.tmps.getD 164 undef= .agg #[.bool s,.slice xa xn xc]:=aG ⟨6,.data⟩ gM rfl;have e7:a1.tmps.getD 165 undef= .agg #[.bool t,.slice ya yn yc]:=aG ⟨7,.data⟩ gM rfl;have hc:=SN w1 hB;replace hK:=pu hK;go_tidy;have gA:=gJ a1;go_simp;refine hc.mono ?_;rintro e w2 ⟨v,rfl,b,hv⟩;exact hK.down v w2 hv b (fun q h=>by cases h)
  |9,_,ho=>
   obtain rfl:=Option.some.inj ho;have g11:=(hold 11 (aj gK)).trans h11;have x0:=(af (i:=0) (hB.block m1 uY)).trans c0;have x1:=(af (i:=1) (hB.block m1 uY)).trans c1;exact oT
  |10,_,ho=>
   obtain rfl:=Option.some.inj ho;have e9:a1.tmps.getD 167 undef= .agg #[.bool s,.slice xa xn xc]:=aG ⟨9,.data⟩ gM rfl;have hc:=SQ w1 hB;replace hK:=pu hK;go_tidy;have gA:=gJ a1;go_simp;refine hc.mono ?_;rintro e w2 ⟨v,rfl,b,hv⟩;exact hK.down v w2 hv b (fun q h=>by cases h)
  |11,_,ho=>
   obtain rfl:=Option.some.inj ho;have g11:=(hold 11 (aj gK)).trans h11;have x0:=(af (i:=0) (hB.block m1 uY)).trans c0;have x1:=(af (i:=1) (hB.block m1 uY)).trans c1;exact oT
  |12,_,ho=>
   obtain rfl:=Option.some.inj ho;have g11:=(hold 11 (aj gK)).trans h11;have x0:=(af (i:=0) (hB.block m1 uY)).trans c0;have x1:=(af (i:=1) (hB.block m1 uY)).trans c1;exact oT
  |13,_,ho=>
   obtain rfl:=Option.some.inj ho;have g11:=(hold 11 (aj gK)).trans h11;have x0:=(af (i:=0) (hB.block m1 uY)).trans c0;have x1:=(af (i:=1) (hB.block m1 uY)).trans c1;exact oT
  |k+14,hi,_=>exact absurd hi om
 ·have e2:jI w H (decide (z0<0)) (dg B z0.natAbs) (a1.tmps.getD 160 undef) w1:=hval 2 dc;obtain⟨ua0,jP,uc0,f0⟩:=e2.shape;have g160:=gI hsz f0 dc;rw[f0]at e2;have e5:jI w H (decide (z1<0)) (dg B z1.natAbs) (a1.tmps.getD 163 undef) w1:=hval 5 dc;obtain⟨ua1,uS,uc1,f1⟩:=e5.shape;have g163:=gI hsz f1 dc;rw[f1]at e5;have e8:jI w H (decide (z2<0)) (dg B z2.natAbs) (a1.tmps.getD 166 undef) w1:=hval 8 dc;obtain⟨ua2,un2,uc2,f2⟩:=e8.shape;have g166:=gI hsz f2 dc;rw[f2]at e8;have e10:jI w H (decide (z3<0)) (dg B z3.natAbs) (a1.tmps.getD 168 undef) w1:=hval 10 dc;obtain⟨ua3,un3,uc3,f3⟩:=e10.shape;have g168:=gI hsz f3 dc;rw[f3]at e10;have f11:a1.tmps.getD 169 undef= .agg #[.bool s,.slice xa xn xc]:=hval 11 dc;have g169:=gI hsz f11 dc;have f12:a1.tmps.getD 170 undef= .agg #[.bool s,.slice xa xn xc]:=hval 12 dc;have g170:=gI hsz f12 dc;have f13:a1.tmps.getD 171 undef= .agg #[.bool s,.slice xa xn xc]:=hval 13 dc;have g171:=gI hsz f13 dc;have old:∀t,t<34→a1.tmps.getD t undef=a.tmps.getD t undef:=fun t ht=>hold t (aj (by revert t;decide))
  replace kk:=pu kk;clear hold hval hsep SK SL SN SQ;simp only[List.drop_succ_cons,List.drop_zero];go_wp2;have ba:=aQ w1 (.cells #[.bool (decide (z0<0)),.slice ua0 jP uc0,.bool (decide (z1<0)),.slice ua1 uS uc1,.bool (decide (z2<0)),.slice ua2 un2 uc2,.bool (decide (z3<0)),.slice ua3 un3 uc3,.bool s,.slice xa xn xc,.bool s,.slice xa xn xc,.bool s,.slice xa xn xc] 25);refine kk.down _ _ w1.heap.size _ _ _ _ (by simp[hsz]) (fun t ht=>?_) ?_ (by first|exact hdf|rfl) (ah hB ba) hB.size (heap_alloc_new w1 _) (e2.up ba) (e5.up ba) (e8.up ba) (e10.up ba)
  ·dsimp only[Act.put];repeat rw[ae om]
   exact old t ht
  ·exact aC (by simp[hsz])
theorem za22(hz:a.tmps.size=353)
 (kk:∀(a':Act),kA a a' 353 35 [(35,.int .i64 0)]<|R .normal a' w):(q1 (q1 (qd 12 (uh Tryz.f3)))).wp Tryz.prog R a w:=by
 replace kk:=pu kk
 refine rl fun gA=>?_
 go_wp2
 exact kk.down _ gZ gN gS rfl
theorem za23t{i:Nat}{la:Option Addr}{lc:Nat}(hz:a.tmps.size=353)(h34:a.tmps.getD 34 undef= .slice la 7 lc)(h35:a.tmps.getD 35 undef= .int .i64 (i:Int))
 (hl:i<7)
 (kk:∀(a':Act),kA a a' 353 36 [(176,.bool true)]<|R .normal a' w):(q1 (q1 (ql (qb (q2 (q1 (qd 12 (uh Tryz.f3)))))))).wp Tryz.prog R a w:=by
 replace kk:=pu kk
 refine rl fun gA=>?_
 go_wp2
 exact kk.down _ gZ gN gS rfl
theorem za23f{i:Nat}{la:Option Addr}{lc:Nat}(hz:a.tmps.size=353)(h34:a.tmps.getD 34 undef= .slice la 7 lc)(h35:a.tmps.getD 35 undef= .int .i64 (i:Int))
 (hl:¬i<7)
 (kk:∀(a':Act),kA a a' 353 36 [(176,.bool false)]<|R .normal a' w):(q1 (q1 (ql (qb (q2 (q1 (qd 12 (uh Tryz.f3)))))))).wp Tryz.prog R a w:=by
 replace kk:=pu kk
 refine rl fun gA=>?_
 go_wp2
 exact kk.down _ gZ gN gS rfl
def za25Φ(w0:World)(ix g1 g2:Nat)(s1 s2:Bool)(u1 u2:Value):Nat→Value→World→Prop
 |0,v,_=>v= .slice (some ⟨g1,0,none⟩) 7 7
 |1,v,_=>v= .int .i64 (ix:Int)
 |2,v,_=>v= .pointer (some ⟨g1,ix*2,none⟩)
 |3,v,_=>v= .agg #[.bool s1,u1]
 |4,v,_=>v= .slice (some ⟨g2,0,none⟩) 7 7
 |5,v,_=>v= .int .i64 (ix:Int)
 |6,v,_=>v= .pointer (some ⟨g2,ix*2,none⟩)
 |7,v,_=>v= .agg #[.bool s2,u2]
 |8,v,_=>v= .bool true
 |_,_,_=>False
theorem za25{ix g1 g2:Nat}{s1 s2:Bool}{u1 u2:Value}(hz:a.tmps.size=353)(h13:a.tmps.getD 13 undef= .slice (some ⟨g1,0,none⟩) 7 7)(h34:a.tmps.getD 34 undef= .slice (some ⟨g2,0,none⟩) 7 7)(h35:a.tmps.getD 35 undef= .int .i64 (ix:Int))(l_g1:g1<w.heap.size)(l_g2:g2<w.heap.size)
 (hi7:(ix:Int)<7) (c0:w.cell? ⟨g1,ix*2,none⟩=some (.bool s1)) (c1:w.cell? ⟨g1,ix*2+1,none⟩=some u1) (c2:w.cell? ⟨g2,ix*2,none⟩=some (.bool s2)) (c3:w.cell? ⟨g2,ix*2+1,none⟩=some u2) (cS:∀w1,Below w.heap.size w w1→Calls Tryz.prog 28 #[.agg #[.bool s1,u1],.agg #[.bool s2,u2]] w1 (fun e w2=>e= .returned (.bool true)∧Below w1.heap.size w1 w2))
 (kk:∀(a':Act) (w':World),kA a a' 353 36 [(188,.bool false)]<|Below w.heap.size w w'→R .normal a' w'):(q1 (q1 (qb (q1 (q2 (ql (qb (q2 (q1 (qd 12 (uh Tryz.f3))))))))))).wp Tryz.prog R a w:=by
 refine fA (n:=9) (N:=353) (za25Φ w ix g1 g2 s1 s2 u1 u2) (fun _ _=>none) dB (by kernel_rfl) hz (by kernel_rfl) (fun i v w1 w2 hi h hb=>?_) (fun i v w1 q hi h hq=>?_) (fun i o a1 w1 hi ho hsz hB hold aG K hK=>?_) (fun a1 w1 hsz hdf hB hold hval hsep=>?_)
 ·match i,hi with
  |0,_|1,_|2,_|3,_|4,_|5,_|6,_|7,_|8,_=>exact h
 ·cases hq
 ·match i,hi,ho with
  |0,_,ho=>
   obtain rfl:=Option.some.inj ho;have g13:=(hold 13 (aj gK)).trans h13;exact oT
  |1,_,ho=>
   obtain rfl:=Option.some.inj ho;have g35:=(hold 35 (aj gK)).trans h35;exact oT
  |2,_,ho=>
   obtain rfl:=Option.some.inj ho;have e0:a1.tmps.getD 179 undef= .slice (some ⟨g1,0,none⟩) 7 7:=aG ⟨0,.data⟩ gM rfl;have e1:a1.tmps.getD 180 undef= .int .i64 (ix:Int):=aG ⟨1,.data⟩ gM rfl;exact oT
  |3,_,ho=>
   obtain rfl:=Option.some.inj ho;have e2:a1.tmps.getD 181 undef= .pointer (some ⟨g1,ix*2,none⟩):=aG ⟨2,.data⟩ gM rfl;have x0:=(af (hB.block g1 l_g1)).trans c0;have x1:=(af (hB.block g1 l_g1)).trans c1;exact oT
  |4,_,ho=>
   obtain rfl:=Option.some.inj ho;have g34:=(hold 34 (aj gK)).trans h34;exact oT
  |5,_,ho=>
   obtain rfl:=Option.some.inj ho;have g35:=(hold 35 (aj gK)).trans h35;exact oT
  |6,_,ho=>
   obtain rfl:=Option.some.inj ho;have e4:a1.tmps.getD 183 undef= .slice (some ⟨g2,0,none⟩) 7 7:=aG ⟨4,.data⟩ gM rfl;have e5:a1.tmps.getD 184 undef= .int .i64 (ix:Int):=aG ⟨5,.data⟩ gM rfl;exact oT
  |7,_,ho=>
   obtain rfl:=Option.some.inj ho;have e6:a1.tmps.getD 185 undef= .pointer (some ⟨g2,ix*2,none⟩):=aG ⟨6,.data⟩ gM rfl;have x0:=(af (hB.block g2 l_g2)).trans c2;have x1:=(af (hB.block g2 l_g2)).trans c3;exact oT
  |8,_,ho=>
   obtain rfl:=Option.some.inj ho;have e3:a1.tmps.getD 182 undef= .agg #[.bool s1,u1]:=aG ⟨3,.data⟩ gM rfl;have e7:a1.tmps.getD 186 undef= .agg #[.bool s2,u2]:=aG ⟨7,.data⟩ gM rfl;have hc:=cS w1 hB;replace hK:=pu hK;go_tidy;have gA:=gJ a1;go_simp;refine hc.mono ?_;rintro e w2 ⟨rfl,b⟩;exact hK.down _ w2 rfl b (fun q h=>by cases h)
 ·have e8:a1.tmps.getD 187 undef= .bool true:=hval 8 dc;have g187:=gI hsz e8 dc;have old:∀t,t<36→a1.tmps.getD t undef=a.tmps.getD t undef:=fun t ht=>hold t (aj (by revert t;decide))
  replace kk:=pu kk;clear hold hval hsep cS;simp only[List.drop_succ_cons,List.drop_zero];go_wp2;refine kk.down _ w1 (by simp[hsz]) (fun t ht=>?_) ?_ (by first|exact hdf|rfl) hB
  ·exact(ae om).trans (old t ht)
  ·exact aC (by simp[hsz])
theorem za27{b i g1:Nat}{ua:Option Addr}{un uc:Nat}{Qf:World→Prop}(hz:a.tmps.size=353)(h7:a.tmps.getD 7 undef= .pointer (some ⟨b,0,none⟩))(h13:a.tmps.getD 13 undef= .slice (some ⟨g1,0,none⟩) 7 7)(h35:a.tmps.getD 35 undef= .int .i64 (i:Int))
 (hi7:i<7) (c1:w.cell? ⟨g1,i*2+1,none⟩=some (.slice ua un uc)) (cN:Calls Tryz.prog 29 #[.pointer (some ⟨b,0,none⟩),.slice (some ⟨w.heap.size,0,none⟩) 1 1] (w.alloc (.cells #[.slice ua un uc] 23)) (fun e w1=>e= .returned (.tuple #[])∧Qf w1))
 (kk:∀(a':Act) (w1:World),kA a a' 353 36 []<|Qf w1→R .normal a' w1):(q2 (qb (q1 (q2 (ql (qb (q2 (q1 (qd 12 (uh Tryz.f3)))))))))).wp Tryz.prog R a w:=by
 replace kk:=pu kk
 refine rl fun gA=>?_
 go_wp2_with (go_at_call 29;refine(cN).mono ?_;rintro e w1 ⟨rfl,hQ⟩)
 exact kk.down _ w1 gZ gN rfl hQ
theorem za24{i:Nat}(hz:a.tmps.size=353)(h35:a.tmps.getD 35 undef= .int .i64 (i:Int))
 (hi:i≤1000)
 (kk:∀(a':Act),kA a a' 353 35 [(35,.int .i64 ((i:Int)+1))]<|R .normal a' w):(q2 (q2 (ql (qb (q2 (q1 (qd 12 (uh Tryz.f3)))))))).wp Tryz.prog R a w:=by
 replace kk:=pu kk
 refine rl fun gA=>?_
 go_wp2
 exact kk.down _ gZ gN gS rfl
theorem za35{b:Nat}{Qf:World→Prop}{a14:Option Addr}{n14 c14:Nat}{a15:Option Addr}{n15 c15:Nat}{a17:Option Addr}{n17 c17:Nat}{a18:Option Addr}{n18 c18:Nat}{a20:Option Addr}{n20 c20:Nat}{a22:Option Addr}{n22 c22:Nat}{a24:Option Addr}{n24 c24:Nat}{a26:Option Addr}{n26 c26:Nat}{a28:Option Addr}{n28 c28:Nat}{a30:Option Addr}{n30 c30:Nat}{a31:Option Addr}{n31 c31:Nat}{a32:Option Addr}{n32 c32:Nat}{a33:Option Addr}{n33 c33:Nat}{q14 q17 q18 q20 q22 q24 q26 q28 q31:Nat}(hz:a.tmps.size=353)(h7:a.tmps.getD 7 undef= .pointer (some ⟨b,0,none⟩))(Q8:a.tmps.getD 14 undef= .pointer (some ⟨q14,0,none⟩))(h15:a.tmps.getD 15 undef= .slice a15 n15 c15)(h17:a.tmps.getD 17 undef= .pointer (some ⟨q17,0,none⟩))(h18:a.tmps.getD 18 undef= .pointer (some ⟨q18,0,none⟩))(h20:a.tmps.getD 20 undef= .pointer (some ⟨q20,0,none⟩))(h22:a.tmps.getD 22 undef= .pointer (some ⟨q22,0,none⟩))(h24:a.tmps.getD 24 undef= .pointer (some ⟨q24,0,none⟩))(h26:a.tmps.getD 26 undef= .pointer (some ⟨q26,0,none⟩))(h28:a.tmps.getD 28 undef= .pointer (some ⟨q28,0,none⟩))(h30:a.tmps.getD 30 undef= .slice a30 n30 c30)(h31:a.tmps.getD 31 undef= .pointer (some ⟨q31,0,none⟩))(h32:a.tmps.getD 32 undef= .slice a32 n32 c32)(h33:a.tmps.getD 33 undef= .slice a33 n33 c33)
 (x14:w.cell? ⟨q14,1,none⟩=some (.slice a14 n14 c14)) (x17:w.cell? ⟨q17,1,none⟩=some (.slice a17 n17 c17)) (x18:w.cell? ⟨q18,1,none⟩=some (.slice a18 n18 c18)) (x20:w.cell? ⟨q20,1,none⟩=some (.slice a20 n20 c20)) (x22:w.cell? ⟨q22,1,none⟩=some (.slice a22 n22 c22)) (x24:w.cell? ⟨q24,1,none⟩=some (.slice a24 n24 c24)) (x26:w.cell? ⟨q26,1,none⟩=some (.slice a26 n26 c26)) (x28:w.cell? ⟨q28,1,none⟩=some (.slice a28 n28 c28)) (x31:w.cell? ⟨q31,1,none⟩=some (.slice a31 n31 c31)) (cN:Calls Tryz.prog 29 #[.pointer (some ⟨b,0,none⟩),.slice (some ⟨w.heap.size,0,none⟩) 13 13] (w.alloc (.cells #[.slice a14 n14 c14,.slice a15 n15 c15,.slice a17 n17 c17,.slice a18 n18 c18,.slice a20 n20 c20,.slice a22 n22 c22,.slice a24 n24 c24,.slice a26 n26 c26,.slice a28 n28 c28,.slice a30 n30 c30,.slice a31 n31 c31,.slice a32 n32 c32,.slice a33 n33 c33] 23)) (fun e w1=>e= .returned (.tuple #[])∧Qf w1))
 (kk:∀(a':Act) (w1:World),kA a a' 353 11 []<|Qf w1→R .normal a' w1):(q1 (qd 19 (uh Tryz.f3))).wp Tryz.prog R a w:=by
 replace kk:=pu kk
 refine rl fun gA=>?_
 go_wp2_with (go_at_call 29;refine(cN).mono ?_;rintro e w1 ⟨rfl,hQ⟩)
 exact kk.down _ w1 gZ gN rfl hQ
theorem za36t{k:Nat}(hz:a.tmps.size=353)(h10:a.tmps.getD 10 undef= .int .i64 (k:Int))
 (hl:k=0)
 (kk:∀(a':Act),kA a a' 353 11 [(348,.bool true)]<|R .normal a' w):(q1 (qd 20 (uh Tryz.f3))).wp Tryz.prog R a w:=by
 replace kk:=pu kk
 refine rl fun gA=>?_
 go_wp2
 exact kk.down _ gZ gN gS rfl
theorem za36f{k:Nat}(hz:a.tmps.size=353)(h10:a.tmps.getD 10 undef= .int .i64 (k:Int))
 (hl:¬k=0)
 (kk:∀(a':Act),kA a a' 353 11 [(348,.bool false)]<|R .normal a' w):(q1 (qd 20 (uh Tryz.f3))).wp Tryz.prog R a w:=by
 replace kk:=pu kk
 refine rl fun gA=>?_
 go_wp2
 exact kk.down _ gZ gN gS rfl
theorem za37{b:Nat}{Qf:World→Prop}(hz:a.tmps.size=353)(h7:a.tmps.getD 7 undef= .pointer (some ⟨b,0,none⟩))
 (cN:Calls Tryz.prog 38 #[.pointer (some ⟨b,0,none⟩)] w (fun e w1=>e= .returned (.tuple #[])∧Qf w1))
 (kk:∀(a':Act) (w1:World),kA a a' 353 11 []<|Qf w1→R .normal a' w1):(qt (q2 (qd 20 (uh Tryz.f3)))).wp Tryz.prog R a w:=by
 replace kk:=pu kk
 refine rl fun gA=>?_
 go_wp2_with (go_at_call 38;refine(cN).mono ?_;rintro e w1 ⟨rfl,hQ⟩)
 exact kk.down _ w1 gZ gN rfl hQ
theorem za7t{k:Nat}(hz:a.tmps.size=353)(h10:a.tmps.getD 10 undef= .int .i64 (k:Int))
 (hl:k<2)
 (kk:∀(a':Act),kA a a' 353 11 [(69,.bool true)]<|R .normal a' w):(q1 (q1 (zaL Tryz.f3))).wp Tryz.prog R a w:=by
 replace kk:=pu kk
 refine rl fun gA=>?_
 go_wp2
 exact kk.down _ gZ gN gS rfl
theorem za7f{k:Nat}(hz:a.tmps.size=353)(h10:a.tmps.getD 10 undef= .int .i64 (k:Int))
 (hl:¬k<2)
 (kk:∀(a':Act),kA a a' 353 11 [(69,.bool false)]<|R .normal a' w):(q1 (q1 (zaL Tryz.f3))).wp Tryz.prog R a w:=by
 replace kk:=pu kk
 refine rl fun gA=>?_
 go_wp2
 exact kk.down _ gZ gN gS rfl
theorem za8{k:Nat}(hz:a.tmps.size=353)(h10:a.tmps.getD 10 undef= .int .i64 (k:Int))
 (hi:k≤1000)
 (kk:∀(a':Act),kA a a' 353 10 [(10,.int .i64 ((k:Int)+1))]<|R .normal a' w):(q2 (q2 (zaL Tryz.f3))).wp Tryz.prog R a w:=by
 replace kk:=pu kk
 refine rl fun gA=>?_
 go_wp2
 exact kk.down _ gZ gN gS rfl
theorem za6(hz:a.tmps.size=353)
 (kk:∀(a':Act),kA a a' 353 10 [(10,.int .i64 0)]<|R .normal a' w):(q1 (q1 (qd 5 (qf Tryz.f3)))).wp Tryz.prog R a w:=by
 replace kk:=pu kk
 refine rl fun gA=>?_
 go_wp2
 exact kk.down _ gZ gN gS rfl
theorem za38{b:Nat}{Qf:World→Prop}(hz:a.tmps.size=353)(h7:a.tmps.getD 7 undef= .pointer (some ⟨b,0,none⟩))
 (cN:Calls Tryz.prog 39 #[.pointer (some ⟨b,0,none⟩)] w (fun e w1=>e= .returned (.bool true)∧Qf w1))
 (kk:∀(a':Act) (w1:World),kA a a' 353 6 [(6,.bool true)]<|Qf w1→R .normal a' w1):(q1 (qd 6 (qf Tryz.f3))).wp Tryz.prog R a w:=by
 replace kk:=pu kk
 refine rl fun gA=>?_
 go_wp2_with (go_at_call 39;refine(cN).mono ?_;rintro e w1 ⟨rfl,hQ⟩)
 exact kk.down _ w1 gZ gN gS rfl hQ
theorem za0{s t:Bool}{xa ya:Option Addr}{xn xc yn yc:Nat}(hz:a.tmps.size=353)(h0:a.tmps.getD 0 undef= .agg #[.bool s,.slice xa xn xc])(h1:a.tmps.getD 1 undef= .agg #[.bool t,.slice ya yn yc])
 (kk:∀(a':Act),kA a a' 353 3 [(3,.pointer (some ⟨w.heap.size,0,none⟩)),(4,.pointer (some ⟨w.heap.size+1,0,none⟩))]<|R .normal a' ((w.alloc (.cells #[.bool s,.slice xa xn xc] 25)).alloc (.cells #[.bool t,.slice ya yn yc] 25))):(q1 (qf Tryz.f3)).wp Tryz.prog R a w:=by
 replace kk:=pu kk
 refine rl fun gA=>?_
 go_wp2
 exact kk.down _ gZ gN gS gS rfl
theorem za1(hz:a.tmps.size=353)
 (cN:Calls Tryz.prog 4 #[] w (fun e w1=>e= .returned (.bool true)∧Below w.heap.size w w1))
 (kk:∀(a':Act) (w1:World),kA a a' 353 7 [(49,.bool false)]<|Below w.heap.size w w1→R .normal a' w1):(q1 (q1 (qd 1 (qf Tryz.f3)))).wp Tryz.prog R a w:=by
 replace kk:=pu kk
 refine rl fun gA=>?_
 go_wp2_with (go_at_call 4;refine(cN).mono ?_;rintro e w1 ⟨rfl,b1⟩)
 exact kk.down _ w1 gZ gN gS rfl b1
theorem za3(hz:a.tmps.size=353)
 (kk:∀(a':Act),kA a a' 353 7 [(7,.pointer (some ⟨w.heap.size,0,none⟩))]<|R .normal a' (w.alloc (.cells #[.slice none 0 0,.slice none 0 0,.slice none 0 0] 30))):(q1 (qd 2 (qf Tryz.f3))).wp Tryz.prog R a w:=by
 replace kk:=pu kk
 refine rl fun gA=>?_
 go_wp2
 exact kk.down _ gZ gN gS rfl
theorem za5{n m:Int}(hz:a.tmps.size=353)(h2:a.tmps.getD 2 undef= .int .i64 n)
 (hb:bits .and .i64 n 127=m)
 (kk:∀(a':Act),a'.tmps.size=353→(∀t,t<10→t≠2→a'.tmps.getD t undef=a.tmps.getD t undef)→a'.tmps.getD 2 undef= .int .i64 m→a'.defers=a.defers→R .normal a' w):(q1 (qd 4 (qf Tryz.f3))).wp Tryz.prog R a w:=by
 replace kk:=pu kk
 refine rl fun gA=>?_
 go_wp2
 exact kk.down _ gZ gN gS rfl
end
def SY:=an @Bool.false_and (an @wi (an @bI (an @Nat.div_one (an @Nat.mul_one (an @aU (an @gU (an @gQ (an @fK (an @dD @xA)))))))))
theorem wU{w:World}{H:Nat→Prop}{v:Value}{s:Bool}{a:List Nat}(h:aO w H v (zL s a)):IA w H v s a:=by
 obtain⟨vs,rfl,hv⟩:=(Rep.up (ov:=fun _=>none) h).yx;match vs,hv with
 |[],hv=>exact absurd hv.1 sy
 |[_],hv=>exact absurd hv.1 sy
 |_::_::_::_,hv=>exact absurd hv.1 sy
 |[p,q],hv=>
  have h1:=hv.2 0 p _ rfl rfl;have h2:=hv.2 1 q _ rfl rfl;have e1:=(Rep.up (ov:=fun _=>none) h1).nT;subst e1;exact⟨q,rfl,h2⟩
theorem Fg{w0 w:World}{H:Nat→Prop}{s:Bool}{A:List Nat}{v:Value}(h:dA w0 s A v w):aO w (fun q=>H q∨(w0.heap.size≤q∧q<w.heap.size)) v (zL s A):=by
 obtain⟨u,rfl,m,hm,ho⟩:=h;have r:aO w (fun q=>H q∨(w0.heap.size≤q∧q<w.heap.size)) u (.l 1 (W A)):=Bo Nat.one_pos ho (CW _) hm fun q hq=> .inr (ho.lt q hq)
 exact IA.rep ⟨u,rfl,r⟩
theorem WL{x y:Int}{m:Nat}(hx:x.natAbs<B^m)(hy:y.natAbs<B^m)(hm:m≤100000000):aF Tryz.prog J0 7 [zN x,zN y] (zN (x+y)):=by
 refine .WY rfl fun w H vs hJ hT hH hr=>?_
 obtain⟨hr0,hr1⟩:=hr;obtain⟨v0,v1,rfl⟩:∃v0 v1,vs=[v0,v1]:=by
  match vs,hr0 with
  |[v,u],_=>exact⟨v,u,rfl⟩
 have h:=rF hH (wU (s:=decide (x<0)) (hr1 0 v0 _ rfl rfl)) (bF _) (Nat.le_trans (dS hx) hm) (wU (s:=decide (y<0)) (hr1 1 v1 _ rfl rfl)) (bF _) (Nat.le_trans (dS hy) hm);rw[kW,kW]at h;refine h.mono ?_;rintro e w' ⟨v,rfl,hB,o⟩;exact⟨_,rfl,hB,fun q=>w.heap.size≤q∧q<w'.heap.size,fun q h=>h,.inl (Fg o)⟩
theorem MK{x y:Int}{m:Nat}(hx:x.natAbs<B^m)(hy:y.natAbs<B^m)(hm:m≤100000000):aF Tryz.prog J0 15 [zN x,zN y] (.t [zN (x.fdiv y),.i .i64 (ze y)]):=by
 refine .WY rfl fun w H vs hJ hT hH hr=>?_
 obtain⟨hr0,hr1⟩:=hr;obtain⟨v0,v1,rfl⟩:∃v0 v1,vs=[v0,v1]:=by
  match vs,hr0 with
  |[v,u],_=>exact⟨v,u,rfl⟩
 have h:=zZ hH (wU (s:=decide (x<0)) (hr1 0 v0 _ rfl rfl)) (bF _) (Nat.le_trans (dS hx) hm) (wU (s:=decide (y<0)) (hr1 1 v1 _ rfl rfl)) (bF _) (Nat.le_trans (dS hy) hm);rw[kW,kW]at h;refine h.mono ?_;rintro e w' ⟨v,rfl,hB,o⟩;refine⟨_,rfl,hB,fun q=>w.heap.size≤q∧q<w'.heap.size,fun q h=>h,.inl ?_⟩;have r:=Fg (H:=H) o;exact .t [v,.int .i64 (ze y)] _ rfl fun j v x h1 h2=>by
  match j,h1,h2 with
  |0,h1,h2=>cases h1;cases h2;exact r
  |1,h1,h2=>cases h1;cases h2;exact .i _ _
theorem zsm(n:Int)(h:n.natAbs<18446744073709551616):n.natAbs<B^1:=by rw[Nat.pow_one];exact h
def a4:AC:= .seq (.reg [qr 0 (.mv (.k (.b false)))]) (.seq (.reg [qr 4 (.call 12 [(1,(.k (.i .i64 (-7))))]),qr 5 (.call 12 [(1,(.k (.i .i64 2)))]),qr 6 (.call 15 [(1,(.t 4)),(1,(.t 5))]),qm 3 6,qr 7 (.ext (.t 3) 0),qr 8 (.ext (.t 3) 1),qr 1 (.al 25 [(.b false),(.l 1 [])]),qn (.st 2 (.t 1) (.t 7)),qm 2 8]) (.seq (.gp [qr 9 (.call 12 [(1,(.k (.i .i64 5)))]),qr 10 (.call 12 [(1,(.k (.i .i64 (-7))))]),qr 11 (.call 7 [(1,(.t 9)),(1,(.t 10))]),qr 12 (.call 12 [(1,(.k (.i .i64 (-2))))]),qr 13 (.call 28 [(1,(.t 11)),(1,(.t 12))]),qm 14 13,⟨some 15,some (14,true),.mv (.t 2)⟩,⟨some 16,some (14,true),.bin .eql (.t 15) (.k (.i .i64 0))⟩,qr 17 (.pick (.t 14) (.t 16) (.k (.b false))),qm 18 17,⟨some 19,some (18,true),.ld true 2 (.t 1)⟩,⟨some 20,some (18,true),.call 12 [(1,(.k (.i .i64 (-4))))]⟩,⟨some 21,some (18,true),.call 28 [(1,(.t 19)),(1,(.t 20))]⟩,qr 22 (.pick (.t 18) (.t 21) (.k (.b false))),qm 0 22]) (.ret)))
theorem Fh:aF Tryz.prog J0 4 [] (.b true):=by
 have o1:=jH (-7) dc dc;have o2:=jH 2 dc dc;have o3:=jH 5 dc dc;have o4:=jH (-2) dc dc;have o5:=jH (-4) dc dc;have hf:=MK (zsm (-7) dc) (zsm 2 dc) dc;rw[show(-7:Int).fdiv 2= -4 from rfl,show ze 2=0 from rfl]at hf;have ha:=WL (zsm 5 dc) (zsm (-7) dc) dc;rw[show(5:Int)+ -7= -2 from rfl]at ha;have s1:=pR (rfl:(-2:Int)= -2) (zsm (-2) dc) dc;have s2:=pR (rfl:(-4:Int)= -4) (zsm (-4) dc) dc;refine ja dB eY Tryz.func4 a4 ?_;unfold a4;simp only[ak,aH,qm,qr,qn];exact tC (ai @aW @SY)
theorem S_(a b:List Nat)(la:a.length≤9223372036854775807)(e:a=b):aF Tryz.prog J0 35 [.l 1 (W a),.l 1 (W b)] (.b true):=by
 subst e;have:=A8 a a la la;simpa using this
def a3:AC:= .seq (.reg [qr 3 (.bx 25 (.t 0)),qr 4 (.bx 25 (.t 1)),qr 6 (.mv (.k (.b false)))]) (.seq (.seq (.reg [qr 48 (.call 4 []),qr 49 (.un .not (.t 48))]) (.cond (.t 49) (.seq (.reg [qr 6 (.mv (.k (.b false)))]) (.ret)) (.skip))) (.seq (.reg [qr 50 (.sO [(.l 1 []),(.l 1 []),(.l 1 [])] []),qr 51 (.bx 30 (.t 50)),qm 7 51]) (.seq (.sG [(53,59),(57,59),(53,62),(57,62),(53,61),(53,63),(57,61),(57,63),(52,60),(52,64),(53,60),(53,64),(57,60),(57,64),(59,8),(59,58),(60,8),(60,58),(64,8),(64,58)] [qr 52 (.dQ 0 (.t 3)),qr 53 (.ld false 1 (.t 52)),qm 54 7,qr 55 (.dQ 1 (.t 3)),qr 56 (.ld false 1 (.t 55)),qr 57 (.call 5 [(1,(.t 54)),(1,(.t 56))]),qr 58 (.sO [(.b false),(.l 1 [])] [(0,1,(.t 53)),(1,1,(.t 57))]),qr 59 (.dQ 0 (.t 4)),qr 60 (.ld false 1 (.t 59)),qm 61 7,qr 62 (.dQ 1 (.t 4)),qr 63 (.ld false 1 (.t 62)),qr 64 (.call 5 [(1,(.t 61)),(1,(.t 63))]),qr 65 (.sO [(.b false),(.l 1 [])] [(0,1,(.t 60)),(1,1,(.t 64))]),qr 8 (.al 25 [(.b false),(.l 1 [])]),qr 9 (.al 25 [(.b false),(.l 1 [])]),qn (.st 2 (.t 8) (.t 58)),qn (.st 2 (.t 9) (.t 65))]) (.seq (.reg [qm 66 2,qr 67 (.bin .and (.t 66) (.k (.i .i64 127))),qm 2 67]) (.seq (.seq (.reg [qr 10 (.mv (.k (.i .i64 0)))]) (.blk 0 (.loop (.seq (.seq (.reg [qm 68 10,qr 69 (.bin .lss (.t 68) (.k (.i .i64 2)))]) (.cond (.t 69) (.skip) (.exit 0))) (.seq (.blk 1 (.seq (.gp [qr 72 (.ld true 2 (.t 8)),qr 73 (.call 6 [(1,(.t 72))]),qr 74 (.ld true 2 (.t 9)),qr 75 (.call 6 [(1,(.t 74))]),qr 11 (.al 25 [(.b false),(.l 1 [])]),qr 12 (.al 25 [(.b false),(.l 1 [])]),qn (.st 2 (.t 11) (.t 73)),qn (.st 2 (.t 12) (.t 75))]) (.seq (.gp [qr 76 (.ld true 2 (.t 8)),qr 77 (.ld true 2 (.t 9)),qr 78 (.call 7 [(1,(.t 76)),(1,(.t 77))]),qr 79 (.ld true 2 (.t 8)),qr 80 (.ld true 2 (.t 9)),qr 81 (.call 8 [(1,(.t 79)),(1,(.t 80))]),qr 82 (.ld true 2 (.t 8)),qr 83 (.ld true 2 (.t 9)),qr 84 (.call 9 [(1,(.t 82)),(1,(.t 83))]),qr 85 (.ld true 2 (.t 8)),qr 86 (.call 10 [(1,(.t 85))]),qr 87 (.ld true 2 (.t 8)),qr 88 (.call 11 [(1,(.t 87))]),qr 89 (.ld true 2 (.t 8)),qr 90 (.sO [(.b false),(.l 1 [])] []),qr 91 (.call 7 [(1,(.t 89)),(1,(.t 90))]),qr 92 (.ld true 2 (.t 8)),qr 93 (.call 12 [(1,(.k (.i .i64 1)))]),qr 94 (.call 9 [(1,(.t 92)),(1,(.t 93))]),qr 95 (.nz 25 2 7 [(.b false),(.l 1 []),(.b false),(.l 1 []),(.b false),(.l 1 []),(.b false),(.l 1 []),(.b false),(.l 1 []),(.b false),(.l 1 []),(.b false),(.l 1 [])] [(0,(.t 78)),(1,(.t 81)),(2,(.t 84)),(3,(.t 86)),(4,(.t 88)),(5,(.t 91)),(6,(.t 94))]),qm 13 95]) (.seq (.reg [qr 97 (.ld true 2 (.t 8)),qr 98 (.ld true 2 (.t 9)),qr 99 (.call 13 [(1,(.t 97)),(1,(.t 98))]),qm 96 99,qr 100 (.ext (.t 96) 0),qr 101 (.ext (.t 96) 1),qr 102 (.ext (.t 96) 2),qr 14 (.al 25 [(.b false),(.l 1 [])]),qn (.st 2 (.t 14) (.t 100)),qm 15 101,qm 16 102]) (.seq (.reg [qr 104 (.ld true 2 (.t 8)),qr 105 (.ld true 2 (.t 9)),qr 106 (.call 14 [(1,(.t 104)),(1,(.t 105))]),qm 103 106,qr 107 (.ext (.t 103) 0),qr 108 (.ext (.t 103) 1),qr 109 (.ext (.t 103) 2),qr 17 (.al 25 [(.b false),(.l 1 [])]),qr 18 (.al 25 [(.b false),(.l 1 [])]),qn (.st 2 (.t 17) (.t 107)),qn (.st 2 (.t 18) (.t 108)),qm 19 109]) (.seq (.reg [qr 111 (.ld true 2 (.t 8)),qr 112 (.ld true 2 (.t 9)),qr 113 (.call 15 [(1,(.t 111)),(1,(.t 112))]),qm 110 113,qr 114 (.ext (.t 110) 0),qr 115 (.ext (.t 110) 1),qr 20 (.al 25 [(.b false),(.l 1 [])]),qn (.st 2 (.t 20) (.t 114)),qm 21 115]) (.seq (.gp [qr 117 (.ld true 2 (.t 8)),qr 118 (.call 12 [(1,(.k (.i .i64 1)))]),qr 119 (.call 16 [(1,(.t 117)),(1,(.t 118))]),qm 116 119,qr 120 (.ext (.t 116) 0),qr 121 (.ext (.t 116) 1),qr 22 (.al 25 [(.b false),(.l 1 [])]),qn (.st 2 (.t 22) (.t 120)),qm 23 121]) (.seq (.reg [qr 123 (.ld true 2 (.t 8)),qm 124 2,qr 125 (.call 17 [(1,(.t 123)),(1,(.t 124))]),qm 122 125,qr 126 (.ext (.t 122) 0),qr 127 (.ext (.t 122) 1),qr 24 (.al 25 [(.b false),(.l 1 [])]),qn (.st 2 (.t 24) (.t 126)),qm 25 127]) (.seq (.reg [qr 129 (.ld true 2 (.t 8)),qm 130 2,qr 131 (.call 18 [(1,(.t 129)),(1,(.t 130))]),qm 128 131,qr 132 (.ext (.t 128) 0),qr 133 (.ext (.t 128) 1),qr 26 (.al 25 [(.b false),(.l 1 [])]),qn (.st 2 (.t 26) (.t 132)),qm 27 133]) (.seq (.reg [qr 135 (.ld true 2 (.t 8)),qr 136 (.call 19 [(1,(.t 135)),(1,(.k (.i .i64 1)))]),qm 134 136,qr 137 (.ext (.t 134) 0),qr 138 (.ext (.t 134) 1),qr 28 (.al 25 [(.b false),(.l 1 [])]),qn (.st 2 (.t 28) (.t 137)),qm 29 138]) (.seq (.gp [qr 139 (.ld true 2 (.t 8)),qr 140 (.call 20 [(1,(.t 139))]),qr 141 (.dQ 1 (.t 8)),qr 142 (.ld false 1 (.t 141)),qr 143 (.call 21 [(1,(.k (.b true))),(1,(.t 142))]),qr 144 (.ld true 2 (.t 8)),qr 145 (.ld true 2 (.t 9)),qr 146 (.nz 25 2 2 [(.b false),(.l 1 []),(.b false),(.l 1 [])] [(0,(.t 144)),(1,(.t 145))]),qr 147 (.call 22 [(2,(.t 146))]),qr 148 (.ld true 2 (.t 8)),qr 149 (.nz 25 2 1 [(.b false),(.l 1 [])] [(0,(.t 148))]),qr 150 (.call 22 [(2,(.t 149))]),qr 31 (.al 25 [(.b false),(.l 1 [])]),qm 30 140,qn (.st 2 (.t 31) (.t 143)),qm 32 147,qm 33 150]) (.seq (.seq (.reg [qm 151 10,qr 152 (.bin .eql (.t 151) (.k (.i .i64 0))),qm 153 152,⟨some 154,some (153,true),.mv (.t 7)⟩,⟨some 155,some (153,true),.call 23 [(1,(.t 154))]⟩,⟨some 156,some (153,true),.un .not (.t 155)⟩,qr 157 (.pick (.t 153) (.t 156) (.k (.b false)))]) (.cond (.t 157) (.seq (.reg [qr 6 (.mv (.k (.b false)))]) (.ret)) (.skip))) (.seq (.gp [qr 158 (.ld true 2 (.t 11)),qr 159 (.ld true 2 (.t 12)),qr 160 (.call 24 [(1,(.t 158)),(1,(.t 159))]),qr 161 (.ld true 2 (.t 11)),qr 162 (.ld true 2 (.t 12)),qr 163 (.call 25 [(1,(.t 161)),(1,(.t 162))]),qr 164 (.ld true 2 (.t 11)),qr 165 (.ld true 2 (.t 12)),qr 166 (.call 26 [(1,(.t 164)),(1,(.t 165))]),qr 167 (.ld true 2 (.t 11)),qr 168 (.call 27 [(1,(.t 167))]),qr 169 (.ld true 2 (.t 11)),qr 170 (.ld true 2 (.t 11)),qr 171 (.ld true 2 (.t 11)),qr 172 (.nz 25 2 7 [(.b false),(.l 1 []),(.b false),(.l 1 []),(.b false),(.l 1 []),(.b false),(.l 1 []),(.b false),(.l 1 []),(.b false),(.l 1 []),(.b false),(.l 1 [])] [(0,(.t 160)),(1,(.t 163)),(2,(.t 166)),(3,(.t 168)),(4,(.t 169)),(5,(.t 170)),(6,(.t 171))]),qm 34 172]) (.seq (.seq (.reg [qr 35 (.mv (.k (.i .i64 0)))]) (.blk 2 (.loop (.seq (.seq (.reg [qm 173 35,qm 174 34,qr 175 (.len (.t 174)),qr 176 (.bin .lss (.t 173) (.t 175))]) (.cond (.t 176) (.skip) (.exit 2))) (.seq (.blk 3 (.seq (.seq (.gp [qm 179 13,qm 180 35,qr 181 (.idx 2 (.t 179) (.t 180)),qr 182 (.ld true 2 (.t 181)),qm 183 34,qm 184 35,qr 185 (.idx 2 (.t 183) (.t 184)),qr 186 (.ld true 2 (.t 185)),qr 187 (.call 28 [(1,(.t 182)),(1,(.t 186))]),qr 188 (.un .not (.t 187))]) (.cond (.t 188) (.seq (.reg [qr 6 (.mv (.k (.b false)))]) (.ret)) (.skip))) (.reg [qm 189 7,qm 190 13,qm 191 35,qr 192 (.idx 2 (.t 190) (.t 191)),qr 193 (.dQ 1 (.t 192)),qr 194 (.ld false 1 (.t 193)),qr 195 (.nz 23 1 1 [(.l 1 [])] [(0,(.t 194))]),qr 196 (.call 29 [(1,(.t 189)),(1,(.t 195))])]))) (.reg [qm 177 35,qr 178 (.bin .add (.t 177) (.k (.i .i64 1))),qm 35 178])))))) (.seq (.reg [qr 198 (.ld true 2 (.t 11)),qr 199 (.ld true 2 (.t 12)),qr 200 (.call 30 [(1,(.t 198)),(1,(.t 199))]),qm 197 200,qr 201 (.ext (.t 197) 0),qr 202 (.ext (.t 197) 1),qr 203 (.ext (.t 197) 2),qr 36 (.al 25 [(.b false),(.l 1 [])]),qn (.st 2 (.t 36) (.t 201)),qm 37 202,qm 38 203]) (.seq (.reg [qr 205 (.ld true 2 (.t 11)),qr 206 (.ld true 2 (.t 12)),qr 207 (.call 31 [(1,(.t 205)),(1,(.t 206))]),qm 204 207,qr 208 (.ext (.t 204) 0),qr 209 (.ext (.t 204) 1),qr 210 (.ext (.t 204) 2),qr 39 (.al 25 [(.b false),(.l 1 [])]),qr 40 (.al 25 [(.b false),(.l 1 [])]),qn (.st 2 (.t 39) (.t 208)),qn (.st 2 (.t 40) (.t 209)),qm 41 210]) (.seq (.reg [qr 212 (.ld true 2 (.t 11)),qr 213 (.ld true 2 (.t 12)),qr 214 (.call 32 [(1,(.t 212)),(1,(.t 213))]),qm 211 214,qr 215 (.ext (.t 211) 0),qr 216 (.ext (.t 211) 1),qr 42 (.al 25 [(.b false),(.l 1 [])]),qn (.st 2 (.t 42) (.t 215)),qm 43 216]) (.seq (.reg [qr 218 (.ld true 2 (.t 11)),qm 219 2,qr 220 (.call 33 [(1,(.t 218)),(1,(.t 219))]),qm 217 220,qr 221 (.ext (.t 217) 0),qr 222 (.ext (.t 217) 1),qr 44 (.al 25 [(.b false),(.l 1 [])]),qn (.st 2 (.t 44) (.t 221)),qm 45 222]) (.seq (.reg [qr 224 (.ld true 2 (.t 11)),qm 225 2,qr 226 (.call 34 [(1,(.t 224)),(1,(.t 225))]),qm 223 226,qr 227 (.ext (.t 223) 0),qr 228 (.ext (.t 223) 1),qr 46 (.al 25 [(.b false),(.l 1 [])]),qn (.st 2 (.t 46) (.t 227)),qm 47 228]) (.seq (.seq (.gp [qr 229 (.ld true 2 (.t 14)),qr 230 (.ld true 2 (.t 36)),qr 231 (.call 28 [(1,(.t 229)),(1,(.t 230))]),qr 232 (.un .not (.t 231)),qm 233 232,⟨some 234,some (233,false),.mv (.t 15)⟩,⟨some 235,some (233,false),.mv (.t 37)⟩,⟨some 236,some (233,false),.call 35 [(1,(.t 234)),(1,(.t 235))]⟩,⟨some 237,some (233,false),.un .not (.t 236)⟩,qr 238 (.pick (.t 233) (.k (.b true)) (.t 237)),qm 239 238,⟨some 240,some (239,false),.mv (.t 16)⟩,⟨some 241,some (239,false),.mv (.t 38)⟩,⟨some 242,some (239,false),.bin .neq (.t 240) (.t 241)⟩,qr 243 (.pick (.t 239) (.k (.b true)) (.t 242)),qm 244 243,⟨some 245,some (244,false),.mv (.t 19)⟩,⟨some 246,some (244,false),.mv (.t 38)⟩,⟨some 247,some (244,false),.bin .neq (.t 245) (.t 246)⟩,qr 248 (.pick (.t 244) (.k (.b true)) (.t 247)),qm 249 248,⟨some 250,some (249,false),.ld true 2 (.t 17)⟩,⟨some 251,some (249,false),.ld true 2 (.t 39)⟩,⟨some 252,some (249,false),.call 28 [(1,(.t 250)),(1,(.t 251))]⟩,⟨some 253,some (249,false),.un .not (.t 252)⟩,qr 254 (.pick (.t 249) (.k (.b true)) (.t 253)),qm 255 254,⟨some 256,some (255,false),.ld true 2 (.t 18)⟩,⟨some 257,some (255,false),.ld true 2 (.t 40)⟩,⟨some 258,some (255,false),.call 28 [(1,(.t 256)),(1,(.t 257))]⟩,⟨some 259,some (255,false),.un .not (.t 258)⟩,qr 260 (.pick (.t 255) (.k (.b true)) (.t 259)),qm 261 260,⟨some 262,some (261,false),.ld true 2 (.t 20)⟩,⟨some 263,some (261,false),.ld true 2 (.t 42)⟩,⟨some 264,some (261,false),.call 28 [(1,(.t 262)),(1,(.t 263))]⟩,⟨some 265,some (261,false),.un .not (.t 264)⟩,qr 266 (.pick (.t 261) (.k (.b true)) (.t 265)),qm 267 266,⟨some 268,some (267,false),.ld true 2 (.t 22)⟩,⟨some 269,some (267,false),.ld true 2 (.t 11)⟩,⟨some 270,some (267,false),.call 28 [(1,(.t 268)),(1,(.t 269))]⟩,⟨some 271,some (267,false),.un .not (.t 270)⟩,qr 272 (.pick (.t 267) (.k (.b true)) (.t 271)),qm 273 272,⟨some 274,some (273,false),.ld true 2 (.t 24)⟩,⟨some 275,some (273,false),.ld true 2 (.t 44)⟩,⟨some 276,some (273,false),.call 28 [(1,(.t 274)),(1,(.t 275))]⟩,⟨some 277,some (273,false),.un .not (.t 276)⟩,qr 278 (.pick (.t 273) (.k (.b true)) (.t 277)),qm 279 278,⟨some 280,some (279,false),.ld true 2 (.t 26)⟩,⟨some 281,some (279,false),.ld true 2 (.t 46)⟩,⟨some 282,some (279,false),.call 28 [(1,(.t 280)),(1,(.t 281))]⟩,⟨some 283,some (279,false),.un .not (.t 282)⟩,qr 284 (.pick (.t 279) (.k (.b true)) (.t 283)),qm 285 284,⟨some 286,some (285,false),.ld true 2 (.t 28)⟩,⟨some 287,some (285,false),.ld true 2 (.t 11)⟩,⟨some 288,some (285,false),.call 28 [(1,(.t 286)),(1,(.t 287))]⟩,⟨some 289,some (285,false),.un .not (.t 288)⟩,qr 290 (.pick (.t 285) (.k (.b true)) (.t 289)),qm 291 290,⟨some 292,some (291,false),.mv (.t 30)⟩,⟨some 293,some (291,false),.dQ 1 (.t 11)⟩,⟨some 294,some (291,false),.ld false 1 (.t 293)⟩,⟨some 295,some (291,false),.call 35 [(1,(.t 292)),(1,(.t 294))]⟩,⟨some 296,some (291,false),.un .not (.t 295)⟩,qr 297 (.pick (.t 291) (.k (.b true)) (.t 296)),qm 298 297,⟨some 299,some (298,false),.ld true 2 (.t 31)⟩,⟨some 300,some (298,false),.dQ 1 (.t 11)⟩,⟨some 301,some (298,false),.ld false 1 (.t 300)⟩,⟨some 302,some (298,false),.call 36 [(1,(.k (.b true))),(1,(.t 301))]⟩,⟨some 303,some (298,false),.call 28 [(1,(.t 299)),(1,(.t 302))]⟩,⟨some 304,some (298,false),.un .not (.t 303)⟩,qr 305 (.pick (.t 298) (.k (.b true)) (.t 304)),qm 306 305,⟨some 307,some (306,false),.mv (.t 32)⟩,⟨some 308,some (306,false),.ld true 2 (.t 11)⟩,⟨some 309,some (306,false),.ld true 2 (.t 12)⟩,⟨some 310,some (306,false),.nz 25 2 2 [(.b false),(.l 1 []),(.b false),(.l 1 [])] [(0,(.t 308)),(1,(.t 309))]⟩,⟨some 311,some (306,false),.call 37 [(2,(.t 310))]⟩,⟨some 312,some (306,false),.call 35 [(1,(.t 307)),(1,(.t 311))]⟩,⟨some 313,some (306,false),.un .not (.t 312)⟩,qr 314 (.pick (.t 306) (.k (.b true)) (.t 313)),qm 315 314,⟨some 316,some (315,false),.mv (.t 33)⟩,⟨some 317,some (315,false),.dQ 1 (.t 11)⟩,⟨some 318,some (315,false),.ld false 1 (.t 317)⟩,⟨some 319,some (315,false),.call 35 [(1,(.t 316)),(1,(.t 318))]⟩,⟨some 320,some (315,false),.un .not (.t 319)⟩,qr 321 (.pick (.t 315) (.k (.b true)) (.t 320))]) (.cond (.t 321) (.seq (.reg [qr 6 (.mv (.k (.b false)))]) (.ret)) (.skip))) (.seq (.reg [qm 322 7,qr 323 (.dQ 1 (.t 14)),qr 324 (.ld false 1 (.t 323)),qm 325 15,qr 326 (.dQ 1 (.t 17)),qr 327 (.ld false 1 (.t 326)),qr 328 (.dQ 1 (.t 18)),qr 329 (.ld false 1 (.t 328)),qr 330 (.dQ 1 (.t 20)),qr 331 (.ld false 1 (.t 330)),qr 332 (.dQ 1 (.t 22)),qr 333 (.ld false 1 (.t 332)),qr 334 (.dQ 1 (.t 24)),qr 335 (.ld false 1 (.t 334)),qr 336 (.dQ 1 (.t 26)),qr 337 (.ld false 1 (.t 336)),qr 338 (.dQ 1 (.t 28)),qr 339 (.ld false 1 (.t 338)),qm 340 30,qr 341 (.dQ 1 (.t 31)),qr 342 (.ld false 1 (.t 341)),qm 343 32,qm 344 33,qr 345 (.nz 23 1 13 [(.l 1 []),(.l 1 []),(.l 1 []),(.l 1 []),(.l 1 []),(.l 1 []),(.l 1 []),(.l 1 []),(.l 1 []),(.l 1 []),(.l 1 []),(.l 1 []),(.l 1 [])] [(0,(.t 324)),(1,(.t 325)),(2,(.t 327)),(3,(.t 329)),(4,(.t 331)),(5,(.t 333)),(6,(.t 335)),(7,(.t 337)),(8,(.t 339)),(9,(.t 340)),(10,(.t 342)),(11,(.t 343)),(12,(.t 344))]),qr 346 (.call 29 [(1,(.t 322)),(1,(.t 345))])]) (.seq (.reg [qm 347 10,qr 348 (.bin .eql (.t 347) (.k (.i .i64 0)))]) (.cond (.t 348) (.reg [qm 349 7,qr 350 (.call 38 [(1,(.t 349))])]) (.skip)))))))))))))))))))))))) (.reg [qm 70 10,qr 71 (.bin .add (.t 70) (.k (.i .i64 1))),qm 10 71])))))) (.seq (.reg [qm 351 7,qr 352 (.call 39 [(1,(.t 351))]),qm 6 352]) (.ret)))))))
def aZ(A:AC):AC:=abk (alp (abk ((xX 5 A).p1.p2))).p2.p1
def jQ(z:Int):V:= .ip [.b (decide (z<0)),.l 1 (W (dg B z.natAbs))] 0
theorem ML(X Y D Q R Fl U S M:Int)(Dr G G1 AX:List Nat)(n e:Int)(lDr:Dr.length≤9223372036854775807)(lG:G.length≤9223372036854775807)(lA:AX.length≤9223372036854775807)(hA:AX=dg B X.natAbs)(hG1:G1=AX)
 (c1:aF Tryz.prog J0 30 [zN X,zN Y] (.t [zN D,.l 1 (W Dr),.i .i64 e])) (c2:aF Tryz.prog J0 31 [zN X,zN Y] (.t [zN Q,zN R,.i .i64 e])) (c3:aF Tryz.prog J0 32 [zN X,zN Y] (.t [zN Fl,.i .i64 e])) (c4:aF Tryz.prog J0 33 [zN X,.i .i64 n] (.t [zN U,.i .i64 0])) (c5:aF Tryz.prog J0 34 [zN X,.i .i64 n] (.t [zN S,.i .i64 0]))
 (c6:aF Tryz.prog J0 36 [.b true,.l 1 (W AX)] (zN M)) (c7:aF Tryz.prog J0 37 [.l 2 [.b (decide (X<0)),.l 1 (W AX),.b (decide (Y<0)),.l 1 (W (dg B Y.natAbs))]] (.l 1 (W G)))
 (sD:aF Tryz.prog J0 28 [zN D,zN D] (.b true)) (sQ:aF Tryz.prog J0 28 [zN Q,zN Q] (.b true)) (sR:aF Tryz.prog J0 28 [zN R,zN R] (.b true)) (sF:aF Tryz.prog J0 28 [zN Fl,zN Fl] (.b true)) (sX:aF Tryz.prog J0 28 [zN X,zN X] (.b true)) (sU:aF Tryz.prog J0 28 [zN U,zN U] (.b true)) (sS:aF Tryz.prog J0 28 [zN S,zN S] (.b true)) (sM:aF Tryz.prog J0 28 [zN M,zN M] (.b true)):
 qi (aF Tryz.prog J0) (ik Tryz.prog) ((xX 13 (aZ a3)).p1.seq ((xX 14 (aZ a3)).p1.seq ((xX 15 (aZ a3)).p1.seq ((xX 16 (aZ a3)).p1.seq ((xX 17 (aZ a3)).p1.seq (xX 18 (aZ a3)).p1))))) (fun ex s=>ex= .normal∧True)
  ⟨[(2,.i .i64 n),(11,jQ X),(12,jQ Y),(14,jQ D),(15,.l 1 (W Dr)),(16,.i .i64 e),(17,jQ Q),(18,jQ R),(19,.i .i64 e),(20,jQ Fl),(22,jQ X),(24,jQ U),(26,jQ S),(28,jQ X),(30,.l 1 (W AX)),(31,jQ M),(32,.l 1 (W G)),(33,.l 1 (W G1))],[],0⟩:=by
 have tD:=S_ Dr Dr lDr rfl
 have tG:=S_ G G lG rfl
 have tA:=S_ AX AX lA rfl
 subst hG1
 rw[hA]at c6 c7 tA ⊢
 clear hA lA
 apply fE
 unfold aZ a3 jQ
 simp only[ak,aH,qm,qr,qn,AC.p1,AC.p2,xX,abk,alp]
 have MM:=c1
 have zc2:=c2
 have zc3:=c3
 have zc4:=c4
 have zc5:=c5
 have zc6:=sD
 have zc7:=sQ
 have zc8:=sR
 have zc9:=sF
 have zc10:=sX
 have zc11:=sU
 have zc12:=sS
 have zc13:=c6
 have zc14:=sM
 have zc15:=c7
 refine tu (ai @aW @SY) ?_
 exact⟨trivial,trivial⟩
