import Derived.Laws.ResultCell
import Derived.Test.YtoehbmlfnjlchaaGreatDoorU18
import Derived.Test.YtoehbmlfnjlchaaGreatDoorU17
set_option linter.all false
set_option maxHeartbeats 10000000
set_option maxRecDepth 2000000
namespace Go.Proofs.YtoehbmlfnjlchaaGreatDoor
open Go Go.RowKit Go.Proofs Ab
section
variable {a:Act}{w:World}{R:Exit→Act→World→Prop}
theorem ng0{s:Bool}{xa:Option Addr}{xn xc:Nat}(hz:a.tmps.size=10)(h0:a.tmps.getD 0 undef= .agg #[.bool s,.slice xa xn xc])
 (kk:∀(a':Act),a'.tmps.size=10→(∀t,t<3→t≠1→t≠2→a'.tmps.getD t undef=a.tmps.getD t undef)→a'.tmps.getD 1 undef= .pointer (some ⟨w.heap.size,0,none⟩)→a'.tmps.getD 2 undef= .pointer (some ⟨w.heap.size+1,0,none⟩)→a'.defers=a.defers→R .normal a' (FD w s (.slice xa xn xc))):(q1 (qf Tryz.f10)).wp Tryz.prog R a w:=by
 replace kk:=pu kk
 refine rl fun gA=>?_
 go_wp2
 exact kk.down _ gZ gN gS gS rfl
def XO(w0:World)(s:Bool)(x:Value)(A:List Nat)(qx:Nat):Nat→Value→World→Prop
 |0,v,_=>v= .pointer (some ⟨qx,0,none⟩)
 |1,v,_=>v= .bool s
 |2,v,_=>v= .bool (!s)
 |3,v,_=>v= .pointer (some ⟨qx,1,none⟩)
 |4,v,_=>v=x
 |5,v,w=>Own w0 A v w
 |6,v,w=>dA w0 (!s&&decide (0<A.length)) A v w
 |_,_,_=>False
theorem ng1{s:Bool}{x:Value}{qx qr:Nat}{A:List Nat}{old:Array Value}(hz:a.tmps.size=10)(h1:a.tmps.getD 1 undef= .pointer (some ⟨qx,0,none⟩))(h2:a.tmps.getD 2 undef= .pointer (some ⟨qr,0,none⟩))(gX:qx<w.heap.size)(nP:qr<w.heap.size)(c0:w.cell? ⟨qx,0,none⟩=some (.bool s))(c1:w.cell? ⟨qx,1,none⟩=some (x))
 (hbox:w.heap[qr]? =some (.cells old 25 (0,0))) (hb2:old.size=2) (cN:∀w1,Below w.heap.size w w1→Calls Tryz.prog 44 #[x] w1 (kX w1 A))
 (kk:∀(a':Act) (w':World) (u:Value),a'.tmps.size=10→a'.tmps.getD 2 undef= .pointer (some ⟨qr,0,none⟩)→a'.defers=a.defers→aY w (fun k=>k=qr) w'→w'.heap[qr]? =some (.cells #[.bool (!s&&decide (0<A.length)),u] 25 (0,0))→Own w A u w'→R .normal a' w'):(q1 (qd 1 (qf Tryz.f10))).wp Tryz.prog R a w:=by
 refine fA (n:=7) (N:=10) (XO w s x A qx) (fun _ _=>none) dB (by kernel_rfl) hz (by kernel_rfl) (fun i v w1 w2 hi h hb=>?_) (fun i v w1 q hi h hq=>?_) (fun i o a1 w1 hi ho hsz hB hold aG K hK=>?_) (fun a1 w1 hsz hdf hB hold hval hsep=>?_)
 ·match i,hi with
  |0,_|1,_|2,_|3,_|4,_=>exact h
  |5,_=>exact Own.up h hb
  |6,_=>exact dA.up h hb
 ·cases hq
 ·match i,hi,ho with
  |0,_,ho=>
   obtain rfl:=Option.some.inj ho;have g1:=(hold 1 (aj gK)).trans h1;exact oT
  |1,_,ho=>
   obtain rfl:=Option.some.inj ho;have e0:a1.tmps.getD 3 undef= .pointer (some ⟨qx,0,none⟩):=aG ⟨0,.data⟩ gM rfl;have x0:=(af (i:=0) (hB.block qx gX)).trans c0;have x1:=(af (i:=1) (hB.block qx gX)).trans c1;exact oT
  |2,_,ho=>
   obtain rfl:=Option.some.inj ho;have e1:a1.tmps.getD 4 undef= .bool s:=aG ⟨1,.data⟩ gM rfl;exact oT
  |3,_,ho=>
   obtain rfl:=Option.some.inj ho;have g1:=(hold 1 (aj gK)).trans h1;exact oT
  |4,_,ho=>
   obtain rfl:=Option.some.inj ho;have e3:a1.tmps.getD 6 undef= .pointer (some ⟨qx,1,none⟩):=aG ⟨3,.data⟩ gM rfl;have x0:=(af (i:=0) (hB.block qx gX)).trans c0;have x1:=(af (i:=1) (hB.block qx gX)).trans c1;exact oT
  |5,_,ho=>
   obtain rfl:=Option.some.inj ho;have e4:a1.tmps.getD 7 undef=x:=aG ⟨4,.data⟩ gM rfl;have hc:=cN w1 hB;have hs:=hB.size;replace hK:=pu hK;go_tidy;have gA:=gJ a1;go_simp;refine hc.mono ?_;rintro e w2 ⟨u,m,rfl,b,o,hm⟩;exact hK.down u w2 ⟨m,hm,dC o hs⟩ b (fun q h=>by cases h)
  |6,_,ho=>
   obtain rfl:=Option.some.inj ho;have e2:a1.tmps.getD 5 undef= .bool (!s):=aG ⟨2,.data⟩ gM rfl;have e5:XO w s x A qx 5 (a1.tmps.getD 8 undef) w1:=aG ⟨5,.data⟩ gM rfl;obtain⟨m,hm,ho'⟩:=e5;obtain⟨ua,uc,eu⟩:=aB ho';have g8:=gI hsz eu dc;rw[eu]at ho';have hc:=wO (s:=!s) (w0:=w) (A:=A) ⟨m,hm,ho'⟩;replace hK:=pu hK;go_tidy;have gA:=gJ a1;go_simp;refine hc.mono ?_;rintro e w2 ⟨v,rfl,b,hv⟩;exact hK.down v w2 hv b (fun q h=>by cases h)
 ·have eR:dA w (!s&&decide (0<A.length)) A (a1.tmps.getD 9 undef) w1:=hval 6 dc;obtain⟨u,eu,hu⟩:=eR;have eP:=(hold 2 (aj (by kernel_rfl))).trans h2;have hb':=(hB.block qr nP).trans hbox;have hst:=dO (x:= .bool (!s&&decide (0<A.length))) (y:=u) hb' hb2;refine wpList_store_row rfl 25 (.tmp 2) (.tmp 9) rfl qr #[.bool (!s&&decide (0<A.length)),u] eP eu 25 old hb' (by kernel_rfl) hb2 ?_ ?_
  ·obtain⟨m,_,ho⟩:=hu;obtain⟨ua,uc,rfl⟩:=aB ho;exact aN _ _ _ _
  ·refine kk _ _ u hsz eP hdf ?_ hst.2 (hu.st hb');exact⟨hst.1.os.trans hB.os,hst.1.tape.trans hB.tape,hst.1.output.trans hB.output,by have:=hB.size;have:=hst.1.size;omega,fun k hk hne=>(hst.1.block k (by have:=hB.size;omega) hne).trans (hB.block k hk)⟩
theorem nm0{s:Bool}{xa:Option Addr}{xn xc:Nat}(hz:a.tmps.size=9)(h0:a.tmps.getD 0 undef= .agg #[.bool s,.slice xa xn xc])
 (kk:∀(a':Act),a'.tmps.size=9→(∀t,t<3→t≠1→t≠2→a'.tmps.getD t undef=a.tmps.getD t undef)→a'.tmps.getD 1 undef= .pointer (some ⟨w.heap.size,0,none⟩)→a'.tmps.getD 2 undef= .pointer (some ⟨w.heap.size+1,0,none⟩)→a'.defers=a.defers→R .normal a' (FD w s (.slice xa xn xc))):(q1 (qf Tryz.f11)).wp Tryz.prog R a w:=by
 replace kk:=pu kk
 refine rl fun gA=>?_
 go_wp2
 exact kk.down _ gZ gN gS gS rfl
def XP(w0:World)(s:Bool)(x:Value)(A:List Nat)(qx:Nat):Nat→Value→World→Prop
 |0,v,_=>v= .pointer (some ⟨qx,0,none⟩)
 |1,v,_=>v= .bool s
 |2,v,_=>v= .pointer (some ⟨qx,1,none⟩)
 |3,v,_=>v=x
 |4,v,w=>Own w0 A v w
 |5,v,w=>dA w0 (s&&decide (0<A.length)) A v w
 |_,_,_=>False
theorem nm1{s:Bool}{x:Value}{qx qr:Nat}{A:List Nat}{old:Array Value}(hz:a.tmps.size=9)(h1:a.tmps.getD 1 undef= .pointer (some ⟨qx,0,none⟩))(h2:a.tmps.getD 2 undef= .pointer (some ⟨qr,0,none⟩))(gX:qx<w.heap.size)(nP:qr<w.heap.size)(c0:w.cell? ⟨qx,0,none⟩=some (.bool s))(c1:w.cell? ⟨qx,1,none⟩=some (x))
 (hbox:w.heap[qr]? =some (.cells old 25 (0,0))) (hb2:old.size=2) (cN:∀w1,Below w.heap.size w w1→Calls Tryz.prog 44 #[x] w1 (kX w1 A))
 (kk:∀(a':Act) (w':World) (u:Value),a'.tmps.size=9→a'.tmps.getD 2 undef= .pointer (some ⟨qr,0,none⟩)→a'.defers=a.defers→aY w (fun k=>k=qr) w'→w'.heap[qr]? =some (.cells #[.bool (s&&decide (0<A.length)),u] 25 (0,0))→Own w A u w'→R .normal a' w'):(q1 (qd 1 (qf Tryz.f11))).wp Tryz.prog R a w:=by
 refine fA (n:=6) (N:=9) (XP w s x A qx) (fun _ _=>none) dB (by kernel_rfl) hz (by kernel_rfl) (fun i v w1 w2 hi h hb=>?_) (fun i v w1 q hi h hq=>?_) (fun i o a1 w1 hi ho hsz hB hold aG K hK=>?_) (fun a1 w1 hsz hdf hB hold hval hsep=>?_)
 ·match i,hi with
  |0,_|1,_|2,_|3,_=>exact h
  |4,_=>exact Own.up h hb
  |5,_=>exact dA.up h hb
 ·cases hq
 ·match i,hi,ho with
  |0,_,ho=>
   obtain rfl:=Option.some.inj ho;have g1:=(hold 1 (aj gK)).trans h1;exact oT
  |1,_,ho=>
   obtain rfl:=Option.some.inj ho;have e0:a1.tmps.getD 3 undef= .pointer (some ⟨qx,0,none⟩):=aG ⟨0,.data⟩ gM rfl;have x0:=(af (i:=0) (hB.block qx gX)).trans c0;have x1:=(af (i:=1) (hB.block qx gX)).trans c1;exact oT
  |2,_,ho=>
   obtain rfl:=Option.some.inj ho;have g1:=(hold 1 (aj gK)).trans h1;exact oT
  |3,_,ho=>
   obtain rfl:=Option.some.inj ho;have e2:a1.tmps.getD 5 undef= .pointer (some ⟨qx,1,none⟩):=aG ⟨2,.data⟩ gM rfl;have x0:=(af (i:=0) (hB.block qx gX)).trans c0;have x1:=(af (i:=1) (hB.block qx gX)).trans c1;exact oT
  |4,_,ho=>
   obtain rfl:=Option.some.inj ho;have e3:a1.tmps.getD 6 undef=x:=aG ⟨3,.data⟩ gM rfl;have hc:=cN w1 hB;have hs:=hB.size;replace hK:=pu hK;go_tidy;have gA:=gJ a1;go_simp;refine hc.mono ?_;rintro e w2 ⟨u,m,rfl,b,o,hm⟩;exact hK.down u w2 ⟨m,hm,dC o hs⟩ b (fun q h=>by cases h)
  |5,_,ho=>
   obtain rfl:=Option.some.inj ho;have e1:a1.tmps.getD 4 undef= .bool s:=aG ⟨1,.data⟩ gM rfl;have e4:XP w s x A qx 4 (a1.tmps.getD 7 undef) w1:=aG ⟨4,.data⟩ gM rfl;obtain⟨m,hm,ho'⟩:=e4;obtain⟨ua,uc,eu⟩:=aB ho';have g7:=gI hsz eu dc;rw[eu]at ho';have hc:=wO (s:=s) (w0:=w) (A:=A) ⟨m,hm,ho'⟩;replace hK:=pu hK;go_tidy;have gA:=gJ a1;go_simp;refine hc.mono ?_;rintro e w2 ⟨v,rfl,b,hv⟩;exact hK.down v w2 hv b (fun q h=>by cases h)
 ·have eR:dA w (s&&decide (0<A.length)) A (a1.tmps.getD 8 undef) w1:=hval 5 dc;obtain⟨u,eu,hu⟩:=eR;have eP:=(hold 2 (aj (by kernel_rfl))).trans h2;have hb':=(hB.block qr nP).trans hbox;have hst:=dO (x:= .bool (s&&decide (0<A.length))) (y:=u) hb' hb2;refine wpList_store_row rfl 25 (.tmp 2) (.tmp 8) rfl qr #[.bool (s&&decide (0<A.length)),u] eP eu 25 old hb' (by kernel_rfl) hb2 ?_ ?_
  ·obtain⟨m,_,ho⟩:=hu;obtain⟨ua,uc,rfl⟩:=aB ho;exact aN _ _ _ _
  ·refine kk _ _ u hsz eP hdf ?_ hst.2 (hu.st hb');exact⟨hst.1.os.trans hB.os,hst.1.tape.trans hB.tape,hst.1.output.trans hB.output,by have:=hB.size;have:=hst.1.size;omega,fun k hk hne=>(hst.1.block k (by have:=hB.size;omega) hne).trans (hB.block k hk)⟩
theorem ml0{s:Bool}{xa:Option Addr}{xn xc:Nat}{t:Bool}{ya:Option Addr}{yn yc:Nat}(hz:a.tmps.size=16)(h0:a.tmps.getD 0 undef= .agg #[.bool s,.slice xa xn xc])(h1:a.tmps.getD 1 undef= .agg #[.bool t,.slice ya yn yc])
 (kk:∀(a':Act),a'.tmps.size=16→(∀t,t<5→t≠2→t≠3→t≠4→a'.tmps.getD t undef=a.tmps.getD t undef)→a'.tmps.getD 2 undef= .pointer (some ⟨w.heap.size,0,none⟩)→a'.tmps.getD 3 undef= .pointer (some ⟨w.heap.size+1,0,none⟩)→a'.tmps.getD 4 undef= .pointer (some ⟨w.heap.size+2,0,none⟩)→a'.defers=a.defers→R .normal a' (qo w s (.slice xa xn xc) t (.slice ya yn yc))):(q1 (qf Tryz.f9)).wp Tryz.prog R a w:=by
 replace kk:=pu kk
 refine rl fun gA=>?_
 go_wp2
 exact kk.down _ gZ gN gS gS gS rfl
def XQ(w0:World)(s:Bool)(x:Value)(t:Bool)(y:Value)(A:List Nat)(qx qy:Nat):Nat→Value→World→Prop
 |0,v,_=>v= .pointer (some ⟨qx,0,none⟩)
 |1,v,_=>v= .bool s
 |2,v,_=>v= .pointer (some ⟨qy,0,none⟩)
 |3,v,_=>v= .bool t
 |4,v,_=>v= .bool (s != t)
 |5,v,_=>v= .pointer (some ⟨qx,1,none⟩)
 |6,v,_=>v=x
 |7,v,_=>v= .pointer (some ⟨qy,1,none⟩)
 |8,v,_=>v=y
 |9,v,w=>Own w0 A v w
 |10,v,w=>dA w0 ((s != t)&&decide (0<A.length)) A v w
 |_,_,_=>False
theorem ml1{s t:Bool}{x y:Value}{qx qy qr:Nat}{A:List Nat}{old:Array Value}(hz:a.tmps.size=16)(h2:a.tmps.getD 2 undef= .pointer (some ⟨qx,0,none⟩))(h3:a.tmps.getD 3 undef= .pointer (some ⟨qy,0,none⟩))(h4:a.tmps.getD 4 undef= .pointer (some ⟨qr,0,none⟩))(gX:qx<w.heap.size)(lW:qy<w.heap.size)(nP:qr<w.heap.size)(c0:w.cell? ⟨qx,0,none⟩=some (.bool s))(c1:w.cell? ⟨qx,1,none⟩=some (x))(c2:w.cell? ⟨qy,0,none⟩=some (.bool t))(c3:w.cell? ⟨qy,1,none⟩=some (y))
 (hbox:w.heap[qr]? =some (.cells old 25 (0,0))) (hb2:old.size=2) (cN:∀w1,Below w.heap.size w w1→Calls Tryz.prog 43 #[x,y] w1 (kX w1 A))
 (kk:∀(a':Act) (w':World) (u:Value),a'.tmps.size=16→a'.tmps.getD 4 undef= .pointer (some ⟨qr,0,none⟩)→a'.defers=a.defers→aY w (fun k=>k=qr) w'→w'.heap[qr]? =some (.cells #[.bool ((s != t)&&decide (0<A.length)),u] 25 (0,0))→Own w A u w'→R .normal a' w'):(q1 (qd 1 (qf Tryz.f9))).wp Tryz.prog R a w:=by
 refine fA (n:=11) (N:=16) (XQ w s x t y A qx qy) (fun _ _=>none) dB (by kernel_rfl) hz (by kernel_rfl) (fun i v w1 w2 hi h hb=>?_) (fun i v w1 q hi h hq=>?_) (fun i o a1 w1 hi ho hsz hB hold aG K hK=>?_) (fun a1 w1 hsz hdf hB hold hval hsep=>?_)
 ·match i,hi with
  |0,_|1,_|2,_|3,_|4,_|5,_|6,_|7,_|8,_=>exact h
  |9,_=>exact Own.up h hb
  |10,_=>exact dA.up h hb
 ·cases hq
 ·match i,hi,ho with
  |0,_,ho=>
   obtain rfl:=Option.some.inj ho;have g2:=(hold 2 (aj gK)).trans h2;exact oT
  |1,_,ho=>
   obtain rfl:=Option.some.inj ho;have e0:a1.tmps.getD 5 undef= .pointer (some ⟨qx,0,none⟩):=aG ⟨0,.data⟩ gM rfl;have x0:=(af (i:=0) (hB.block qx gX)).trans c0;have x1:=(af (i:=1) (hB.block qx gX)).trans c1;exact oT
  |2,_,ho=>
   obtain rfl:=Option.some.inj ho;have g3:=(hold 3 (aj gK)).trans h3;exact oT
  |3,_,ho=>
   obtain rfl:=Option.some.inj ho;have e2:a1.tmps.getD 7 undef= .pointer (some ⟨qy,0,none⟩):=aG ⟨2,.data⟩ gM rfl;have x2:=(af (i:=0) (hB.block qy lW)).trans c2;have x3:=(af (i:=1) (hB.block qy lW)).trans c3;exact oT
  |4,_,ho=>
   obtain rfl:=Option.some.inj ho;have e1:a1.tmps.getD 6 undef= .bool s:=aG ⟨1,.data⟩ gM rfl;have e3:a1.tmps.getD 8 undef= .bool t:=aG ⟨3,.data⟩ gM rfl;exact oT
  |5,_,ho=>
   obtain rfl:=Option.some.inj ho;have g2:=(hold 2 (aj gK)).trans h2;exact oT
  |6,_,ho=>
   obtain rfl:=Option.some.inj ho;have e5:a1.tmps.getD 10 undef= .pointer (some ⟨qx,1,none⟩):=aG ⟨5,.data⟩ gM rfl;have x0:=(af (i:=0) (hB.block qx gX)).trans c0;have x1:=(af (i:=1) (hB.block qx gX)).trans c1;exact oT
  |7,_,ho=>
   obtain rfl:=Option.some.inj ho;have g3:=(hold 3 (aj gK)).trans h3;exact oT
  |8,_,ho=>
   obtain rfl:=Option.some.inj ho;have e7:a1.tmps.getD 12 undef= .pointer (some ⟨qy,1,none⟩):=aG ⟨7,.data⟩ gM rfl;have x2:=(af (i:=0) (hB.block qy lW)).trans c2;have x3:=(af (i:=1) (hB.block qy lW)).trans c3;exact oT
  |9,_,ho=>
   obtain rfl:=Option.some.inj ho;have e6:a1.tmps.getD 11 undef=x:=aG ⟨6,.data⟩ gM rfl;have e8:a1.tmps.getD 13 undef=y:=aG ⟨8,.data⟩ gM rfl;have hc:=cN w1 hB;have hs:=hB.size;replace hK:=pu hK;go_tidy;have gA:=gJ a1;go_simp;refine hc.mono ?_;rintro e w2 ⟨u,m,rfl,b,o,hm⟩;exact hK.down u w2 ⟨m,hm,dC o hs⟩ b (fun q h=>by cases h)
  |10,_,ho=>
   obtain rfl:=Option.some.inj ho;have e4:a1.tmps.getD 9 undef= .bool (s != t):=aG ⟨4,.data⟩ gM rfl;have e9:XQ w s x t y A qx qy 9 (a1.tmps.getD 14 undef) w1:=aG ⟨9,.data⟩ gM rfl;obtain⟨m,hm,ho'⟩:=e9;obtain⟨ua,uc,eu⟩:=aB ho';have g14:=gI hsz eu dc;rw[eu]at ho';have hc:=wO (s:=(s != t)) (w0:=w) (A:=A) ⟨m,hm,ho'⟩;replace hK:=pu hK;go_tidy;have gA:=gJ a1;go_simp;refine hc.mono ?_;rintro e w2 ⟨v,rfl,b,hv⟩;exact hK.down v w2 hv b (fun q h=>by cases h)
 ·have eR:dA w ((s != t)&&decide (0<A.length)) A (a1.tmps.getD 15 undef) w1:=hval 10 dc;obtain⟨u,eu,hu⟩:=eR;have eP:=(hold 4 (aj (by kernel_rfl))).trans h4;have hb':=(hB.block qr nP).trans hbox;have hst:=dO (x:= .bool ((s != t)&&decide (0<A.length))) (y:=u) hb' hb2;refine wpList_store_row rfl 25 (.tmp 4) (.tmp 15) rfl qr #[.bool ((s != t)&&decide (0<A.length)),u] eP eu 25 old hb' (by kernel_rfl) hb2 ?_ ?_
  ·obtain⟨m,_,ho⟩:=hu;obtain⟨ua,uc,rfl⟩:=aB ho;exact aN _ _ _ _
  ·refine kk _ _ u hsz eP hdf ?_ hst.2 (hu.st hb');exact⟨hst.1.os.trans hB.os,hst.1.tape.trans hB.tape,hst.1.output.trans hB.output,by have:=hB.size;have:=hst.1.size;omega,fun k hk hne=>(hst.1.block k (by have:=hB.size;omega) hne).trans (hB.block k hk)⟩
theorem sb0{s:Bool}{xa:Option Addr}{xn xc:Nat}{t:Bool}{ya:Option Addr}{yn yc:Nat}(hz:a.tmps.size=9)(h0:a.tmps.getD 0 undef= .agg #[.bool s,.slice xa xn xc])(h1:a.tmps.getD 1 undef= .agg #[.bool t,.slice ya yn yc])
 (kk:∀(a':Act),a'.tmps.size=9→(∀t,t<5→t≠2→t≠3→t≠4→a'.tmps.getD t undef=a.tmps.getD t undef)→a'.tmps.getD 2 undef= .pointer (some ⟨w.heap.size,0,none⟩)→a'.tmps.getD 3 undef= .pointer (some ⟨w.heap.size+1,0,none⟩)→a'.tmps.getD 4 undef= .pointer (some ⟨w.heap.size+2,0,none⟩)→a'.defers=a.defers→R .normal a' (qo w s (.slice xa xn xc) t (.slice ya yn yc))):(q1 (qf Tryz.f8)).wp Tryz.prog R a w:=by
 replace kk:=pu kk
 refine rl fun gA=>?_
 go_wp2
 exact kk.down _ gZ gN gS gS gS rfl
def XR(w0:World)(s:Bool)(t2 sg:Bool)(B2:List Nat)(x:Value)(t:Bool)(y:Value)(A:List Nat)(qx qy:Nat):Nat→Value→World→Prop
 |0,v,_=>v= .agg #[.bool s,x]
 |1,v,_=>v= .agg #[.bool t,y]
 |2,v,w=>dA w0 t2 B2 v w
 |3,v,w=>dA w0 sg A v w
 |_,_,_=>False
theorem sb1{s t t2 sg:Bool}{B2:List Nat}{x y:Value}{qx qy qr:Nat}{A:List Nat}{old:Array Value}(hz:a.tmps.size=9)(h2:a.tmps.getD 2 undef= .pointer (some ⟨qx,0,none⟩))(h3:a.tmps.getD 3 undef= .pointer (some ⟨qy,0,none⟩))(h4:a.tmps.getD 4 undef= .pointer (some ⟨qr,0,none⟩))(gX:qx<w.heap.size)(lW:qy<w.heap.size)(nP:qr<w.heap.size)(c0:w.cell? ⟨qx,0,none⟩=some (.bool s))(c1:w.cell? ⟨qx,1,none⟩=some (x))(c2:w.cell? ⟨qy,0,none⟩=some (.bool t))(c3:w.cell? ⟨qy,1,none⟩=some (y))
 (hbox:w.heap[qr]? =some (.cells old 25 (0,0))) (hb2:old.size=2) (cN:∀w1,Below w.heap.size w w1→Calls Tryz.prog 10 #[.agg #[.bool t,y]] w1 (zX w1 t2 B2)) (cA:∀w1 u,Below w.heap.size w w1→Own w B2 u w1→Calls Tryz.prog 7 #[.agg #[.bool s,x],.agg #[.bool t2,u]] w1 (zX w1 sg A))
 (kk:∀(a':Act) (w':World) (u:Value),a'.tmps.size=9→a'.tmps.getD 4 undef= .pointer (some ⟨qr,0,none⟩)→a'.defers=a.defers→aY w (fun k=>k=qr) w'→w'.heap[qr]? =some (.cells #[.bool (sg),u] 25 (0,0))→Own w A u w'→R .normal a' w'):(q1 (qd 1 (qf Tryz.f8))).wp Tryz.prog R a w:=by
 refine fA (n:=4) (N:=9) (XR w s t2 sg B2 x t y A qx qy) (fun _ _=>none) dB (by kernel_rfl) hz (by kernel_rfl) (fun i v w1 w2 hi h hb=>?_) (fun i v w1 q hi h hq=>?_) (fun i o a1 w1 hi ho hsz hB hold aG K hK=>?_) (fun a1 w1 hsz hdf hB hold hval hsep=>?_)
 ·match i,hi with
  |0,_|1,_=>exact h
  |2,_|3,_=>exact dA.up h hb
 ·cases hq
 ·match i,hi,ho with
  |0,_,ho=>
   obtain rfl:=Option.some.inj ho;have g2:=(hold 2 (aj gK)).trans h2;have x0:=(af (i:=0) (hB.block qx gX)).trans c0;have x1:=(af (i:=1) (hB.block qx gX)).trans c1;exact oT
  |1,_,ho=>
   obtain rfl:=Option.some.inj ho;have g3:=(hold 3 (aj gK)).trans h3;have x2:=(af (i:=0) (hB.block qy lW)).trans c2;have x3:=(af (i:=1) (hB.block qy lW)).trans c3;exact oT
  |2,_,ho=>
   obtain rfl:=Option.some.inj ho;have e1:a1.tmps.getD 6 undef= .agg #[.bool t,y]:=aG ⟨1,.data⟩ gM rfl;have hc:=cN w1 hB;have hs:=hB.size;replace hK:=pu hK;go_tidy;have gA:=gJ a1;go_simp;refine hc.mono ?_;rintro e w2 ⟨v,rfl,b,hv⟩;obtain⟨u,rfl,hu⟩:=hv;exact hK.down _ w2 ⟨u,rfl,hu.base hs⟩ b (fun q h=>by cases h)
  |3,_,ho=>
   obtain rfl:=Option.some.inj ho;have e0:a1.tmps.getD 5 undef= .agg #[.bool s,x]:=aG ⟨0,.data⟩ gM rfl;have e2:XR w s t2 sg B2 x t y A qx qy 2 (a1.tmps.getD 7 undef) w1:=aG ⟨2,.data⟩ gM rfl;obtain⟨u,eu,hu⟩:=e2;have g7:=gI hsz eu dc;have hc:=cA w1 u hB hu;have hs:=hB.size;replace hK:=pu hK;go_tidy;have gA:=gJ a1;go_simp;refine hc.mono ?_;rintro e w2 ⟨v,rfl,b,hv⟩;obtain⟨u',rfl,hu'⟩:=hv;exact hK.down _ w2 ⟨u',rfl,hu'.base hs⟩ b (fun q h=>by cases h)
 ·have eR:dA w (sg) A (a1.tmps.getD 8 undef) w1:=hval 3 dc;obtain⟨u,eu,hu⟩:=eR;have eP:=(hold 4 (aj (by kernel_rfl))).trans h4;have hb':=(hB.block qr nP).trans hbox;have hst:=dO (x:= .bool (sg)) (y:=u) hb' hb2;refine wpList_store_row rfl 25 (.tmp 4) (.tmp 8) rfl qr #[.bool (sg),u] eP eu 25 old hb' (by kernel_rfl) hb2 ?_ ?_
  ·obtain⟨m,_,ho⟩:=hu;obtain⟨ua,uc,rfl⟩:=aB ho;exact aN _ _ _ _
  ·refine kk _ _ u hsz eP hdf ?_ hst.2 (hu.st hb');exact⟨hst.1.os.trans hB.os,hst.1.tape.trans hB.tape,hst.1.output.trans hB.output,by have:=hB.size;have:=hst.1.size;omega,fun k hk hne=>(hst.1.block k (by have:=hB.size;omega) hne).trans (hB.block k hk)⟩
end
section
variable {a:Act}{w:World}{R:Exit→Act→World→Prop}
theorem ad0{s:Bool}{xa:Option Addr}{xn xc:Nat}{t:Bool}{ya:Option Addr}{yn yc:Nat}(hz:a.tmps.size=34)(h0:a.tmps.getD 0 undef= .agg #[.bool s,.slice xa xn xc])(h1:a.tmps.getD 1 undef= .agg #[.bool t,.slice ya yn yc])
 (kk:∀(a':Act),a'.tmps.size=34→(∀t,t<5→t≠2→t≠3→t≠4→a'.tmps.getD t undef=a.tmps.getD t undef)→a'.tmps.getD 2 undef= .pointer (some ⟨w.heap.size,0,none⟩)→a'.tmps.getD 3 undef= .pointer (some ⟨w.heap.size+1,0,none⟩)→a'.tmps.getD 4 undef= .pointer (some ⟨w.heap.size+2,0,none⟩)→a'.defers=a.defers→R .normal a' (qo w s (.slice xa xn xc) t (.slice ya yn yc))):(q1 (qf Tryz.f7)).wp Tryz.prog R a w:=by
 replace kk:=pu kk
 refine rl fun gA=>?_
 go_wp2
 exact kk.down _ gZ gN gS gS gS rfl
def ad1Φ(w0:World)(s:Bool)(x:Value)(t:Bool)(y:Value)(qx qy:Nat):Nat→Value→World→Prop
 |0,v,_=>v= .pointer (some ⟨qx,0,none⟩)
 |1,v,_=>v= .bool s
 |2,v,_=>v= .pointer (some ⟨qy,0,none⟩)
 |3,v,_=>v= .bool t
 |4,v,_=>v= .bool (s==t)
 |_,_,_=>False
theorem ad1{s t:Bool}{x y:Value}{qx qy:Nat}(hz:a.tmps.size=34)(h2:a.tmps.getD 2 undef= .pointer (some ⟨qx,0,none⟩))(h3:a.tmps.getD 3 undef= .pointer (some ⟨qy,0,none⟩))(gX:qx<w.heap.size)(lW:qy<w.heap.size)(c0:w.cell? ⟨qx,0,none⟩=some (.bool s))(c1:w.cell? ⟨qx,1,none⟩=some (x))(c2:w.cell? ⟨qy,0,none⟩=some (.bool t))(c3:w.cell? ⟨qy,1,none⟩=some (y))
 (kk:∀(a':Act) (w':World),a'.tmps.size=34→a'.tmps.getD 2 undef=a.tmps.getD 2 undef→a'.tmps.getD 3 undef=a.tmps.getD 3 undef→a'.tmps.getD 4 undef=a.tmps.getD 4 undef→a'.tmps.getD 11 undef= .bool (s==t)→a'.defers=a.defers→Below w.heap.size w w'→R .normal a' w'):(q1 (q1 (qd 1 (qf Tryz.f7)))).wp Tryz.prog R a w:=by
 refine rD (n:=5) (N:=34) (ad1Φ w s x t y qx qy) (fun _ _=>none) dB (by kernel_rfl) hz (by kernel_rfl) (fun i v w1 w2 hi h hb=>?_) (fun i v w1 q hi h hq=>?_) (fun i o a1 w1 hi ho hsz hB hold aG K hK=>?_) (fun a1 w1 hsz hdf hB hold hval hsep=>?_)
 ·match i,hi with
  |0,_|1,_|2,_|3,_|4,_=>exact h
 ·cases hq
 ·match i,hi,ho with
  |0,_,ho=>
   obtain rfl:=Option.some.inj ho;have g2:=(hold 2 (aj gK)).trans h2;exact oT
  |1,_,ho=>
   obtain rfl:=Option.some.inj ho;have e0:a1.tmps.getD 7 undef= .pointer (some ⟨qx,0,none⟩):=aG ⟨0,.data⟩ gM rfl;have x0:=(af (i:=0) (hB.block qx gX)).trans c0;have x1:=(af (i:=1) (hB.block qx gX)).trans c1;exact oT
  |2,_,ho=>
   obtain rfl:=Option.some.inj ho;have g3:=(hold 3 (aj gK)).trans h3;exact oT
  |3,_,ho=>
   obtain rfl:=Option.some.inj ho;have e2:a1.tmps.getD 9 undef= .pointer (some ⟨qy,0,none⟩):=aG ⟨2,.data⟩ gM rfl;have x2:=(af (i:=0) (hB.block qy lW)).trans c2;have x3:=(af (i:=1) (hB.block qy lW)).trans c3;exact oT
  |4,_,ho=>
   obtain rfl:=Option.some.inj ho;have e1:a1.tmps.getD 8 undef= .bool s:=aG ⟨1,.data⟩ gM rfl;have e3:a1.tmps.getD 10 undef= .bool t:=aG ⟨3,.data⟩ gM rfl;exact oT
 ·exact kk a1 w1 hsz (hold 2 (aj (by kernel_rfl))) (hold 3 (aj (by kernel_rfl))) (hold 4 (aj (by kernel_rfl))) (hval 4 dc) hdf hB
def XT(w0:World)(s:Bool)(x:Value)(t:Bool)(y:Value)(A:List Nat)(qx qy:Nat):Nat→Value→World→Prop
 |0,v,_=>v= .pointer (some ⟨qx,0,none⟩)
 |1,v,_=>v= .bool s
 |2,v,_=>v= .pointer (some ⟨qx,1,none⟩)
 |3,v,_=>v=x
 |4,v,_=>v= .pointer (some ⟨qy,1,none⟩)
 |5,v,_=>v=y
 |6,v,w=>Own w0 A v w
 |7,v,w=>dA w0 (s&&decide (0<A.length)) A v w
 |_,_,_=>False
theorem ad2{s t:Bool}{x y:Value}{qx qy qr:Nat}{A:List Nat}{old:Array Value}(hz:a.tmps.size=34)(h2:a.tmps.getD 2 undef= .pointer (some ⟨qx,0,none⟩))(h3:a.tmps.getD 3 undef= .pointer (some ⟨qy,0,none⟩))(h4:a.tmps.getD 4 undef= .pointer (some ⟨qr,0,none⟩))(gX:qx<w.heap.size)(lW:qy<w.heap.size)(nP:qr<w.heap.size)(c0:w.cell? ⟨qx,0,none⟩=some (.bool s))(c1:w.cell? ⟨qx,1,none⟩=some (x))(c2:w.cell? ⟨qy,0,none⟩=some (.bool t))(c3:w.cell? ⟨qy,1,none⟩=some (y))
 (hbox:w.heap[qr]? =some (.cells old 25 (0,0))) (hb2:old.size=2) (cN:∀w1,Below w.heap.size w w1→Calls Tryz.prog 41 #[x,y] w1 (kX w1 A))
 (kk:∀(a':Act) (w':World) (u:Value),a'.tmps.size=34→a'.tmps.getD 4 undef= .pointer (some ⟨qr,0,none⟩)→a'.defers=a.defers→aY w (fun k=>k=qr) w'→w'.heap[qr]? =some (.cells #[.bool (s&&decide (0<A.length)),u] 25 (0,0))→Own w A u w'→R .normal a' w'):(q1 (qt (q2 (q1 (qd 1 (qf Tryz.f7)))))).wp Tryz.prog R a w:=by
 refine fA (n:=8) (N:=34) (XT w s x t y A qx qy) (fun _ _=>none) dB (by kernel_rfl) hz (by kernel_rfl) (fun i v w1 w2 hi h hb=>?_) (fun i v w1 q hi h hq=>?_) (fun i o a1 w1 hi ho hsz hB hold aG K hK=>?_) (fun a1 w1 hsz hdf hB hold hval hsep=>?_)
 ·match i,hi with
  |0,_|1,_|2,_|3,_|4,_|5,_=>exact h
  |6,_=>exact Own.up h hb
  |7,_=>exact dA.up h hb
 ·cases hq
 ·match i,hi,ho with
  |0,_,ho=>
   obtain rfl:=Option.some.inj ho;have g2:=(hold 2 (aj gK)).trans h2;exact oT
  |1,_,ho=>
   obtain rfl:=Option.some.inj ho;have e0:a1.tmps.getD 12 undef= .pointer (some ⟨qx,0,none⟩):=aG ⟨0,.data⟩ gM rfl;have x0:=(af (i:=0) (hB.block qx gX)).trans c0;have x1:=(af (i:=1) (hB.block qx gX)).trans c1;exact oT
  |2,_,ho=>
   obtain rfl:=Option.some.inj ho;have g2:=(hold 2 (aj gK)).trans h2;exact oT
  |3,_,ho=>
   obtain rfl:=Option.some.inj ho;have e2:a1.tmps.getD 14 undef= .pointer (some ⟨qx,1,none⟩):=aG ⟨2,.data⟩ gM rfl;have x0:=(af (i:=0) (hB.block qx gX)).trans c0;have x1:=(af (i:=1) (hB.block qx gX)).trans c1;exact oT
  |4,_,ho=>
   obtain rfl:=Option.some.inj ho;have g3:=(hold 3 (aj gK)).trans h3;exact oT
  |5,_,ho=>
   obtain rfl:=Option.some.inj ho;have e4:a1.tmps.getD 16 undef= .pointer (some ⟨qy,1,none⟩):=aG ⟨4,.data⟩ gM rfl;have x2:=(af (i:=0) (hB.block qy lW)).trans c2;have x3:=(af (i:=1) (hB.block qy lW)).trans c3;exact oT
  |6,_,ho=>
   obtain rfl:=Option.some.inj ho;have e3:a1.tmps.getD 15 undef=x:=aG ⟨3,.data⟩ gM rfl;have e5:a1.tmps.getD 17 undef=y:=aG ⟨5,.data⟩ gM rfl;have hc:=cN w1 hB;have hs:=hB.size;replace hK:=pu hK;go_tidy;have gA:=gJ a1;go_simp;refine hc.mono ?_;rintro e w2 ⟨u,m,rfl,b,o,hm⟩;exact hK.down u w2 ⟨m,hm,dC o hs⟩ b (fun q h=>by cases h)
  |7,_,ho=>
   obtain rfl:=Option.some.inj ho;have e1:a1.tmps.getD 13 undef= .bool s:=aG ⟨1,.data⟩ gM rfl;have e6:XT w s x t y A qx qy 6 (a1.tmps.getD 18 undef) w1:=aG ⟨6,.data⟩ gM rfl;obtain⟨m,hm,ho'⟩:=e6;obtain⟨ua,uc,eu⟩:=aB ho';have g18:=gI hsz eu dc;rw[eu]at ho';have hc:=wO (s:=s) (w0:=w) (A:=A) ⟨m,hm,ho'⟩;replace hK:=pu hK;go_tidy;have gA:=gJ a1;go_simp;refine hc.mono ?_;rintro e w2 ⟨v,rfl,b,hv⟩;exact hK.down v w2 hv b (fun q h=>by cases h)
 ·have eR:dA w (s&&decide (0<A.length)) A (a1.tmps.getD 19 undef) w1:=hval 7 dc;obtain⟨u,eu,hu⟩:=eR;have eP:=(hold 4 (aj (by kernel_rfl))).trans h4;have hb':=(hB.block qr nP).trans hbox;have hst:=dO (x:= .bool (s&&decide (0<A.length))) (y:=u) hb' hb2;refine wpList_store_row rfl 25 (.tmp 4) (.tmp 19) rfl qr #[.bool (s&&decide (0<A.length)),u] eP eu 25 old hb' (by kernel_rfl) hb2 ?_ ?_
  ·obtain⟨m,_,ho⟩:=hu;obtain⟨ua,uc,rfl⟩:=aB ho;exact aN _ _ _ _
  ·refine kk _ _ u hsz eP hdf ?_ hst.2 (hu.st hb');exact⟨hst.1.os.trans hB.os,hst.1.tape.trans hB.tape,hst.1.output.trans hB.output,by have:=hB.size;have:=hst.1.size;omega,fun k hk hne=>(hst.1.block k (by have:=hB.size;omega) hne).trans (hB.block k hk)⟩
def EZ(w0:World)(s:Bool)(x:Value)(t:Bool)(y:Value)(z:Bool)(A:List Nat)(qx qy:Nat):Nat→Value→World→Prop
 |0,v,_=>v= .pointer (some ⟨qx,1,none⟩)
 |1,v,_=>v=x
 |2,v,_=>v= .pointer (some ⟨qy,1,none⟩)
 |3,v,_=>v=y
 |4,v,w=>∃u,v= .tuple #[u,.bool z]∧Own w0 A u w
 |5,v,w=>∃u,v= .tuple #[u,.bool z]∧Own w0 A u w
 |6,v,w=>Own w0 A v w
 |7,v,_=>v= .bool z
 |8,v,w=>Own w0 A v w
 |9,v,_=>v= .bool z
 |_,_,_=>False
theorem ad3{s t z:Bool}{x y:Value}{qx qy:Nat}{A:List Nat}(hz:a.tmps.size=34)(h2:a.tmps.getD 2 undef= .pointer (some ⟨qx,0,none⟩))(h3:a.tmps.getD 3 undef= .pointer (some ⟨qy,0,none⟩))(gX:qx<w.heap.size)(lW:qy<w.heap.size)(c0:w.cell? ⟨qx,0,none⟩=some (.bool s))(c1:w.cell? ⟨qx,1,none⟩=some (x))(c2:w.cell? ⟨qy,0,none⟩=some (.bool t))(c3:w.cell? ⟨qy,1,none⟩=some (y))
 (cN:∀w1,Below w.heap.size w w1→Calls Tryz.prog 42 #[x,y] w1 (Dh w1 A (.bool z)))
 (kk:∀(a':Act) (w':World),a'.tmps.size=34→a'.tmps.getD 2 undef=a.tmps.getD 2 undef→a'.tmps.getD 3 undef=a.tmps.getD 3 undef→a'.tmps.getD 4 undef=a.tmps.getD 4 undef→Own w A (a'.tmps.getD 5 undef) w'→a'.tmps.getD 6 undef= .bool z→a'.defers=a.defers→Below w.heap.size w w'→R .normal a' w'):(q1 (qd 2 (qf Tryz.f7))).wp Tryz.prog R a w:=by
 refine rD (n:=10) (N:=34) (EZ w s x t y z A qx qy) (fun _ _=>none) dB (by kernel_rfl) hz (by kernel_rfl) (fun i v w1 w2 hi h hb=>?_) (fun i v w1 q hi h hq=>?_) (fun i o a1 w1 hi ho hsz hB hold aG K hK=>?_) (fun a1 w1 hsz hdf hB hold hval hsep=>?_)
 ·match i,hi with
  |0,_|1,_|2,_|3,_|7,_|9,_=>exact h
  |4,_|5,_=>obtain⟨u,e,h⟩:=h;exact⟨u,e,h.up hb⟩
  |6,_|8,_=>exact Own.up h hb
 ·cases hq
 ·match i,hi,ho with
  |0,_,ho=>
   obtain rfl:=Option.some.inj ho;have g2:=(hold 2 (aj gK)).trans h2;exact oT
  |1,_,ho=>
   obtain rfl:=Option.some.inj ho;have e0:a1.tmps.getD 21 undef= .pointer (some ⟨qx,1,none⟩):=aG ⟨0,.data⟩ gM rfl;have x0:=(af (i:=0) (hB.block qx gX)).trans c0;have x1:=(af (i:=1) (hB.block qx gX)).trans c1;exact oT
  |2,_,ho=>
   obtain rfl:=Option.some.inj ho;have g3:=(hold 3 (aj gK)).trans h3;exact oT
  |3,_,ho=>
   obtain rfl:=Option.some.inj ho;have e2:a1.tmps.getD 23 undef= .pointer (some ⟨qy,1,none⟩):=aG ⟨2,.data⟩ gM rfl;have x2:=(af (i:=0) (hB.block qy lW)).trans c2;have x3:=(af (i:=1) (hB.block qy lW)).trans c3;exact oT
  |4,_,ho=>
   obtain rfl:=Option.some.inj ho;have e1:a1.tmps.getD 22 undef=x:=aG ⟨1,.data⟩ gM rfl;have e3:a1.tmps.getD 24 undef=y:=aG ⟨3,.data⟩ gM rfl;have hc:=cN w1 hB;have hs:=hB.size;replace hK:=pu hK;go_tidy;have gA:=gJ a1;go_simp;refine hc.mono ?_;rintro e w2 ⟨u,m,rfl,b,o,hm⟩;exact hK.down _ w2 ⟨u,rfl,m,hm,dC o hs⟩ b (fun q h=>by cases h)
  |5,_,ho=>
   obtain rfl:=Option.some.inj ho;have e4:EZ w s x t y z A qx qy 4 (a1.tmps.getD 25 undef) w1:=aG ⟨4,.data⟩ gM rfl;obtain⟨u,eu,hu⟩:=e4;have g25:=gI hsz eu dc;replace hK:=pu hK;go_tidy;have gA:=gJ a1;go_simp;exact hK.down _ _ ⟨u,rfl,hu⟩ (aJ _) (fun q h=>by cases h)
  |6,_,ho=>
   obtain rfl:=Option.some.inj ho;have e5:EZ w s x t y z A qx qy 5 (a1.tmps.getD 20 undef) w1:=aG ⟨5,.data⟩ gM rfl;obtain⟨u,eu,hu⟩:=e5;have g20:=gI hsz eu dc;replace hK:=pu hK;go_tidy;have gA:=gJ a1;go_simp;exact hK.down _ _ hu (aJ _) (fun q h=>by cases h)
  |7,_,ho=>
   obtain rfl:=Option.some.inj ho;have e5:EZ w s x t y z A qx qy 5 (a1.tmps.getD 20 undef) w1:=aG ⟨5,.data⟩ gM rfl;obtain⟨u,eu,hu⟩:=e5;have g20:=gI hsz eu dc;exact oT
  |8,_,ho=>
   obtain rfl:=Option.some.inj ho;have e6:EZ w s x t y z A qx qy 6 (a1.tmps.getD 26 undef) w1:=aG ⟨6,.data⟩ gM rfl;obtain⟨u,eu⟩:∃u,a1.tmps.getD 26 undef=u:=⟨_,rfl⟩;have e6':Own w A u w1:=eu▸e6;have g26:=gI hsz eu dc;replace hK:=pu hK;go_tidy;have gA:=gJ a1;go_simp;exact hK.down _ _ e6' (aJ _) (fun q h=>by cases h)
  |9,_,ho=>
   obtain rfl:=Option.some.inj ho;have e7:a1.tmps.getD 27 undef= .bool z:=aG ⟨7,.data⟩ gM rfl;exact oT
 ·exact kk a1 w1 hsz (hold 2 (aj (by kernel_rfl))) (hold 3 (aj (by kernel_rfl))) (hold 4 (aj (by kernel_rfl))) (hval 8 dc) (hval 9 dc) hdf hB
def XU(w0:World)(wb:World)(s:Bool)(x:Value)(z:Bool)(A:List Nat)(qx:Nat):Nat→Value→World→Prop
 |0,v,_=>v= .pointer (some ⟨qx,0,none⟩)
 |1,v,_=>v= .bool s
 |2,v,_=>v= .bool z
 |3,v,_=>v= .bool (s != z)
 |4,v,w=>Own wb A v w
 |5,v,w=>dA wb ((s != z)&&decide (0<A.length)) A v w
 |_,_,_=>False
theorem ad4{wb:World}{s z:Bool}{x u5:Value}{qx qr:Nat}{A:List Nat}{old:Array Value}(hz:a.tmps.size=34)(h2:a.tmps.getD 2 undef= .pointer (some ⟨qx,0,none⟩))(h4:a.tmps.getD 4 undef= .pointer (some ⟨qr,0,none⟩))(h5:a.tmps.getD 5 undef=u5)(h6:a.tmps.getD 6 undef= .bool z)(gX:qx<w.heap.size)(nP:qr<w.heap.size)(c0:w.cell? ⟨qx,0,none⟩=some (.bool s))(c1:w.cell? ⟨qx,1,none⟩=some (x))
 (hbox:w.heap[qr]? =some (.cells old 25 (0,0))) (hb2:old.size=2) (hu5:Own wb A u5 w)
 (kk:∀(a':Act) (w':World) (u:Value),a'.tmps.size=34→a'.tmps.getD 4 undef= .pointer (some ⟨qr,0,none⟩)→a'.defers=a.defers→aY w (fun k=>k=qr) w'→w'.heap[qr]? =some (.cells #[.bool ((s != z)&&decide (0<A.length)),u] 25 (0,0))→Own wb A u w'→R .normal a' w'):(q1 (qd 3 (qf Tryz.f7))).wp Tryz.prog R a w:=by
 refine rD (n:=6) (N:=34) (XU w wb s x z A qx) (fun _ _=>none) dB (by kernel_rfl) hz (by kernel_rfl) (fun i v w1 w2 hi h hb=>?_) (fun i v w1 q hi h hq=>?_) (fun i o a1 w1 hi ho hsz hB hold aG K hK=>?_) (fun a1 w1 hsz hdf hB hold hval hsep=>?_)
 ·match i,hi with
  |0,_|1,_|2,_|3,_=>exact h
  |4,_=>exact Own.up h hb
  |5,_=>exact dA.up h hb
 ·cases hq
 ·match i,hi,ho with
  |0,_,ho=>
   obtain rfl:=Option.some.inj ho;have g2:=(hold 2 (aj gK)).trans h2;exact oT
  |1,_,ho=>
   obtain rfl:=Option.some.inj ho;have e0:a1.tmps.getD 28 undef= .pointer (some ⟨qx,0,none⟩):=aG ⟨0,.data⟩ gM rfl;have x0:=(af (i:=0) (hB.block qx gX)).trans c0;have x1:=(af (i:=1) (hB.block qx gX)).trans c1;exact oT
  |2,_,ho=>
   obtain rfl:=Option.some.inj ho;have g6:=(hold 6 (aj gK)).trans h6;exact oT
  |3,_,ho=>
   obtain rfl:=Option.some.inj ho;have e1:a1.tmps.getD 29 undef= .bool s:=aG ⟨1,.data⟩ gM rfl;have e2:a1.tmps.getD 30 undef= .bool z:=aG ⟨2,.data⟩ gM rfl;exact oT
  |4,_,ho=>
   obtain rfl:=Option.some.inj ho;have g5:=(hold 5 (aj gK)).trans h5;have hu:=hu5.up hB;replace hK:=pu hK;go_tidy;have gA:=gJ a1;go_simp;exact hK.down _ _ hu (aJ _) (fun q h=>by cases h)
  |5,_,ho=>
   obtain rfl:=Option.some.inj ho;have e3:a1.tmps.getD 31 undef= .bool (s != z):=aG ⟨3,.data⟩ gM rfl;have e4:XU w wb s x z A qx 4 (a1.tmps.getD 32 undef) w1:=aG ⟨4,.data⟩ gM rfl;obtain⟨m,hm,ho'⟩:=e4;obtain⟨ua,uc,eu⟩:=aB ho';have g32:=gI hsz eu dc;rw[eu]at ho';have hc:=wO (s:=(s != z)) (w0:=wb) (A:=A) ⟨m,hm,ho'⟩;replace hK:=pu hK;go_tidy;have gA:=gJ a1;go_simp;refine hc.mono ?_;rintro e w2 ⟨v,rfl,b,hv⟩;exact hK.down v w2 hv b (fun q h=>by cases h)
 ·have eR:dA wb ((s != z)&&decide (0<A.length)) A (a1.tmps.getD 33 undef) w1:=hval 5 dc;obtain⟨u,eu,hu⟩:=eR;have eP:=(hold 4 (aj (by kernel_rfl))).trans h4;have hb':=(hB.block qr nP).trans hbox;have hst:=dO (x:= .bool ((s != z)&&decide (0<A.length))) (y:=u) hb' hb2;refine wpList_store_row rfl 25 (.tmp 4) (.tmp 33) rfl qr #[.bool ((s != z)&&decide (0<A.length)),u] eP eu 25 old hb' (by kernel_rfl) hb2 ?_ ?_
  ·obtain⟨m,_,ho⟩:=hu;obtain⟨ua,uc,rfl⟩:=aB ho;exact aN _ _ _ _
  ·refine kk _ _ u hsz eP hdf ?_ hst.2 (hu.st hb');exact⟨hst.1.os.trans hB.os,hst.1.tape.trans hB.tape,hst.1.output.trans hB.output,by have:=hB.size;have:=hst.1.size;omega,fun k hk hne=>(hst.1.block k (by have:=hB.size;omega) hne).trans (hB.block k hk)⟩
end
section
def IA(w:World)(Ha:Nat→Prop)(v:Value)(s:Bool)(a:List Nat):Prop:=∃x,v= .agg #[.bool s,x]∧aO w Ha x (.l 1 (W a))
theorem IA.up{w w':World}{Ha:Nat→Prop}{v:Value}{s:Bool}{a:List Nat}(h:IA w Ha v s a)(hH:∀q,Ha q→q<w.heap.size)(hb:Below w.heap.size w w'):IA w' Ha v s a:=by
 obtain⟨x,e,h⟩:=h;exact⟨x,e,h.mono (fun _ h=>h) fun q hq=>hb.block q (hH q hq)⟩
theorem dA.ia{w0 w:World}{s:Bool}{A:List Nat}{v:Value}(h:dA w0 s A v w):IA w (fun q=>q<w.heap.size) v s A:=by
 obtain⟨u,e,m,hm,ho⟩:=h;exact⟨u,e,pU ho hm⟩
theorem Own.rep{w0 w:World}{A:List Nat}{v:Value}(h:Own w0 A v w):aO w (fun q=>q<w.heap.size) v (.l 1 (W A)):=by
 obtain⟨m,hm,ho⟩:=h;exact pU ho hm
def ZR(w:World)(z:Int):Ending→World→Prop:=zX w (decide (z<0)) (dg B z.natAbs)
theorem dgp{n:Nat}:decide (0<(dg B n).length)=decide (0<n):=by
 have h:=qV (n:=n);by_cases h0:0<n
 ·rw[decide_eq_true h0,decide_eq_true];have:=h.mpr h0;omega
 ·rw[decide_eq_false h0,decide_eq_false];intro h1;exact h0 (h.mp om)
theorem E_{w:World}{s:Bool}{n:Nat}{e:Ending}{w':World}(h:zX w (s&&decide (0<(dg B n).length)) (dg B n) e w'):ZR w (zI s n) e w':=by
 unfold ZR;rw[zM,tY];rw[dgp]at h;exact h
section
variable {w:World} {vx:Value} {s:Bool} {a:List Nat} {Ha:Nat→Prop} (bH:∀q,Ha q→q<w.heap.size) (hx:IA w Ha vx s a) (ha:Wd a) (la:a.length≤100000000)
include bH hx ha la
theorem BF:Calls Tryz.prog 11 #[vx] w (ZR w (zv s a)):=by
 obtain⟨x,rfl,hr⟩:=hx;obtain⟨xa,xn,xc,rfl⟩:=bK hr;have hn:=jl a ha om;refine(bW (R:=zX w (s&&decide (0<(dg B (nv B a)).length)) (dg B (nv B a))) (vs:=[.agg #[.bool s,.slice xa xn xc]]) Tryz.func11 (c:=qf Tryz.f11) rfl (by show 1≤_;decide) fun a0 z0 e0 d0=>?_).mono fun e w' h=>E_ h
 have i0:a0.tmps.getD 0 undef= .agg #[.bool s,.slice xa xn xc]:=e0 0 (by show 0<1;decide);change a0.tmps.size=9 at z0;refine wp_seq ?_;refine nm0 z0 i0 fun a1 z1 s1 k1 k2 d1=>?_
 obtain⟨B1,l1,l2,c0,c1,hb⟩:=bx1 w s (.slice xa xn xc);refine wp_seq ?_;refine nm1 z1 k1 k2 l1 l2 c0 c1 hb rfl (fun w1 hB=>lM (vs:=[.slice xa xn xc]) hn (fun q h=>Nat.lt_of_lt_of_le (bH q h) (ah B1 hB).size) (z_ (hr.mono (fun _ h=>h) fun q h=>(ah B1 hB).block q (bH q h)))) fun a2 w2 u z2 j2 d2 bel hbx ho=>?_
 refine wp_ret ?_;exact nI rfl (d2.trans (d1.trans d0)) j2 hbx ⟨_,rfl,jg B1 bel om,u,rfl,ho.base B1.size⟩
theorem Fa:Calls Tryz.prog 10 #[vx] w (ZR w (-(zv s a))):=by
 obtain⟨x,rfl,hr⟩:=hx;obtain⟨xa,xn,xc,rfl⟩:=bK hr;have hn:=jl a ha om;have ez: -(zv s a)=zI (!s) (nv B a):=by unfold zv zI;cases s<;>simp
 rw[ez];refine(bW (R:=zX w (!s&&decide (0<(dg B (nv B a)).length)) (dg B (nv B a))) (vs:=[.agg #[.bool s,.slice xa xn xc]]) Tryz.func10 (c:=qf Tryz.f10) rfl (by show 1≤_;decide) fun a0 z0 e0 d0=>?_).mono fun e w' h=>E_ h
 have i0:a0.tmps.getD 0 undef= .agg #[.bool s,.slice xa xn xc]:=e0 0 (by show 0<1;decide);change a0.tmps.size=10 at z0;refine wp_seq ?_;refine ng0 z0 i0 fun a1 z1 s1 k1 k2 d1=>?_
 obtain⟨B1,l1,l2,c0,c1,hb⟩:=bx1 w s (.slice xa xn xc);refine wp_seq ?_;refine ng1 z1 k1 k2 l1 l2 c0 c1 hb rfl (fun w1 hB=>lM (vs:=[.slice xa xn xc]) hn (fun q h=>Nat.lt_of_lt_of_le (bH q h) (ah B1 hB).size) (z_ (hr.mono (fun _ h=>h) fun q h=>(ah B1 hB).block q (bH q h)))) fun a2 w2 u z2 j2 d2 bel hbx ho=>?_
 refine wp_ret ?_;exact nI rfl (d2.trans (d1.trans d0)) j2 hbx ⟨_,rfl,jg B1 bel om,u,rfl,ho.base B1.size⟩
variable {vy:Value} {t:Bool} {b:List Nat} (hy:IA w Ha vy t b) (hb':Wd b) (lb:b.length≤100000000)
include hy hb' lb
theorem Fb:Calls Tryz.prog 9 #[vx,vy] w (ZR w (zv s a*zv t b)):=by
 obtain⟨x,rfl,hr⟩:=hx;obtain⟨xa,xn,xc,rfl⟩:=bK hr;obtain⟨y,rfl,hs⟩:=hy;obtain⟨ya,yn,yc,rfl⟩:=bK hs;have hn:=Jv a b ha hb' la lb;have ez:zv s a*zv t b=zI (s != t) (nv B a*nv B b):=by
  unfold zv zI;cases s<;>cases t<;>simp[Int.neg_mul,Int.mul_neg]
 rw[ez];refine(bW (R:=zX w ((s != t)&&decide (0<(dg B (nv B a*nv B b)).length)) (dg B (nv B a*nv B b))) (vs:=[.agg #[.bool s,.slice xa xn xc],.agg #[.bool t,.slice ya yn yc]]) Tryz.func9 (c:=qf Tryz.f9) rfl (by show 2≤_;decide) fun a0 z0 e0 d0=>?_).mono fun e w' h=>E_ h
 have i0:a0.tmps.getD 0 undef= .agg #[.bool s,.slice xa xn xc]:=e0 0 (by show 0<2;decide);have i1:a0.tmps.getD 1 undef= .agg #[.bool t,.slice ya yn yc]:=e0 1 (by show 1<2;decide);change a0.tmps.size=16 at z0;refine wp_seq ?_;refine ml0 z0 i0 i1 fun a1 z1 s1 k1 k2 k3 d1=>?_
 obtain⟨B1,l1,l2,l3,c0,c1,c2,c3,hb⟩:=bx2 w s (.slice xa xn xc) t (.slice ya yn yc);refine wp_seq ?_;refine ml1 z1 k1 k2 k3 l1 l2 l3 c0 c1 c2 c3 hb rfl (fun w1 hB=>lM (vs:=[.slice xa xn xc,.slice ya yn yc]) hn (fun q h=>Nat.lt_of_lt_of_le (bH q h) (ah B1 hB).size) (LZ (hr.mono (fun _ h=>h) fun q h=>(ah B1 hB).block q (bH q h)) (hs.mono (fun _ h=>h) fun q h=>(ah B1 hB).block q (bH q h)))) fun a2 w2 u z2 j2 d2 bel hbx ho=>?_
 refine wp_ret ?_;exact nI rfl (d2.trans (d1.trans d0)) j2 hbx ⟨_,rfl,jg B1 bel om,u,rfl,ho.base B1.size⟩
end
end
section
section
variable {w:World} {vx:Value} {s:Bool} {a:List Nat} {Ha:Nat→Prop} (bH:∀q,Ha q→q<w.heap.size) (hx:IA w Ha vx s a) (ha:Wd a) (la:a.length≤100000000)
variable {vy:Value} {t:Bool} {b:List Nat} (hy:IA w Ha vy t b) (hb':Wd b) (lb:b.length≤100000000)
include bH hx ha la hy hb' lb
theorem rF:Calls Tryz.prog 7 #[vx,vy] w (ZR w (zv s a+zv t b)):=by
 obtain⟨x,rfl,hr⟩:=hx;obtain⟨xa,xn,xc,rfl⟩:=bK hr;obtain⟨y,rfl,hs⟩:=hy;obtain⟨ya,yn,yc,rfl⟩:=bK hs;refine bW (vs:=[.agg #[.bool s,.slice xa xn xc],.agg #[.bool t,.slice ya yn yc]]) Tryz.func7 (c:=qf Tryz.f7) rfl (by show 2≤_;decide) fun a0 z0 e0 d0=>?_
 have i0:a0.tmps.getD 0 undef= .agg #[.bool s,.slice xa xn xc]:=e0 0 (by show 0<2;decide);have i1:a0.tmps.getD 1 undef= .agg #[.bool t,.slice ya yn yc]:=e0 1 (by show 1<2;decide);change a0.tmps.size=34 at z0;refine wp_seq ?_;refine ad0 z0 i0 i1 fun a1 z1 s1 k1 k2 k3 d1=>?_
 obtain⟨B1,l1,l2,l3,c0,c1,c2,c3,hb⟩:=bx2 w s (.slice xa xn xc) t (.slice ya yn yc);have rx:∀w1,Below (qo w s (.slice xa xn xc) t (.slice ya yn yc)).heap.size (qo w s (.slice xa xn xc) t (.slice ya yn yc)) w1→aA w1 Ha [.slice xa xn xc,.slice ya yn yc] [.l 1 (W a),.l 1 (W b)]:=fun w1 hB=>LZ (hr.mono (fun _ h=>h) fun q h=>(ah B1 hB).block q (bH q h)) (hs.mono (fun _ h=>h) fun q h=>(ah B1 hB).block q (bH q h))
 have hl:∀w1,Below (qo w s (.slice xa xn xc) t (.slice ya yn yc)).heap.size (qo w s (.slice xa xn xc) t (.slice ya yn yc)) w1→∀q,Ha q→q<w1.heap.size:=fun w1 hB q h=>Nat.lt_of_lt_of_le (bH q h) (ah B1 hB).size
 refine wp_seq ?_;refine wp_seq ?_;refine ad1 z1 k1 k2 l1 l2 c0 c1 c2 c3 fun a2 w2 z2 j2 j3 j4 h11 d2 B2=>?_
 have XN:=ah B1 B2;have cc:∀{p o:Nat} {v:Value},p<(qo w s (.slice xa xn xc) t (.slice ya yn yc)).heap.size→(qo w s (.slice xa xn xc) t (.slice ya yn yc)).cell? ⟨p,o,none⟩=some v→w2.cell? ⟨p,o,none⟩=some v:=fun hp h=>(af (B2.block _ hp)).trans h
 have hb2:=(B2.block _ l3).trans hb;have s2:=B2.size;by_cases hst:s=t
 ·subst hst;have ez:zv s a+zv s b=zI s (nv B a+nv B b):=by unfold zv zI;cases s<;>simp<;>omega
  rw[ez];refine wp_cond_true (by rw[az,h11];simp) ?_;refine wp_seq ?_;refine ad2 (A:=dg B (nv B a+nv B b)) z2 (j2.trans k1) (j3.trans k2) (j4.trans k3) om om om (cc l1 c0) (cc l1 c1) (cc l2 c2) (cc l2 c3) hb2 rfl (fun w1 hB=>lM (vs:=[.slice xa xn xc,.slice ya yn yc]) (mO a b ha hb' om om) (hl w1 (ah B2 hB)) (rx w1 (ah B2 hB))) fun a3 w3 u z3 j4' d3 bel hbx ho=>?_
  refine wp_ret ?_;exact nI rfl (d3.trans (d2.trans (d1.trans d0))) j4' hbx (E_ ⟨_,rfl,jg XN bel om,u,rfl,ho.base XN.size⟩)
 ·have hst':(s==t)=false:=beq_eq_false_iff_ne.2 hst;refine wp_cond_false (by rw[az,h11,hst']) ?_;refine wp_skip ?_;refine wp_seq ?_;refine ad3 (z:=decide (nv B a<nv B b)) (A:=dg B (if nv B a<nv B b then nv B b-nv B a else nv B a-nv B b)) z2 (j2.trans k1) (j3.trans k2) om om (cc l1 c0) (cc l1 c1) (cc l2 c2) (cc l2 c3) (fun w1 hB=>?_) fun a3 w3 z3 m2 m3 m4 h5 h6 d3 B3=>?_
  ·have hd:=diffO a b ha hb' om om;rw[←apply_ite (dg B)]at hd;exact Ij (vs:=[.slice xa xn xc,.slice ya yn yc]) hd (fun w' H' z hz=>(Rep.up (ov:=fun _=>none) hz).nT) (hl w1 (ah B2 hB)) (rx w1 (ah B2 hB))
  have B3':=ah B2 B3;have s3:=B3.size;have ez:zv s a+zv t b=zI (s != decide (nv B a<nv B b)) (if nv B a<nv B b then nv B b-nv B a else nv B a-nv B b):=by
   unfold zv zI;by_cases hlt:nv B a<nv B b
   ·rw[if_pos hlt];cases s<;>cases t<;>simp at hst<;>simp[hlt]<;>omega
   ·rw[if_neg hlt];cases s<;>cases t<;>simp at hst<;>simp[hlt]<;>omega
  rw[ez];generalize hu5:a3.tmps.getD 5 undef=u5 at*
  refine wp_seq ?_;refine ad4 (A:=dg B (if nv B a<nv B b then nv B b-nv B a else nv B a-nv B b)) (z:=decide (nv B a<nv B b)) z3 (m2.trans (j2.trans k1)) (m4.trans (j4.trans k3)) hu5 h6 om om ((af (B3.block _ om)).trans (cc l1 c0)) ((af (B3.block _ om)).trans (cc l1 c1)) ((B3.block _ om).trans hb2) rfl h5 fun a4 w4 u z4 j4' d4 bel hbx ho=>?_
  refine wp_ret ?_;exact nI rfl (d4.trans (d3.trans (d2.trans (d1.trans d0)))) j4' hbx (E_ ⟨_,rfl,jg (ah XN B3) bel om,u,rfl,ho.base XN.size⟩)
theorem zY:Calls Tryz.prog 8 #[vx,vy] w (ZR w (zv s a-zv t b)):=by
 have hy0:=hy;have hx0:=hx;obtain⟨x,rfl,hr⟩:=hx;obtain⟨xa,xn,xc,rfl⟩:=bK hr;obtain⟨y,rfl,hs⟩:=hy;obtain⟨ya,yn,yc,rfl⟩:=bK hs;refine bW (vs:=[.agg #[.bool s,.slice xa xn xc],.agg #[.bool t,.slice ya yn yc]]) Tryz.func8 (c:=qf Tryz.f8) rfl (by show 2≤_;decide) fun a0 z0 e0 d0=>?_
 have i0:a0.tmps.getD 0 undef= .agg #[.bool s,.slice xa xn xc]:=e0 0 (by show 0<2;decide);have i1:a0.tmps.getD 1 undef= .agg #[.bool t,.slice ya yn yc]:=e0 1 (by show 1<2;decide);change a0.tmps.size=9 at z0;refine wp_seq ?_;refine sb0 z0 i0 i1 fun a1 z1 s1 k1 k2 k3 d1=>?_
 obtain⟨B1,l1,l2,l3,c0,c1,c2,c3,hb⟩:=bx2 w s (.slice xa xn xc) t (.slice ya yn yc);have lnb:(dg B (-(zv t b)).natAbs).length≤100000000:=by
  rw[Int.natAbs_neg,mY];exact Nat.le_trans (dS (b_ hb')) lb
 refine wp_seq ?_;refine sb1 (t2:=decide (-(zv t b)<0)) (B2:=dg B (-(zv t b)).natAbs) (sg:=decide (zv s a-zv t b<0)) (A:=dg B (zv s a-zv t b).natAbs) z1 k1 k2 k3 l1 l2 l3 c0 c1 c2 c3 hb rfl (fun w1 hB=>Fa (fun q h=>Nat.lt_of_lt_of_le (bH q h) (ah B1 hB).size) (hy0.up bH (ah B1 hB)) hb' lb) (fun w1 u hB hu=>?_) fun a2 w2 u z2 j2 d2 bel hbx ho=>?_
 ·have h1:=(hx0.up bH (ah B1 hB));obtain⟨x',e1,h1⟩:=h1;have h2:IA w1 (fun q=>q<w1.heap.size) (.agg #[.bool s,.slice xa xn xc]) s a:=⟨x',e1,h1.mono (fun q h=>Nat.lt_of_lt_of_le (bH q h) (ah B1 hB).size) fun _ _=>rfl⟩;have h3:IA w1 (fun q=>q<w1.heap.size) (.agg #[.bool (decide (-(zv t b)<0)),u]) (decide (-(zv t b)<0)) (dg B (-(zv t b)).natAbs):=⟨u,rfl,hu.rep⟩;have:=rF (fun q h=>h) h2 ha la h3 (bF _) lnb;rw[kW,←Int.sub_eq_add_neg]at this;exact this
 refine wp_ret ?_;exact nI rfl (d2.trans (d1.trans d0)) j2 hbx ⟨_,rfl,jg B1 bel om,u,rfl,ho.base B1.size⟩
end
end
section
variable {a:Act}{w:World}{R:Exit→Act→World→Prop}
theorem kG{fn:Func}{a:Act}{w':World}{R:Ending→World→Prop}{p u g:Nat}{s:Bool}{x y:Value}{fr:Nat×Nat}(h:fn.results=#[.cell p 25,.tmp u])(hd:a.defers=[])(hp:a.tmps.getD p undef= .pointer (some ⟨g,0,none⟩))(hg:w'.heap[g]? =some (.cells #[.bool s,x] 25 fr))(hu:a.tmps.getD u undef=y)(hR:R (.returned (.tuple #[.agg #[.bool s,x],y])) w'):bodyPost Tryz.prog fn R .ret a w':=by
 refine⟨hd,_,?_,hR⟩;have hp':a.tmps[p]?.getD undef= .pointer (some ⟨g,0,none⟩):=by simpa using hp
 have hu':a.tmps[u]?.getD undef=y:=by simpa using hu
 simp[results,h,hp',hu',asAddr,run_loadVar_row w' g _ 25 _ fr _ hg Tryz.underlying25 rfl (by kernel_rfl),Sem.run_bind,Result.andThen]
theorem aS{w:World}{q:Nat}{o:Obj}(h:w.heap[q]? =some o):q<w.heap.size:=(Array.getElem?_eq_some_iff.1 h).1
theorem ex0{s:Bool}{xa:Option Addr}{xn xc:Nat}{t:Bool}{ya:Option Addr}{yn yc:Nat}(hz:a.tmps.size=27)(h0:a.tmps.getD 0 undef= .agg #[.bool s,.slice xa xn xc])(h1:a.tmps.getD 1 undef= .agg #[.bool t,.slice ya yn yc])
 (kk:∀(a':Act),kA a a' 27 2 [(2,.pointer (some ⟨w.heap.size,0,none⟩)),(3,.pointer (some ⟨w.heap.size+1,0,none⟩)),(4,.pointer (some ⟨w.heap.size+2,0,none⟩)),(5,.int .i64 0)]<|R .normal a' (qo w s (.slice xa xn xc) t (.slice ya yn yc))):(q1 (qf Tryz.f16)).wp Tryz.prog R a w:=by
 replace kk:=pu kk
 refine rl fun gA=>?_
 go_wp2
 exact kk.down _ gZ gN gS gS gS gS rfl
theorem ex1{x y:Value}{qx qy:Nat}{A:List Nat}{f:Int}(hz:a.tmps.size=27)(h2:a.tmps.getD 2 undef= .pointer (some ⟨qx,0,none⟩))(h3:a.tmps.getD 3 undef= .pointer (some ⟨qy,0,none⟩))
 (c1:w.cell? ⟨qx,1,none⟩=some x) (c3:w.cell? ⟨qy,1,none⟩=some y) (cN:Calls Tryz.prog 48 #[x,y] w (Dh w A (.int .i64 f)))
 (kk:∀(a':Act) (w1:World) (u:Value) (n:Nat),kA a a' 27 6 [(6,u),(7,.int .i64 f)]<|Below w.heap.size w w1→w1.ownsRow w.heap.size 54 1 u n (Wv A)→n≤maxLen→R .normal a' w1):(q1 (qd 1 (qf Tryz.f16))).wp Tryz.prog R a w:=by
 replace kk:=pu kk
 refine rl fun gA=>?_
 go_wp2_with (go_at_call 48;refine(cN).mono ?_;rintro e w1 ⟨u,n,rfl,b1,o1,m1⟩;obtain⟨ua,uc,rfl⟩:=aB o1)
 exact kk.down _ w1 _ n gZ gN gS gS rfl b1 o1 m1
theorem ex2t{f:Int}(hz:a.tmps.size=27)(h7:a.tmps.getD 7 undef= .int .i64 f)
 (hl:¬f=0)
 (kk:∀(a':Act),kA a a' 27 8 [(17,.bool true)]<|R .normal a' w):(q1 (q1 (qd 2 (qf Tryz.f16)))).wp Tryz.prog R a w:=by
 replace kk:=pu kk
 refine rl fun gA=>?_
 go_wp2
 exact kk.down _ gZ gN gS rfl
theorem ex2f{f:Int}(hz:a.tmps.size=27)(h7:a.tmps.getD 7 undef= .int .i64 f)
 (hl:f=0)
 (kk:∀(a':Act),kA a a' 27 8 [(17,.bool false)]<|R .normal a' w):(q1 (q1 (qd 2 (qf Tryz.f16)))).wp Tryz.prog R a w:=by
 replace kk:=pu kk
 refine rl fun gA=>?_
 go_wp2
 exact kk.down _ gZ gN gS rfl
theorem ex3{f:Int}{qr:Nat}{old:Array Value}(hz:a.tmps.size=27)(h4:a.tmps.getD 4 undef= .pointer (some ⟨qr,0,none⟩))(h7:a.tmps.getD 7 undef= .int .i64 f)
 (hbox:w.heap[qr]? =some (.cells old 25 (0,0))) (hb2:old.size=2)
 (kk:∀(a':Act),kA a a' 27 5 [(5,.int .i64 f)]<|R .normal a' (w.setRow qr #[.bool false,.slice none 0 0])):(q1 (qt (q2 (q1 (qd 2 (qf Tryz.f16)))))).wp Tryz.prog R a w:=by
 replace kk:=pu kk
 refine rl fun gA=>?_
 go_wp2_with (refine wpList_store_row rfl 25 _ _ rfl qr #[.bool false,.slice none 0 0] gS gS 25 old hbox (by kernel_rfl) hb2 (aN _ _ _ _) ?_)
 exact kk.down _ gZ gN gS rfl
theorem ex4{s t:Bool}{qx qy qr:Nat}{old:Array Value}{ua:Option Addr}{un uc:Nat}(hz:a.tmps.size=27)(h2:a.tmps.getD 2 undef= .pointer (some ⟨qx,0,none⟩))(h3:a.tmps.getD 3 undef= .pointer (some ⟨qy,0,none⟩))(h4:a.tmps.getD 4 undef= .pointer (some ⟨qr,0,none⟩))(h6:a.tmps.getD 6 undef= .slice ua un uc)
 (c0:w.cell? ⟨qx,0,none⟩=some (.bool s)) (c2:w.cell? ⟨qy,0,none⟩=some (.bool t)) (hbox:w.heap[qr]? =some (.cells old 25 (0,0))) (hb2:old.size=2)
 (kk:∀(a':Act) (w1:World),kA a a' 27 5 [(5,.int .i64 0)]<|Below w.heap.size w w1→R .normal a' (w1.setRow qr #[.bool (!(s==t)&&decide (0<un)),.slice ua un uc])):(q1 (qd 3 (qf Tryz.f16))).wp Tryz.prog R a w:=by
 replace kk:=pu kk
 refine rl fun gA=>?_
 go_wp2_with (first|(refine wpList_store_row rfl 25 _ _ rfl qr #[.bool (!(s==t)&&decide (0<un)),.slice ua un uc] gS gS 25 old m_ (by kernel_rfl) hb2 (aN _ _ _ _) ?_)|(go_at_call 40;refine(rE (w:=w) (s:=!(s==t)) (ua:=ua) (n:=un) (c:=uc)).mono ?_;rintro e w1 ⟨rfl,b1⟩;have m_:=(b1.block qr (aS hbox)).trans hbox))
 exact kk.down _ w1 gZ gN gS rfl b1
end
section
def oQ(w:World)(s:Bool)(A:List Nat)(f:Int)(e:Ending)(w':World):Prop:=∃v,e= .returned (.tuple #[v,.int .i64 f])∧Below w.heap.size w w'∧dA w s A v w'
theorem Own.nil(w0 w:World):Own w0 [] (.slice none 0 0) w:=⟨0,Nat.zero_le _,rW _ _ _ _⟩
theorem dw{w w1:World}{q:Nat}{cs:Array Value}(h:Below w.heap.size w w1)(hq:w.heap.size≤q):Below w.heap.size w (w1.setRow q cs):=
 ⟨h.os,h.tape,h.output,by have:=h.size;simpa using this,fun k hk=>(setRow_other w1 q k _ om).trans (h.block k hk)⟩
section
variable {w:World} {vx:Value} {s:Bool} {a:List Nat} {Ha:Nat→Prop} (bH:∀q,Ha q→q<w.heap.size) (hx:IA w Ha vx s a) (ha:Wd a) (la:a.length≤100000000)
variable {vy:Value} {t:Bool} {b:List Nat} (hy:IA w Ha vy t b) (hb':Wd b) (lb:b.length≤100000000)
include bH hx ha la hy hb' lb
theorem Ip:Calls Tryz.prog 16 #[vx,vy] w (oQ w (!(s==t)&&decide (0<(Tz (nv B a) (nv B b)).length)) (Tz (nv B a) (nv B b)) (VA (nv B a) (nv B b))):=by
 obtain⟨x,rfl,hr⟩:=hx;obtain⟨xa,xn,xc,rfl⟩:=bK hr;obtain⟨y,rfl,hs⟩:=hy;obtain⟨ya,yn,yc,rfl⟩:=bK hs;refine bW (vs:=[.agg #[.bool s,.slice xa xn xc],.agg #[.bool t,.slice ya yn yc]]) Tryz.func16 (c:=qf Tryz.f16) rfl (by show 2≤_;decide) fun a0 z0 e0 d0=>?_
 have i0:a0.tmps.getD 0 undef= .agg #[.bool s,.slice xa xn xc]:=e0 0 (by show 0<2;decide);have i1:a0.tmps.getD 1 undef= .agg #[.bool t,.slice ya yn yc]:=e0 1 (by show 1<2;decide);change a0.tmps.size=27 at z0;refine wp_seq ?_;refine ex0 z0 i0 i1 fun a1 z1 s1 k2 k3 k4 k5 d1=>?_
 obtain⟨B1,l1,l2,l3,c0,c1,c2,c3,hb⟩:=bx2 w s (.slice xa xn xc) t (.slice ya yn yc);have hc:=Md (w:=qo w s (.slice xa xn xc) t (.slice ya yn yc)) (Ha:=Ha) (fun q h=>Nat.lt_of_lt_of_le (bH q h) B1.size) (hr.mono (fun _ h=>h) fun q h=>B1.block q (bH q h)) (hs.mono (fun _ h=>h) fun q h=>B1.block q (bH q h)) ha hb' om om;have hq:VA (nv B a) (nv B b)≠0→Tz (nv B a) (nv B b)=[]:=fun h=>by
  by_cases h0:nv B b=0
  ·exact if_pos h0
  ·by_cases h1:nv B a%nv B b=0
   ·exact absurd ((if_neg h0).trans (if_pos h1)) h
   ·exact(if_neg h0).trans (if_neg h1)
 generalize Tz (nv B a) (nv B b)=A at*
 generalize VA (nv B a) (nv B b)=f at*
 refine wp_seq ?_;refine ex1 z1 k2 k3 c1 c3 hc fun a2 w2 u n z2 s2 k6 k7 d2 B2 o1 m1=>?_
 have cc:∀{p o:Nat} {v:Value},p<(qo w s (.slice xa xn xc) t (.slice ya yn yc)).heap.size→(qo w s (.slice xa xn xc) t (.slice ya yn yc)).cell? ⟨p,o,none⟩=some v→w2.cell? ⟨p,o,none⟩=some v:=fun hp h=>(af (B2.block _ hp)).trans h
 have hb2:=(B2.block _ l3).trans hb;have j2:=(s2 2 dc).trans k2;have j3:=(s2 3 dc).trans k3;have j4:=(s2 4 dc).trans k4;have Wy:=ah B1 B2;have dd:=d2.trans (d1.trans d0);refine wp_seq ?_;refine wp_seq ?_;by_cases hf:f=0
 ·refine ex2f z2 k7 hf fun a3 z3 s3 h17 d3=>?_
  refine wp_cond_false (by rw[az,h17]) ?_;refine wp_skip ?_;refine wp_seq ?_;obtain⟨ua,uc,eu⟩:=aB o1;rw[eu]at k6 o1;refine ex4 z3 ((s3 2 dc).trans j2) ((s3 3 dc).trans j3) ((s3 4 dc).trans j4) ((s3 6 dc).trans k6) (cc l1 c0) (cc l2 c2) hb2 rfl fun a4 w4 z4 s4 h5 d4 B4=>?_
  refine wp_ret ?_;have hb4:=(B4.block _ (aS hb2)).trans hb2;have hst:=dO (x:= .bool (!(s==t)&&decide (0<n))) (y:= .slice ua n uc) hb4 rfl;have ho:Own w A (.slice ua n uc) w4:=(Own.base ⟨n,m1,o1⟩ B1.size).up B4;have hn:n=A.length:=wM o1;rw[hn]at hst ho;rw[hn];refine kG rfl (d4.trans (d3.trans dd)) ((s4 4 dc).trans ((s3 4 dc).trans j4)) hst.2 h5 ⟨_,by rw[hf],dw (ah Wy B4) om,_,rfl,ho.st hb4⟩
 ·refine ex2t z2 k7 hf fun a3 z3 s3 h17 d3=>?_
  refine wp_cond_true (by rw[az,h17]) ?_;refine wp_seq ?_;refine ex3 z3 ((s3 4 dc).trans j4) ((s3 7 dc).trans k7) hb2 rfl fun a4 z4 s4 h5 d4=>?_
  refine wp_ret ?_;have hst:=dO (x:= .bool false) (y:= .slice none 0 0) hb2 rfl;have hA:=hq hf;subst hA;refine kG rfl (d4.trans (d3.trans dd)) ((s4 4 dc).trans ((s3 4 dc).trans j4)) hst.2 h5 ⟨_,rfl,dw Wy om,_,?_,Own.nil _ _⟩;simp
end
end
section
variable {a:Act}{w:World}{R:Exit→Act→World→Prop}
def JJ(w:World)(s:Bool)(x:Value)(t:Bool)(y:Value):World:=(qo w s x t y).alloc (.cells #[.bool false,.slice none 0 0] 25)
theorem bx3(w:World)(s:Bool)(x:Value)(t:Bool)(y:Value):Below w.heap.size w (JJ w s x t y)∧(JJ w s x t y).heap.size=w.heap.size+4∧(JJ w s x t y).cell? ⟨w.heap.size,0,none⟩=some (.bool s)∧(JJ w s x t y).cell? ⟨w.heap.size,1,none⟩=some x∧(JJ w s x t y).cell? ⟨w.heap.size+1,0,none⟩=some (.bool t)∧(JJ w s x t y).cell? ⟨w.heap.size+1,1,none⟩=some y∧(JJ w s x t y).heap[w.heap.size+2]? =some (.cells #[.bool false,.slice none 0 0] 25 (0,0))∧(JJ w s x t y).heap[w.heap.size+3]? =some (.cells #[.bool false,.slice none 0 0] 25 (0,0)):=by
 obtain⟨B1,l1,l2,l3,c0,c1,c2,c3,hb⟩:=bx2 w s x t y;have es:(qo w s x t y).heap.size=w.heap.size+3:=by unfold qo;rw[World.size_alloc,World.size_alloc,World.size_alloc]
 have b:=aQ (qo w s x t y) (.cells #[.bool false,.slice none 0 0] 25);have cc:∀{p o:Nat} {v:Value},p<(qo w s x t y).heap.size→(qo w s x t y).cell? ⟨p,o,none⟩=some v→(JJ w s x t y).cell? ⟨p,o,none⟩=some v:=fun hp h=>(af (b.block _ hp)).trans h
 refine⟨ah B1 b,by unfold JJ;rw[World.size_alloc,es],cc l1 c0,cc l1 c1,cc l2 c2,cc l2 c3,(b.block _ l3).trans hb,?_⟩;rw[←es];exact heap_alloc_new _ _
theorem qo0{s:Bool}{xa:Option Addr}{xn xc:Nat}{t:Bool}{ya:Option Addr}{yn yc:Nat}(hz:a.tmps.size=35)(h0:a.tmps.getD 0 undef= .agg #[.bool s,.slice xa xn xc])(h1:a.tmps.getD 1 undef= .agg #[.bool t,.slice ya yn yc])
 (kk:∀(a':Act),kA a a' 35 2 [(2,.pointer (some ⟨w.heap.size,0,none⟩)),(3,.pointer (some ⟨w.heap.size+1,0,none⟩)),(4,.pointer (some ⟨w.heap.size+2,0,none⟩)),(5,.pointer (some ⟨w.heap.size+3,0,none⟩)),(6,.int .i64 0)]<|R .normal a' (JJ w s (.slice xa xn xc) t (.slice ya yn yc))):(q1 (qf Tryz.f14)).wp Tryz.prog R a w:=by
 replace kk:=pu kk
 refine rl fun gA=>?_
 go_wp2
 exact kk.down _ gZ gN gS gS gS gS gS rfl
theorem qo1{x y:Value}{qx qy:Nat}{A1 A2:List Nat}{f:Int}(hz:a.tmps.size=35)(h2:a.tmps.getD 2 undef= .pointer (some ⟨qx,0,none⟩))(h3:a.tmps.getD 3 undef= .pointer (some ⟨qy,0,none⟩))
 (c1:w.cell? ⟨qx,1,none⟩=some x) (c3:w.cell? ⟨qy,1,none⟩=some y) (cN:Calls Tryz.prog 47 #[x,y] w (Q_ w A1 A2 f))
 (kk:∀(a':Act) (w1:World) (v1 v2:Value) (n1 n2:Nat),kA a a' 35 7 [(7,v1),(8,v2),(9,.int .i64 f)]<|Below w.heap.size w w1→w1.ownsRow w.heap.size 54 1 v1 n1 (Wv A1)→w1.ownsRow w.heap.size 54 1 v2 n2 (Wv A2)→(∀q,v1.ownBlock=some q→v2.ownBlock≠some q)→R .normal a' w1):(q1 (qd 1 (qf Tryz.f14))).wp Tryz.prog R a w:=by
 replace kk:=pu kk
 refine rl fun gA=>?_
 go_wp2_with (go_at_call 47;refine(cN).mono ?_;rintro e w1 ⟨v1,v2,n1,n2,rfl,b1,o1,o2,s12⟩;obtain⟨ua,uc,rfl⟩:=aB o1;obtain⟨va,vc,rfl⟩:=aB o2)
 exact kk.down _ w1 _ _ n1 n2 gZ gN gS gS gS rfl b1 o1 o2 s12
theorem qo2t{f:Int}(hz:a.tmps.size=35)(h9:a.tmps.getD 9 undef= .int .i64 f)
 (hl:¬f=0)
 (kk:∀(a':Act),kA a a' 35 10 [(20,.bool true)]<|R .normal a' w):(q1 (q1 (qd 2 (qf Tryz.f14)))).wp Tryz.prog R a w:=by
 replace kk:=pu kk
 refine rl fun gA=>?_
 go_wp2
 exact kk.down _ gZ gN gS rfl
theorem qo2f{f:Int}(hz:a.tmps.size=35)(h9:a.tmps.getD 9 undef= .int .i64 f)
 (hl:f=0)
 (kk:∀(a':Act),kA a a' 35 10 [(20,.bool false)]<|R .normal a' w):(q1 (q1 (qd 2 (qf Tryz.f14)))).wp Tryz.prog R a w:=by
 replace kk:=pu kk
 refine rl fun gA=>?_
 go_wp2
 exact kk.down _ gZ gN gS rfl
theorem qo3{f:Int}{qr qs:Nat}{old Dj:Array Value}(hz:a.tmps.size=35)(h4:a.tmps.getD 4 undef= .pointer (some ⟨qr,0,none⟩))(h5:a.tmps.getD 5 undef= .pointer (some ⟨qs,0,none⟩))(h9:a.tmps.getD 9 undef= .int .i64 f)
 (hbox:w.heap[qr]? =some (.cells old 25 (0,0))) (hb2:old.size=2) (RQ:w.heap[qs]? =some (.cells Dj 25 (0,0))) (hb3:Dj.size=2) (hne:qs≠qr)
 (kk:∀(a':Act),kA a a' 35 6 [(6,.int .i64 f)]<|R .normal a' ((w.setRow qr #[.bool false,.slice none 0 0]).setRow qs #[.bool false,.slice none 0 0])):(q1 (qt (q2 (q1 (qd 2 (qf Tryz.f14)))))).wp Tryz.prog R a w:=by
 replace kk:=pu kk
 refine rl fun gA=>?_
 go_wp2_with (first|(refine wpList_store_row rfl 25 _ _ rfl qr #[.bool false,.slice none 0 0] gS gS 25 old hbox (by kernel_rfl) hb2 (aN _ _ _ _) ?_)|(refine wpList_store_row rfl 25 _ _ rfl qs #[.bool false,.slice none 0 0] gS gS 25 Dj ((setRow_other _ _ _ _ hne).trans RQ) (by kernel_rfl) hb3 (aN _ _ _ _) ?_))
 exact kk.down _ gZ gN gS rfl
def qo4Φ(w0:World)(s t:Bool)(qx qy:Nat)(ua ra:Option Addr)(un uc rn rc:Nat):Nat→Value→World→Prop
 |0,v,_=>v= .pointer (some ⟨qx,0,none⟩)
 |1,v,_=>v= .bool s
 |2,v,_=>v= .pointer (some ⟨qy,0,none⟩)
 |3,v,_=>v= .bool t
 |4,v,_=>v= .bool (!(s==t))
 |5,v,_=>v= .slice ua un uc
 |6,v,_=>v= .agg #[.bool (!(s==t)&&decide (0<un)),.slice ua un uc]
 |7,v,_=>v= .pointer (some ⟨qx,0,none⟩)
 |8,v,_=>v= .bool s
 |9,v,_=>v= .slice ra rn rc
 |10,v,_=>v= .agg #[.bool (s&&decide (0<rn)),.slice ra rn rc]
 |_,_,_=>False
theorem qo4{s t:Bool}{qx qy qr qs:Nat}{ua ra:Option Addr}{un uc rn rc:Nat}{old Dj:Array Value}(hz:a.tmps.size=35)(h2:a.tmps.getD 2 undef= .pointer (some ⟨qx,0,none⟩))(h3:a.tmps.getD 3 undef= .pointer (some ⟨qy,0,none⟩))(h4:a.tmps.getD 4 undef= .pointer (some ⟨qr,0,none⟩))(h5:a.tmps.getD 5 undef= .pointer (some ⟨qs,0,none⟩))(h7:a.tmps.getD 7 undef= .slice ua un uc)(h8:a.tmps.getD 8 undef= .slice ra rn rc)(gX:qx<w.heap.size)(lW:qy<w.heap.size)(nP:qr<w.heap.size)(l_qs:qs<w.heap.size)(c0:w.cell? ⟨qx,0,none⟩=some (.bool s))(c1:w.cell? ⟨qy,0,none⟩=some (.bool t))
 (hbox:w.heap[qr]? =some (.cells old 25 (0,0))) (hb2:old.size=2) (RQ:w.heap[qs]? =some (.cells Dj 25 (0,0))) (hb3:Dj.size=2) (hne:qs≠qr)
 (kk:∀(a':Act) (w1:World),a'.tmps.size=35→a'.tmps.getD 4 undef= .pointer (some ⟨qr,0,none⟩)→a'.tmps.getD 5 undef= .pointer (some ⟨qs,0,none⟩)→a'.tmps.getD 6 undef= .int .i64 0→a'.defers=a.defers→Below w.heap.size w w1→R .normal a' ((w1.setRow qr #[.bool (!(s==t)&&decide (0<un)),.slice ua un uc]).setRow qs #[.bool (s&&decide (0<rn)),.slice ra rn rc])):(q1 (qd 3 (qf Tryz.f14))).wp Tryz.prog R a w:=by
 refine fA (n:=11) (N:=35) (qo4Φ w s t qx qy ua ra un uc rn rc) (fun _ _=>none) dB (by kernel_rfl) hz (by kernel_rfl) (fun i v w1 w2 hi h hb=>?_) (fun i v w1 q hi h hq=>?_) (fun i o a1 w1 hi ho hsz hB hold aG K hK=>?_) (fun a1 w1 hsz hdf hB hold hval hsep=>?_)
 ·match i,hi with
  |0,_|1,_|2,_|3,_|4,_|5,_|6,_|7,_|8,_|9,_|10,_=>exact h
 ·cases hq
 ·match i,hi,ho with
  |0,_,ho=>
   obtain rfl:=Option.some.inj ho;have g2:=(hold 2 (aj gK)).trans h2;exact oT
  |1,_,ho=>
   obtain rfl:=Option.some.inj ho;have e0:a1.tmps.getD 24 undef= .pointer (some ⟨qx,0,none⟩):=aG ⟨0,.data⟩ gM rfl;have x0:=(af (i:=0) (hB.block qx gX)).trans c0;exact oT
  |2,_,ho=>
   obtain rfl:=Option.some.inj ho;have g3:=(hold 3 (aj gK)).trans h3;exact oT
  |3,_,ho=>
   obtain rfl:=Option.some.inj ho;have e2:a1.tmps.getD 26 undef= .pointer (some ⟨qy,0,none⟩):=aG ⟨2,.data⟩ gM rfl;have x1:=(af (i:=0) (hB.block qy lW)).trans c1;exact oT
  |4,_,ho=>
   obtain rfl:=Option.some.inj ho;have e1:a1.tmps.getD 25 undef= .bool s:=aG ⟨1,.data⟩ gM rfl;have e3:a1.tmps.getD 27 undef= .bool t:=aG ⟨3,.data⟩ gM rfl;exact oT
  |5,_,ho=>
   obtain rfl:=Option.some.inj ho;have g7:=(hold 7 (aj gK)).trans h7;exact oT
  |6,_,ho=>
   obtain rfl:=Option.some.inj ho;have e4:a1.tmps.getD 28 undef= .bool (!(s==t)):=aG ⟨4,.data⟩ gM rfl;have e5:a1.tmps.getD 29 undef= .slice ua un uc:=aG ⟨5,.data⟩ gM rfl;have hc:=rE (w:=w1) (s:=!(s==t)) (ua:=ua) (n:=un) (c:=uc);replace hK:=pu hK;go_tidy;have gA:=gJ a1;go_simp;refine hc.mono ?_;rintro e w2 ⟨rfl,b⟩;exact hK.down _ w2 rfl b (fun q h=>by cases h)
  |7,_,ho=>
   obtain rfl:=Option.some.inj ho;have g2:=(hold 2 (aj gK)).trans h2;exact oT
  |8,_,ho=>
   obtain rfl:=Option.some.inj ho;have e7:a1.tmps.getD 31 undef= .pointer (some ⟨qx,0,none⟩):=aG ⟨7,.data⟩ gM rfl;have x0:=(af (i:=0) (hB.block qx gX)).trans c0;exact oT
  |9,_,ho=>
   obtain rfl:=Option.some.inj ho;have g8:=(hold 8 (aj gK)).trans h8;exact oT
  |10,_,ho=>
   obtain rfl:=Option.some.inj ho;have e8:a1.tmps.getD 32 undef= .bool s:=aG ⟨8,.data⟩ gM rfl;have e9:a1.tmps.getD 33 undef= .slice ra rn rc:=aG ⟨9,.data⟩ gM rfl;have hc:=rE (w:=w1) (s:=s) (ua:=ra) (n:=rn) (c:=rc);replace hK:=pu hK;go_tidy;have gA:=gJ a1;go_simp;refine hc.mono ?_;rintro e w2 ⟨rfl,b⟩;exact hK.down _ w2 rfl b (fun q h=>by cases h)
 ·have e6:=hval 6 dc;have e10:=hval 10 dc;have eP:=(hold 4 (aj (by kernel_rfl))).trans h4;have eS:=(hold 5 (aj (by kernel_rfl))).trans h5;refine wpList_store_row rfl 25 (.tmp 4) (.tmp 30) rfl qr #[.bool (!(s==t)&&decide (0<un)),.slice ua un uc] eP e6 25 old ((hB.block qr nP).trans hbox) (by kernel_rfl) hb2 (aN _ _ _ _) ?_;refine wpList_store_row rfl 25 (.tmp 5) (.tmp 34) rfl qs #[.bool (s&&decide (0<rn)),.slice ra rn rc] eS e10 25 Dj ((setRow_other _ _ _ _ hne).trans ((hB.block qs l_qs).trans RQ)) (by kernel_rfl) hb3 (aN _ _ _ _) ?_;replace kk:=pu kk;go_wp2;refine kk.down _ w1 (by simp[hsz]) ?_ ?_ ?_ (by first|rfl|exact hdf) hB
  ·exact(ae dc).trans eP
  ·exact(ae dc).trans eS
  ·exact aC (by simp[hsz])
end
section
def RU(w:World)(s1:Bool)(A1:List Nat)(s2:Bool)(A2:List Nat)(f:Int)(e:Ending)(w':World):Prop:=
 ∃u1 u2,e= .returned (.tuple #[.agg #[.bool s1,u1],.agg #[.bool s2,u2],.int .i64 f])∧Below w.heap.size w w'∧Own w A1 u1 w'∧Own w A2 u2 w'∧∀q,u1.ownBlock=some q→u2.ownBlock≠some q
theorem BG{fn:Func}{a:Act}{w':World}{R:Ending→World→Prop}{p p2 u g g2:Nat}{s s2:Bool}{x x2 y:Value}{fr fr2:Nat×Nat}(h:fn.results=#[.cell p 25,.cell p2 25,.tmp u])(hd:a.defers=[])(hp:a.tmps.getD p undef= .pointer (some ⟨g,0,none⟩))(hg:w'.heap[g]? =some (.cells #[.bool s,x] 25 fr))(hp2:a.tmps.getD p2 undef= .pointer (some ⟨g2,0,none⟩))(hg2:w'.heap[g2]? =some (.cells #[.bool s2,x2] 25 fr2))(hu:a.tmps.getD u undef=y)(hR:R (.returned (.tuple #[.agg #[.bool s,x],.agg #[.bool s2,x2],y])) w'):bodyPost Tryz.prog fn R .ret a w':=by
 refine⟨hd,_,?_,hR⟩;have hp':a.tmps[p]?.getD undef= .pointer (some ⟨g,0,none⟩):=by simpa using hp
 have hp2':a.tmps[p2]?.getD undef= .pointer (some ⟨g2,0,none⟩):=by simpa using hp2
 have hu':a.tmps[u]?.getD undef=y:=by simpa using hu
 simp[results,h,hp',hp2',hu',asAddr,run_loadVar_row w' g _ 25 _ fr _ hg Tryz.underlying25 rfl (by kernel_rfl),run_loadVar_row w' g2 _ 25 _ fr2 _ hg2 Tryz.underlying25 rfl (by kernel_rfl),Sem.run_bind,Result.andThen]
section
variable {w:World} {vx:Value} {s:Bool} {a:List Nat} {Ha:Nat→Prop} (bH:∀q,Ha q→q<w.heap.size) (hx:IA w Ha vx s a) (ha:Wd a) (la:a.length≤100000000)
variable {vy:Value} {t:Bool} {b:List Nat} (hy:IA w Ha vy t b) (hb':Wd b) (lb:b.length≤100000000)
include bH hx ha la hy hb' lb
theorem RV:Calls Tryz.prog 14 #[vx,vy] w (RU w (!(s==t)&&decide (0<(qQ (nv B a) (nv B b)).length)) (qQ (nv B a) (nv B b)) (s&&decide (0<(qR (nv B a) (nv B b)).length)) (qR (nv B a) (nv B b)) (qE (nv B b))):=by
 obtain⟨x,rfl,hr⟩:=hx;obtain⟨xa,xn,xc,rfl⟩:=bK hr;obtain⟨y,rfl,hs⟩:=hy;obtain⟨ya,yn,yc,rfl⟩:=bK hs;refine bW (vs:=[.agg #[.bool s,.slice xa xn xc],.agg #[.bool t,.slice ya yn yc]]) Tryz.func14 (c:=qf Tryz.f14) rfl (by show 2≤_;decide) fun a0 z0 e0 d0=>?_
 have i0:a0.tmps.getD 0 undef= .agg #[.bool s,.slice xa xn xc]:=e0 0 (by show 0<2;decide);have i1:a0.tmps.getD 1 undef= .agg #[.bool t,.slice ya yn yc]:=e0 1 (by show 1<2;decide);change a0.tmps.size=35 at z0;refine wp_seq ?_;refine qo0 z0 i0 i1 fun a1 z1 s1 k2 k3 k4 k5 k6 d1=>?_
 obtain⟨B1,ls,c0,c1,c2,c3,hb,hbq⟩:=bx3 w s (.slice xa xn xc) t (.slice ya yn yc);have hc:=Di (w:=JJ w s (.slice xa xn xc) t (.slice ya yn yc)) (Ha:=Ha) (fun q h=>Nat.lt_of_lt_of_le (bH q h) B1.size) (hr.mono (fun _ h=>h) fun q h=>B1.block q (bH q h)) (hs.mono (fun _ h=>h) fun q h=>B1.block q (bH q h)) ha hb' om om;have hq:qE (nv B b)≠0→qQ (nv B a) (nv B b)=[]∧qR (nv B a) (nv B b)=[]:=fun h=>by
  by_cases h0:nv B b=0
  ·rw[h0];exact⟨Qq _,Qr _⟩
  ·exact absurd (Hf om) h
 generalize qQ (nv B a) (nv B b)=A1 at*
 generalize qR (nv B a) (nv B b)=A2 at*
 generalize qE (nv B b)=f at*
 refine wp_seq ?_;refine qo1 z1 k2 k3 c1 c3 hc fun a2 w2 u1 u2 n1 n2 z2 s2 k7 k8 k9 d2 B2 o1 o2 RN=>?_
 have cc:∀{p o:Nat} {v:Value},p<(JJ w s (.slice xa xn xc) t (.slice ya yn yc)).heap.size→(JJ w s (.slice xa xn xc) t (.slice ya yn yc)).cell? ⟨p,o,none⟩=some v→w2.cell? ⟨p,o,none⟩=some v:=fun hp h=>(af (B2.block _ hp)).trans h
 have hb2:=(B2.block _ (aS hb)).trans hb;have Me:=(B2.block _ (aS hbq)).trans hbq;have j2:=(s2 2 dc).trans k2;have j3:=(s2 3 dc).trans k3;have j4:=(s2 4 dc).trans k4;have j5:=(s2 5 dc).trans k5;have Wy:=ah B1 B2;have dd:=d2.trans (d1.trans d0);have hne:w.heap.size+3≠w.heap.size+2:=om;refine wp_seq ?_;refine wp_seq ?_;by_cases hf:f=0
 ·refine qo2f z2 k9 hf fun a3 z3 s3 h20 d3=>?_
  refine wp_cond_false (by rw[az,h20]) ?_;refine wp_skip ?_;refine wp_seq ?_;obtain⟨ua,uc,eu⟩:=aB o1;obtain⟨ra,rc,er⟩:=aB o2;subst eu er;refine qo4 z3 ((s3 2 dc).trans j2) ((s3 3 dc).trans j3) ((s3 4 dc).trans j4) ((s3 5 dc).trans j5) ((s3 7 dc).trans k7) ((s3 8 dc).trans k8) (by have:=B2.size;omega) (by have:=B2.size;omega) (aS hb2) (aS Me) (cc om c0) (cc om c2) hb2 rfl Me rfl hne fun a4 w4 z4 h4 h5 h6 d4 B4=>?_
  refine wp_ret ?_;have hb4:=(B4.block _ (aS hb2)).trans hb2;have hbq4:=(B4.block _ (aS Me)).trans Me;have hst:=dO (x:= .bool (!(s==t)&&decide (0<n1))) (y:= .slice ua n1 uc) hb4 rfl;have RX:=(setRow_other w4 (w.heap.size+2) (w.heap.size+3) #[.bool (!(s==t)&&decide (0<n1)),.slice ua n1 uc] hne).trans hbq4;have hst2:=dO (x:= .bool (s&&decide (0<n2))) (y:= .slice ra n2 rc) RX rfl;have ho1:Own w A1 (.slice ua n1 uc) w4:=(Own.base ⟨n1,RP o1,o1⟩ B1.size).up B4;have ho2:Own w A2 (.slice ra n2 rc) w4:=(Own.base ⟨n2,RP o2,o2⟩ B1.size).up B4;have hn1:n1=A1.length:=wM o1;have hn2:n2=A2.length:=wM o2;rw[←hn1,←hn2];refine BG rfl (d4.trans (d3.trans dd)) h4 ((setRow_other _ _ _ _ (Ne.symm hne)).trans hst.2) h5 hst2.2 h6 ⟨_,_,by rw[hf],dw (dw (ah Wy B4) om) om,(ho1.st hb4).st RX,(ho2.st hb4).st RX,RN⟩
 ·refine qo2t z2 k9 hf fun a3 z3 s3 h20 d3=>?_
  refine wp_cond_true (by rw[az,h20]) ?_;refine wp_seq ?_;refine qo3 z3 ((s3 4 dc).trans j4) ((s3 5 dc).trans j5) ((s3 9 dc).trans k9) hb2 rfl Me rfl hne fun a4 z4 s4 h6 d4=>?_
  refine wp_ret ?_;have hst:=dO (x:= .bool false) (y:= .slice none 0 0) hb2 rfl;have RX:=(setRow_other w2 (w.heap.size+2) (w.heap.size+3) #[.bool false,.slice none 0 0] hne).trans Me;have hst2:=dO (x:= .bool false) (y:= .slice none 0 0) RX rfl;obtain⟨hA,hA2⟩:=hq hf;subst hA hA2;refine BG rfl (d4.trans (d3.trans dd)) ((s4 4 dc).trans ((s3 4 dc).trans j4)) ((setRow_other _ _ _ _ (Ne.symm hne)).trans hst.2) ((s4 5 dc).trans ((s3 5 dc).trans j5)) hst2.2 h6 ⟨_,_,?_,dw (dw Wy om) om,Own.nil _ _,Own.nil _ _,fun q hq=>by cases hq⟩;simp
end
end
section
theorem WA(s t:Bool)(u v:Nat)(hv:0<v):(!(s==t)&&decide (0<(qQ u v).length))=decide (zq (zI s u) (zI t v)<0)∧qQ u v=dg B (zq (zI s u) (zI t v)).natAbs∧(s&&decide (0<(qR u v).length))=decide (zr (zI s u) (zI t v)<0)∧qR u v=dg B (zr (zI s u) (zI t v)).natAbs:=by
 have hz:zI t v≠0:=fun h=>by
  have:=congrArg Int.natAbs h;rw[tY]at this;simp at this;omega
 have e1:zq (zI s u) (zI t v)=zI (!(s==t)) (u/v):=(Jy s t u v).symm;have e2:zr (zI s u) (zI t v)=zI s (u%v):=(EO hz).trans (Jz s t u v).symm;rw[e1,e2,tY,tY,zM,zM,LH hv,show qQ u v=dg B (u/v)from rfl,dgp,dgp];exact⟨rfl,rfl,rfl,rfl⟩
section
variable {w:World} {vx:Value} {s:Bool} {a:List Nat} {Ha:Nat→Prop} (bH:∀q,Ha q→q<w.heap.size) (hx:IA w Ha vx s a) (ha:Wd a) (la:a.length≤100000000)
variable {vy:Value} {t:Bool} {b:List Nat} (hy:IA w Ha vy t b) (hb':Wd b) (lb:b.length≤100000000)
include bH hx ha la hy hb' lb
theorem wP:Calls Tryz.prog 14 #[vx,vy] w (RU w (decide (zq (zv s a) (zv t b)<0)) (dg B (zq (zv s a) (zv t b)).natAbs) (decide (zr (zv s a) (zv t b)<0)) (dg B (zr (zv s a) (zv t b)).natAbs) (ze (zv t b))):=by
 have h:=RV bH hx ha la hy hb' lb;by_cases h0:nv B b=0
 ·have hz:=(zv_z (s:=t)).2 h0;rw[h0,Qq,Qr,Qs]at h;rw[hz,We,V_,show ze 0=1 from rfl];rw[show(0:Int).natAbs=0 from rfl,iq];simpa using h
 ·have hz:zv t b≠0:=fun h=>h0 (zv_z.1 h)
  obtain⟨e1,e2,e3,e4⟩:=WA s t (nv B a) (nv B b) om;rw[Hf om,e1,e3,e2,e4]at h;rw[EP hz];exact h
end
theorem n_raw{f:FuncId}{args:List V}{z:Int}{w:World}{H:Nat→Prop}{vs:List Value}(c:aF Tryz.prog J0 f args (zN z))(hH:∀q,H q→q<w.heap.size)(hr:aA w H vs args):Calls Tryz.prog f vs.toArray w (fun e w1=>∃v,e= .returned v∧Below w.heap.size w w1∧IA w1 (fun q=>q<w1.heap.size) v (decide (z<0)) (dg B z.natAbs)):=by
 refine((c.Yl rfl) w H vs trivial (MO _ _) hH hr).mono ?_;rintro e w' ⟨v,rfl,hB,N,hN,h⟩;rcases h with h|⟨e,sz,cs,n,xs,he,_⟩|⟨r,h,_⟩
 ·obtain⟨vs,rfl,hv⟩:=(Rep.up (ov:=fun _=>none) h).yx;match vs,hv with
  |[],hv=>exact absurd hv.1 sy
  |[_],hv=>exact absurd hv.1 sy
  |_::_::_::_,hv=>exact absurd hv.1 sy
  |[p,q],hv=>
   have h1:=hv.2 0 p _ rfl rfl;have h2:=hv.2 1 q _ rfl rfl;have e1:=(Rep.up (ov:=fun _=>none) h1).nT;subst e1;exact⟨_,rfl,hB,q,rfl,h2.mono (fun q hq=>hq.elim (fun h=>Nat.lt_of_lt_of_le (hH q h) hB.size) (fun h=>(hN q h).2)) fun _ _=>rfl⟩
 ·cases he
 ·cases h
def MP(w:World)(s1:Bool)(u1:Value)(s2:Bool)(u2:Value):World:=(((w.alloc (.cells #[.bool false,.slice none 0 0] 25)).alloc (.cells #[.bool false,.slice none 0 0] 25)).setRow w.heap.size #[.bool s1,u1]).setRow (w.heap.size+1) #[.bool s2,u2]
theorem wQ(w:World)(s1:Bool)(u1:Value)(s2:Bool)(u2:Value):Below w.heap.size w (MP w s1 u1 s2 u2)∧(MP w s1 u1 s2 u2).heap.size=w.heap.size+2∧(MP w s1 u1 s2 u2).heap[w.heap.size]? =some (.cells #[.bool s1,u1] 25 (0,0))∧(MP w s1 u1 s2 u2).heap[w.heap.size+1]? =some (.cells #[.bool s2,u2] 25 (0,0)):=by
 have h1:=heap_alloc2_old w (.cells #[.bool false,.slice none 0 0] 25) (.cells #[.bool false,.slice none 0 0] 25);have h2:=heap_alloc2_new w (.cells #[.bool false,.slice none 0 0] 25) (.cells #[.bool false,.slice none 0 0] 25);have b1:=ah (aQ w (.cells #[.bool false,.slice none 0 0] 25)) (aQ (w.alloc (.cells #[.bool false,.slice none 0 0] 25)) (.cells #[.bool false,.slice none 0 0] 25));refine⟨dw (dw b1 (Nat.le_refl _)) om,by simp[MP],?_,?_⟩
 ·exact(setRow_other _ _ _ _ om).trans (setRow_heap _ _ _ _ _ _ h1)
 ·exact setRow_heap _ _ _ _ _ _ ((setRow_other _ _ _ _ om).trans h2)
end
section
variable {a:Act}{w:World}{R:Exit→Act→World→Prop}
theorem fl0{s:Bool}{xa:Option Addr}{xn xc:Nat}{t:Bool}{ya:Option Addr}{yn yc:Nat}(hz:a.tmps.size=34)(h0:a.tmps.getD 0 undef= .agg #[.bool s,.slice xa xn xc])(h1:a.tmps.getD 1 undef= .agg #[.bool t,.slice ya yn yc])
 (kk:∀(a':Act),kA a a' 34 2 [(2,.pointer (some ⟨w.heap.size,0,none⟩)),(3,.pointer (some ⟨w.heap.size+1,0,none⟩)),(4,.pointer (some ⟨w.heap.size+2,0,none⟩)),(5,.int .i64 0)]<|R .normal a' (qo w s (.slice xa xn xc) t (.slice ya yn yc))):(q1 (qf Tryz.f15)).wp Tryz.prog R a w:=by
 replace kk:=pu kk
 refine rl fun gA=>?_
 go_wp2
 exact kk.down _ gZ gN gS gS gS gS rfl
theorem fl1{s t:Bool}{x y:Value}{qx qy:Nat}{s1 s2:Bool}{A1 A2:List Nat}{f:Int}(hz:a.tmps.size=34)(h2:a.tmps.getD 2 undef= .pointer (some ⟨qx,0,none⟩))(h3:a.tmps.getD 3 undef= .pointer (some ⟨qy,0,none⟩))
 (c0:w.cell? ⟨qx,0,none⟩=some (.bool s)) (c1:w.cell? ⟨qx,1,none⟩=some x) (c2:w.cell? ⟨qy,0,none⟩=some (.bool t)) (c3:w.cell? ⟨qy,1,none⟩=some y) (cN:Calls Tryz.prog 14 #[.agg #[.bool s,x],.agg #[.bool t,y]] w (RU w s1 A1 s2 A2 f))
 (kk:∀(a':Act) (w1:World) (u1 u2:Value),kA a a' 34 6 [(6,.pointer (some ⟨w1.heap.size,0,none⟩)),(7,.pointer (some ⟨w1.heap.size+1,0,none⟩)),(8,.int .i64 f)]<|Below w.heap.size w w1→Own w A1 u1 w1→Own w A2 u2 w1→(∀q,u1.ownBlock=some q→u2.ownBlock≠some q)→R .normal a' (MP w1 s1 u1 s2 u2)):(q1 (qd 1 (qf Tryz.f15))).wp Tryz.prog R a w:=by
 replace kk:=pu kk
 refine rl fun gA=>?_
 go_wp2_with (first|(refine wpList_store_row rfl 25 _ _ rfl w1.heap.size #[.bool s1,.slice ua n1 uc] gS gS 25 #[.bool false,.slice none 0 0] hq1 (by kernel_rfl) rfl (aN _ _ _ _) ?_)|(refine wpList_store_row rfl 25 _ _ rfl (w1.heap.size+1) #[.bool s2,.slice va n2 vc] gS gS 25 #[.bool false,.slice none 0 0] ((setRow_other _ _ _ _ om).trans hq2) (by kernel_rfl) rfl (aN _ _ _ _) ?_)|(go_at_call 14;refine(cN).mono ?_;rintro e w1 ⟨u1,u2,rfl,b1,o1,o2,s12⟩;obtain⟨n1,m1,p1⟩:=o1;obtain⟨n2,m2,p2⟩:=o2;obtain⟨ua,uc,rfl⟩:=aB p1;obtain⟨va,vc,rfl⟩:=aB p2;have hq1:=heap_alloc2_old w1 (.cells #[.bool false,.slice none 0 0] 25) (.cells #[.bool false,.slice none 0 0] 25);have hq2:=heap_alloc2_new w1 (.cells #[.bool false,.slice none 0 0] 25) (.cells #[.bool false,.slice none 0 0] 25)))
 exact kk.down _ w1 _ _ gZ gN gS gS gS rfl b1 ⟨n1,m1,p1⟩ ⟨n2,m2,p2⟩ s12
theorem fl2t{f:Int}(hz:a.tmps.size=34)(h8:a.tmps.getD 8 undef= .int .i64 f)
 (hl:¬f=0)
 (kk:∀(a':Act),kA a a' 34 9 [(17,.bool true)]<|R .normal a' w):(q1 (q1 (qd 2 (qf Tryz.f15)))).wp Tryz.prog R a w:=by
 replace kk:=pu kk
 refine rl fun gA=>?_
 go_wp2
 exact kk.down _ gZ gN gS rfl
theorem fl2f{f:Int}(hz:a.tmps.size=34)(h8:a.tmps.getD 8 undef= .int .i64 f)
 (hl:f=0)
 (kk:∀(a':Act),kA a a' 34 9 [(17,.bool false)]<|R .normal a' w):(q1 (q1 (qd 2 (qf Tryz.f15)))).wp Tryz.prog R a w:=by
 replace kk:=pu kk
 refine rl fun gA=>?_
 go_wp2
 exact kk.down _ gZ gN gS rfl
theorem fl3{f:Int}{qr:Nat}{old:Array Value}(hz:a.tmps.size=34)(h4:a.tmps.getD 4 undef= .pointer (some ⟨qr,0,none⟩))(h8:a.tmps.getD 8 undef= .int .i64 f)
 (hbox:w.heap[qr]? =some (.cells old 25 (0,0))) (hb2:old.size=2)
 (kk:∀(a':Act),kA a a' 34 5 [(5,.int .i64 f)]<|R .normal a' (w.setRow qr #[.bool false,.slice none 0 0])):(q1 (qt (q2 (q1 (qd 2 (qf Tryz.f15)))))).wp Tryz.prog R a w:=by
 replace kk:=pu kk
 refine rl fun gA=>?_
 go_wp2_with (refine wpList_store_row rfl 25 _ _ rfl qr #[.bool false,.slice none 0 0] gS gS 25 old hbox (by kernel_rfl) hb2 (aN _ _ _ _) ?_)
 exact kk.down _ gZ gN gS rfl
def fl4tΦ(w0:World)(s t sr:Bool)(x y ur:Value)(qx qy qb:Nat)(z za zb:Int):Nat→Value→World→Prop
 |0,v,_=>v= .agg #[.bool sr,ur]
 |1,v,_=>v= .int .i64 z
 |2,v,_=>v= .bool true
 |3,v,_=>v= .bool true
 |4,v,_=>v= .agg #[.bool s,x]
 |5,v,_=>v= .int .i64 za
 |6,v,_=>v= .agg #[.bool t,y]
 |7,v,_=>v= .int .i64 zb
 |8,v,_=>v= .bool (za != zb)
 |_,_,_=>False
theorem fl4t{s t sr:Bool}{x y ur:Value}{qx qy qb:Nat}{z za zb:Int}(hz:a.tmps.size=34)(h2:a.tmps.getD 2 undef= .pointer (some ⟨qx,0,none⟩))(h3:a.tmps.getD 3 undef= .pointer (some ⟨qy,0,none⟩))(h7:a.tmps.getD 7 undef= .pointer (some ⟨qb,0,none⟩))(gX:qx<w.heap.size)(lW:qy<w.heap.size)(Iq:qb<w.heap.size)(c0:w.cell? ⟨qx,0,none⟩=some (.bool s))(c1:w.cell? ⟨qx,1,none⟩=some (x))(c2:w.cell? ⟨qy,0,none⟩=some (.bool t))(c3:w.cell? ⟨qy,1,none⟩=some (y))(c4:w.cell? ⟨qb,0,none⟩=some (.bool sr))(c5:w.cell? ⟨qb,1,none⟩=some (ur))
 (hl:¬z=0) (cR:∀w1,Below w.heap.size w w1→Calls Tryz.prog 46 #[.agg #[.bool sr,ur]] w1 (fun e w2=>e= .returned (.int .i64 z)∧Below w1.heap.size w1 w2)) (cX:∀w1,Below w.heap.size w w1→Calls Tryz.prog 46 #[.agg #[.bool s,x]] w1 (fun e w2=>e= .returned (.int .i64 za)∧Below w1.heap.size w1 w2)) (cY:∀w1,Below w.heap.size w w1→Calls Tryz.prog 46 #[.agg #[.bool t,y]] w1 (fun e w2=>e= .returned (.int .i64 zb)∧Below w1.heap.size w1 w2))
 (kk:∀(a':Act) (w':World),a'.tmps.size=34→a'.tmps.getD 2 undef=a.tmps.getD 2 undef→a'.tmps.getD 3 undef=a.tmps.getD 3 undef→a'.tmps.getD 4 undef=a.tmps.getD 4 undef→a'.tmps.getD 6 undef=a.tmps.getD 6 undef→a'.tmps.getD 7 undef=a.tmps.getD 7 undef→a'.tmps.getD 29 undef= .bool (za != zb)→a'.defers=a.defers→Below w.heap.size w w'→R .normal a' w'):(q1 (q1 (qd 3 (qf Tryz.f15)))).wp Tryz.prog R a w:=by
 refine ug (n:=9) (N:=34) (fl4tΦ w s t sr x y ur qx qy qb z za zb) (fun _ _=>none) dB (by kernel_rfl) hz (by kernel_rfl) (fun i v w1 w2 hi h hb=>?_) (fun i v w1 q hi h hq=>?_) (fun i o a1 w1 hi ho hsz hB hold aG K hK=>?_) (fun a1 w1 hsz hdf hB hold hval hsep=>?_)
 ·match i,hi with
  |0,_|1,_|2,_|3,_|4,_|5,_|6,_|7,_|8,_=>exact h
 ·cases hq
 ·match i,hi,ho with
  |0,_,ho=>
   obtain rfl:=Option.some.inj ho;refine bP rfl ?_;have g7:=(hold 7 (aj gK)).trans h7;have x4:=(af (i:=0) (hB.block qb Iq)).trans c4;have x5:=(af (i:=1) (hB.block qb Iq)).trans c5;exact oT
  |1,_,ho=>
   obtain rfl:=Option.some.inj ho;refine bP rfl ?_;have e0:a1.tmps.getD 20 undef= .agg #[.bool sr,ur]:=aG ⟨0,.data⟩ gM rfl;have hc:=cR w1 hB;replace hK:=pu hK;go_tidy;have gA:=gJ a1;go_simp;refine hc.mono ?_;rintro e w2 ⟨rfl,b⟩;exact hK.down _ w2 rfl b (fun q h=>by cases h)
  |2,_,ho=>
   obtain rfl:=Option.some.inj ho;refine bP rfl ?_;have e1:a1.tmps.getD 21 undef= .int .i64 z:=aG ⟨1,.data⟩ gM rfl;replace hK:=pu hK;go_tidy;have gA:=gJ a1;go_simp;first|exact hK.down _ _ rfl (aJ _) (fun q h=>by cases h)|exact hK.down _ _ (congrArg Value.bool (by simp[hl])) (aJ _) (fun q h=>by cases h)
  |3,_,ho=>
   obtain rfl:=Option.some.inj ho;refine bP rfl ?_;have e2:a1.tmps.getD 22 undef= .bool true:=aG ⟨2,.data⟩ gM rfl;exact oT
  |4,_,ho=>
   obtain rfl:=Option.some.inj ho;have eG:a1.tmps.getD 23 undef= .bool true:=aG ⟨3,.guard⟩ gM rfl;refine uV (d:=23) rfl (by kernel_rfl) hsz eG dc rfl ?_;have g2:=(hold 2 (aj gK)).trans h2;have x0:=(af (i:=0) (hB.block qx gX)).trans c0;have x1:=(af (i:=1) (hB.block qx gX)).trans c1;exact oT
  |5,_,ho=>
   obtain rfl:=Option.some.inj ho;have eG:a1.tmps.getD 23 undef= .bool true:=aG ⟨3,.guard⟩ gM rfl;refine uV (d:=23) rfl (by kernel_rfl) hsz eG dc rfl ?_;have e4:a1.tmps.getD 24 undef= .agg #[.bool s,x]:=aG ⟨4,.data⟩ gM rfl;have hc:=cX w1 hB;replace hK:=pu hK;go_tidy;have gA:=gJ a1;go_simp;refine hc.mono ?_;rintro e w2 ⟨rfl,b⟩;exact hK.down _ w2 rfl b (fun q h=>by cases h)
  |6,_,ho=>
   obtain rfl:=Option.some.inj ho;have eG:a1.tmps.getD 23 undef= .bool true:=aG ⟨3,.guard⟩ gM rfl;refine uV (d:=23) rfl (by kernel_rfl) hsz eG dc rfl ?_;have g3:=(hold 3 (aj gK)).trans h3;have x2:=(af (i:=0) (hB.block qy lW)).trans c2;have x3:=(af (i:=1) (hB.block qy lW)).trans c3;exact oT
  |7,_,ho=>
   obtain rfl:=Option.some.inj ho;have eG:a1.tmps.getD 23 undef= .bool true:=aG ⟨3,.guard⟩ gM rfl;refine uV (d:=23) rfl (by kernel_rfl) hsz eG dc rfl ?_;have e6:a1.tmps.getD 26 undef= .agg #[.bool t,y]:=aG ⟨6,.data⟩ gM rfl;have hc:=cY w1 hB;replace hK:=pu hK;go_tidy;have gA:=gJ a1;go_simp;refine hc.mono ?_;rintro e w2 ⟨rfl,b⟩;exact hK.down _ w2 rfl b (fun q h=>by cases h)
  |8,_,ho=>
   obtain rfl:=Option.some.inj ho;have eG:a1.tmps.getD 23 undef= .bool true:=aG ⟨3,.guard⟩ gM rfl;refine uV (d:=23) rfl (by kernel_rfl) hsz eG dc rfl ?_;have e5:a1.tmps.getD 25 undef= .int .i64 za:=aG ⟨5,.data⟩ gM rfl;have e7:a1.tmps.getD 27 undef= .int .i64 zb:=aG ⟨7,.data⟩ gM rfl;exact oT
 ·have e3:a1.tmps.getD 23 undef= .bool true:=hval 3 dc;have g23:=gI hsz e3 dc;have e8:a1.tmps.getD 28 undef= .bool (za != zb):=hval 8 dc;have g28:=gI hsz e8 dc;replace kk:=pu kk;clear cR cX cY;simp only[List.drop_succ_cons,List.drop_zero];go_wp2;refine kk.down _ w1 (by simp[hsz]) ((ae dc).trans (hold 2 (aj (by kernel_rfl)))) ((ae dc).trans (hold 3 (aj (by kernel_rfl)))) ((ae dc).trans (hold 4 (aj (by kernel_rfl)))) ((ae dc).trans (hold 6 (aj (by kernel_rfl)))) ((ae dc).trans (hold 7 (aj (by kernel_rfl)))) ?_ (by first|rfl|exact hdf) hB;exact aC (by simp[hsz])
def fl4fΦ(w0:World)(s t sr:Bool)(x y ur:Value)(qx qy qb:Nat)(z za zb:Int):Nat→Value→World→Prop
 |0,v,_=>v= .agg #[.bool sr,ur]
 |1,v,_=>v= .int .i64 z
 |2,v,_=>v= .bool false
 |3,v,_=>v= .bool false
 |4,v,_=>v=undef
 |5,v,_=>v=undef
 |6,v,_=>v=undef
 |7,v,_=>v=undef
 |8,v,_=>v=undef
 |_,_,_=>False
theorem fl4f{s t sr:Bool}{x y ur:Value}{qx qy qb:Nat}{z za zb:Int}(hz:a.tmps.size=34)(h2:a.tmps.getD 2 undef= .pointer (some ⟨qx,0,none⟩))(h3:a.tmps.getD 3 undef= .pointer (some ⟨qy,0,none⟩))(h7:a.tmps.getD 7 undef= .pointer (some ⟨qb,0,none⟩))(gX:qx<w.heap.size)(lW:qy<w.heap.size)(Iq:qb<w.heap.size)(c0:w.cell? ⟨qx,0,none⟩=some (.bool s))(c1:w.cell? ⟨qx,1,none⟩=some (x))(c2:w.cell? ⟨qy,0,none⟩=some (.bool t))(c3:w.cell? ⟨qy,1,none⟩=some (y))(c4:w.cell? ⟨qb,0,none⟩=some (.bool sr))(c5:w.cell? ⟨qb,1,none⟩=some (ur))
 (hl:z=0) (cR:∀w1,Below w.heap.size w w1→Calls Tryz.prog 46 #[.agg #[.bool sr,ur]] w1 (fun e w2=>e= .returned (.int .i64 z)∧Below w1.heap.size w1 w2)) (cX:∀w1,Below w.heap.size w w1→Calls Tryz.prog 46 #[.agg #[.bool s,x]] w1 (fun e w2=>e= .returned (.int .i64 za)∧Below w1.heap.size w1 w2)) (cY:∀w1,Below w.heap.size w w1→Calls Tryz.prog 46 #[.agg #[.bool t,y]] w1 (fun e w2=>e= .returned (.int .i64 zb)∧Below w1.heap.size w1 w2))
 (kk:∀(a':Act) (w':World),a'.tmps.size=34→a'.tmps.getD 2 undef=a.tmps.getD 2 undef→a'.tmps.getD 3 undef=a.tmps.getD 3 undef→a'.tmps.getD 4 undef=a.tmps.getD 4 undef→a'.tmps.getD 6 undef=a.tmps.getD 6 undef→a'.tmps.getD 7 undef=a.tmps.getD 7 undef→a'.tmps.getD 29 undef= .bool (false)→a'.defers=a.defers→Below w.heap.size w w'→R .normal a' w'):(q1 (q1 (qd 3 (qf Tryz.f15)))).wp Tryz.prog R a w:=by
 refine ug (n:=9) (N:=34) (fl4fΦ w s t sr x y ur qx qy qb z za zb) (fun _ _=>none) dB (by kernel_rfl) hz (by kernel_rfl) (fun i v w1 w2 hi h hb=>?_) (fun i v w1 q hi h hq=>?_) (fun i o a1 w1 hi ho hsz hB hold aG K hK=>?_) (fun a1 w1 hsz hdf hB hold hval hsep=>?_)
 ·match i,hi with
  |0,_|1,_|2,_|3,_|4,_|5,_|6,_|7,_|8,_=>exact h
 ·cases hq
 ·match i,hi,ho with
  |0,_,ho=>
   obtain rfl:=Option.some.inj ho;refine bP rfl ?_;have g7:=(hold 7 (aj gK)).trans h7;have x4:=(af (i:=0) (hB.block qb Iq)).trans c4;have x5:=(af (i:=1) (hB.block qb Iq)).trans c5;exact oT
  |1,_,ho=>
   obtain rfl:=Option.some.inj ho;refine bP rfl ?_;have e0:a1.tmps.getD 20 undef= .agg #[.bool sr,ur]:=aG ⟨0,.data⟩ gM rfl;have hc:=cR w1 hB;replace hK:=pu hK;go_tidy;have gA:=gJ a1;go_simp;refine hc.mono ?_;rintro e w2 ⟨rfl,b⟩;exact hK.down _ w2 rfl b (fun q h=>by cases h)
  |2,_,ho=>
   obtain rfl:=Option.some.inj ho;refine bP rfl ?_;have e1:a1.tmps.getD 21 undef= .int .i64 z:=aG ⟨1,.data⟩ gM rfl;replace hK:=pu hK;go_tidy;have gA:=gJ a1;go_simp;first|exact hK.down _ _ rfl (aJ _) (fun q h=>by cases h)|exact hK.down _ _ (congrArg Value.bool (by simp[hl])) (aJ _) (fun q h=>by cases h)
  |3,_,ho=>
   obtain rfl:=Option.some.inj ho;refine bP rfl ?_;have e2:a1.tmps.getD 22 undef= .bool false:=aG ⟨2,.data⟩ gM rfl;exact oT
  |4,_,ho=>
   obtain rfl:=Option.some.inj ho;have eG:a1.tmps.getD 23 undef= .bool false:=aG ⟨3,.guard⟩ gM rfl;exact uX (d:=23) rfl (by kernel_rfl) hsz eG dc rfl (hK _ _ rfl (aJ _) (fun q h=>by cases h))
  |5,_,ho=>
   obtain rfl:=Option.some.inj ho;have eG:a1.tmps.getD 23 undef= .bool false:=aG ⟨3,.guard⟩ gM rfl;exact uX (d:=23) rfl (by kernel_rfl) hsz eG dc rfl (hK _ _ rfl (aJ _) (fun q h=>by cases h))
  |6,_,ho=>
   obtain rfl:=Option.some.inj ho;have eG:a1.tmps.getD 23 undef= .bool false:=aG ⟨3,.guard⟩ gM rfl;exact uX (d:=23) rfl (by kernel_rfl) hsz eG dc rfl (hK _ _ rfl (aJ _) (fun q h=>by cases h))
  |7,_,ho=>
   obtain rfl:=Option.some.inj ho;have eG:a1.tmps.getD 23 undef= .bool false:=aG ⟨3,.guard⟩ gM rfl;exact uX (d:=23) rfl (by kernel_rfl) hsz eG dc rfl (hK _ _ rfl (aJ _) (fun q h=>by cases h))
  |8,_,ho=>
   obtain rfl:=Option.some.inj ho;have eG:a1.tmps.getD 23 undef= .bool false:=aG ⟨3,.guard⟩ gM rfl;exact uX (d:=23) rfl (by kernel_rfl) hsz eG dc rfl (hK _ _ rfl (aJ _) (fun q h=>by cases h))
 ·have e3:a1.tmps.getD 23 undef= .bool false:=hval 3 dc;have g23:=gI hsz e3 dc;replace kk:=pu kk;clear cR cX cY;simp only[List.drop_succ_cons,List.drop_zero];go_wp2;refine kk.down _ w1 (by simp[hsz]) ((ae dc).trans (hold 2 (aj (by kernel_rfl)))) ((ae dc).trans (hold 3 (aj (by kernel_rfl)))) ((ae dc).trans (hold 4 (aj (by kernel_rfl)))) ((ae dc).trans (hold 6 (aj (by kernel_rfl)))) ((ae dc).trans (hold 7 (aj (by kernel_rfl)))) ?_ (by first|rfl|exact hdf) hB;exact aC (by simp[hsz])
def XV(w0:World)(sq sg:Bool)(uq:Value)(qr:Nat)(A:List Nat):Nat→Value→World→Prop
 |0,v,_=>v= .agg #[.bool sq,uq]
 |1,v,w=>∃N:Nat→Prop,(∀q,N q→q<w.heap.size)∧IA w N v false (dg B 1)
 |2,v,w=>dA w0 sg A v w
 |_,_,_=>False
theorem fl5{sq sg:Bool}{uq:Value}{qr:Nat}{A:List Nat}(hz:a.tmps.size=34)(h6:a.tmps.getD 6 undef= .pointer (some ⟨qr,0,none⟩))(nP:qr<w.heap.size)(c0:w.cell? ⟨qr,0,none⟩=some (.bool sq))(c1:w.cell? ⟨qr,1,none⟩=some (uq))
 (hbox:w.heap[qr]? =some (.cells #[.bool sq,uq] 25 (0,0))) (cO:∀w1,Below w.heap.size w w1→Calls Tryz.prog 45 #[.int .i64 1] w1 (fun e w2=>∃v,e= .returned v∧Below w1.heap.size w1 w2∧IA w2 (fun q=>q<w2.heap.size) v false (dg B 1))) (cS:∀w1 v,Below w.heap.size w w1→∀N:Nat→Prop,(∀q,N q→q<w1.heap.size)→IA w1 N v false (dg B 1)→Calls Tryz.prog 8 #[.agg #[.bool sq,uq],v] w1 (zX w1 sg A))
 (kk:∀(a':Act) (w':World) (u:Value),a'.tmps.size=34→a'.tmps.getD 4 undef=a.tmps.getD 4 undef→a'.tmps.getD 6 undef= .pointer (some ⟨qr,0,none⟩)→a'.defers=a.defers→aY w (fun k=>k=qr) w'→w'.heap[qr]? =some (.cells #[.bool sg,u] 25 (0,0))→Own w A u w'→R .normal a' w'):(qt (q2 (q1 (qd 3 (qf Tryz.f15))))).wp Tryz.prog R a w:=by
 refine fA (n:=3) (N:=34) (XV w sq sg uq qr A) (fun _ _=>none) dB (by kernel_rfl) hz (by kernel_rfl) (fun i v w1 w2 hi h hb=>?_) (fun i v w1 q hi h hq=>?_) (fun i o a1 w1 hi ho hsz hB hold aG K hK=>?_) (fun a1 w1 hsz hdf hB hold hval hsep=>?_)
 ·match i,hi with
  |0,_=>exact h
  |1,_=>obtain⟨N,h1,h2⟩:=h;exact⟨N,fun q hq=>Nat.lt_of_lt_of_le (h1 q hq) hb.size,h2.up h1 hb⟩
  |2,_=>exact dA.up h hb
 ·cases hq
 ·match i,hi,ho with
  |0,_,ho=>
   obtain rfl:=Option.some.inj ho;have g6:=(hold 6 (aj gK)).trans h6;have x0:=(af (i:=0) (hB.block qr nP)).trans c0;have x1:=(af (i:=1) (hB.block qr nP)).trans c1;exact oT
  |1,_,ho=>
   obtain rfl:=Option.some.inj ho;have hc:=cO w1 hB;replace hK:=pu hK;go_tidy;have gA:=gJ a1;go_simp;refine hc.mono ?_;rintro e w2 ⟨v,rfl,b,h⟩;exact hK.down v w2 ⟨_,fun q h=>h,h⟩ b (fun q h=>by cases h)
  |2,_,ho=>
   obtain rfl:=Option.some.inj ho;have e0:a1.tmps.getD 30 undef= .agg #[.bool sq,uq]:=aG ⟨0,.data⟩ gM rfl;have e1:XV w sq sg uq qr A 1 (a1.tmps.getD 31 undef) w1:=aG ⟨1,.data⟩ gM rfl;obtain⟨N,hN,x',ex,hrx⟩:=e1;have g31:=gI hsz ex dc;have hc:=cS w1 _ hB N hN ⟨x',rfl,hrx⟩;have hs:=hB.size;replace hK:=pu hK;go_tidy;have gA:=gJ a1;go_simp;refine hc.mono ?_;rintro e w2 ⟨v,rfl,b,hv⟩;obtain⟨u,rfl,hu⟩:=hv;exact hK.down _ w2 ⟨u,rfl,hu.base hs⟩ b (fun q h=>by cases h)
 ·have eR:dA w sg A (a1.tmps.getD 32 undef) w1:=hval 2 dc;obtain⟨u,eu,hu⟩:=eR;have eP:=(hold 6 (aj (by kernel_rfl))).trans h6;have hb':=(hB.block qr nP).trans hbox;have hst:=dO (x:= .bool sg) (y:=u) hb' rfl;refine wpList_store_row rfl 25 (.tmp 6) (.tmp 32) rfl qr #[.bool sg,u] eP eu 25 #[.bool sq,uq] hb' (by kernel_rfl) rfl ?_ ?_
  ·obtain⟨m,_,ho⟩:=hu;obtain⟨ua,uc,rfl⟩:=aB ho;exact aN _ _ _ _
  ·refine kk _ _ u hsz (hold 4 (aj (by kernel_rfl))) eP hdf ?_ hst.2 (hu.st hb');exact⟨hst.1.os.trans hB.os,hst.1.tape.trans hB.tape,hst.1.output.trans hB.output,by have:=hB.size;have:=hst.1.size;omega,fun k hk hne=>(hst.1.block k (by have:=hB.size;omega) hne).trans (hB.block k hk)⟩
theorem fl6{sq:Bool}{qr qb:Nat}{old:Array Value}{ua:Option Addr}{un uc:Nat}(hz:a.tmps.size=34)(h4:a.tmps.getD 4 undef= .pointer (some ⟨qr,0,none⟩))(h6:a.tmps.getD 6 undef= .pointer (some ⟨qb,0,none⟩))
 (c0:w.cell? ⟨qb,0,none⟩=some (.bool sq)) (c1:w.cell? ⟨qb,1,none⟩=some (.slice ua un uc)) (hbox:w.heap[qr]? =some (.cells old 25 (0,0))) (hb2:old.size=2)
 (kk:∀(a':Act),kA a a' 34 5 [(5,.int .i64 0)]<|R .normal a' (w.setRow qr #[.bool sq,.slice ua un uc])):(q1 (qd 4 (qf Tryz.f15))).wp Tryz.prog R a w:=by
 replace kk:=pu kk
 refine rl fun gA=>?_
 go_wp2_with (refine wpList_store_row rfl 25 _ _ rfl qr #[.bool sq,.slice ua un uc] gS gS 25 old hbox (by kernel_rfl) hb2 (aN _ _ _ _) ?_)
 exact kk.down _ gZ gN gS rfl
end
section
theorem IA.rep{w:World}{Ha:Nat→Prop}{v:Value}{s:Bool}{a:List Nat}(h:IA w Ha v s a):aO w Ha v (zL s a):=by
 obtain⟨x,rfl,h⟩:=h;obtain⟨h1,h2⟩:=LZ (.b s) h;exact .g [.bool s,x] [.b s,.l 1 (W a)] h1 h2
theorem oU{w:World}{Ha:Nat→Prop}{v:Value}{s:Bool}{a:List Nat}(hH:∀q,Ha q→q<w.heap.size)(h:IA w Ha v s a)(ha:Wd a)(la:a.length≤1000000000):Calls Tryz.prog 46 #[v] w (fun e w2=>e= .returned (.int .i64 (jy (zv s a)))∧Below w.heap.size w w2):=
 RI (vs:=[v]) (HY s a ha la) hH (z_ h.rep)
theorem RY{w:World}:Calls Tryz.prog 45 #[.int .i64 1] w (fun e w2=>∃v,e= .returned v∧Below w.heap.size w w2∧IA w2 (fun q=>q<w2.heap.size) v false (dg B 1)):=
 n_raw (vs:=[.int .i64 1]) (z:=1) (H:=fun _=>False) (wJ 1 dc dc) (fun _ h=>h.elim) (z_ (.i _ _))
section
variable {w:World} {vx:Value} {s:Bool} {a:List Nat} {Ha:Nat→Prop} (bH:∀q,Ha q→q<w.heap.size) (hx:IA w Ha vx s a) (ha:Wd a) (la:a.length≤100000000)
variable {vy:Value} {t:Bool} {b:List Nat} (hy:IA w Ha vy t b) (hb':Wd b) (lb:b.length≤100000000)
include bH hx ha la hy hb' lb
theorem zZ:Calls Tryz.prog 15 #[vx,vy] w (oQ w (decide ((zv s a).fdiv (zv t b)<0)) (dg B ((zv s a).fdiv (zv t b)).natAbs) (ze (zv t b))):=by
 have hx0:=hx;have hy0:=hy;obtain⟨x,rfl,hr⟩:=hx;obtain⟨xa,xn,xc,rfl⟩:=bK hr;obtain⟨y,rfl,hs⟩:=hy;obtain⟨ya,yn,yc,rfl⟩:=bK hs;obtain⟨B1,l1,l2,l3,c0,c1,c2,c3,hb⟩:=bx2 w s (.slice xa xn xc) t (.slice ya yn yc);have hHw:∀w1,Below w.heap.size w w1→∀q,Ha q→q<w1.heap.size:=fun w1 hB q h=>Nat.lt_of_lt_of_le (bH q h) hB.size
 have hqz:=wP (hHw _ B1) (hx0.up bH B1) ha la (hy0.up bH B1) hb' lb;have hsx:=fun w1 hB=>oU (hHw w1 hB) (hx0.up bH hB) ha om
 have hsy:=fun w1 hB=>oU (hHw w1 hB) (hy0.up bH hB) hb' om
 have hl:=qW (s:=s) ha la;have lq:(dg B (zq (zv s a) (zv t b)).natAbs).length≤100000000:=V7 (Nat.lt_of_le_of_lt (zO (zv s a) (zv t b)) hl);have lr:(dg B (zr (zv s a) (zv t b)).natAbs).length≤100000000:=V7 (Nat.lt_of_le_of_lt (zQ (zv s a) (zv t b)) hl);generalize zv s a=X at*
 generalize zv t b=Y at*
 refine bW (vs:=[.agg #[.bool s,.slice xa xn xc],.agg #[.bool t,.slice ya yn yc]]) Tryz.func15 (c:=qf Tryz.f15) rfl (by show 2≤_;decide) fun a0 z0 e0 d0=>?_
 have i0:a0.tmps.getD 0 undef= .agg #[.bool s,.slice xa xn xc]:=e0 0 (by show 0<2;decide);have i1:a0.tmps.getD 1 undef= .agg #[.bool t,.slice ya yn yc]:=e0 1 (by show 1<2;decide);change a0.tmps.size=34 at z0;refine wp_seq ?_;refine fl0 z0 i0 i1 fun a1 z1 s1 k2 k3 k4 k5 d1=>?_
 refine wp_seq ?_;refine fl1 z1 k2 k3 c0 c1 c2 c3 hqz fun a2 w2 u1 u2 z2 s2 k6 k7 k8 d2 B2 o1 o2 _=>?_
 obtain⟨B3,ls,hq1,hq2⟩:=wQ w2 (decide (zq X Y<0)) u1 (decide (zr X Y<0)) u2;have s12:=B1.size;have s22:=B2.size;have BW:=ah B1 (ah B2 B3);have hbW:=((ah B2 B3).block _ l3).trans hb;have o1W:=(o1.base s12).up B3;have o2W:=(o2.base s12).up B3;have cW:∀{p o:Nat} {v:Value},p<(qo w s (.slice xa xn xc) t (.slice ya yn yc)).heap.size→(qo w s (.slice xa xn xc) t (.slice ya yn yc)).cell? ⟨p,o,none⟩=some v→(MP w2 (decide (zq X Y<0)) u1 (decide (zr X Y<0)) u2).cell? ⟨p,o,none⟩=some v:=fun hp h=>(af ((ah B2 B3).block _ hp)).trans h
 have d0:=c0;have d1':=c1;have d2':=c2;have d3':=c3;replace c0:=cW l1 c0;replace c1:=cW l1 c1;replace c2:=cW l2 c2;replace c3:=cW l2 c3;have j2:=(s2 2 dc).trans k2;have j3:=(s2 3 dc).trans k3;have j4:=(s2 4 dc).trans k4;generalize MP w2 (decide (zq X Y<0)) u1 (decide (zr X Y<0)) u2=W at*
 have dd:a2.defers=[]:=d2.trans (d1.trans ‹a0.defers=[]›);refine wp_seq ?_;refine wp_seq ?_;by_cases hf:ze Y=0
 ·have h0:Y≠0:=fun h=>by rw[h]at hf;cases hf
  have fin:∀(a5:Act) (w5:World) (z:Int) (u:Value),a5.tmps.size=34→a5.tmps.getD 4 undef= .pointer (some ⟨w.heap.size+2,0,none⟩)→a5.tmps.getD 6 undef= .pointer (some ⟨w2.heap.size,0,none⟩)→a5.defers=[]→Below w.heap.size w w5→w5.heap[w.heap.size+2]? =some (.cells #[.bool false,.slice none 0 0] 25 (0,0))→w5.heap[w2.heap.size]? =some (.cells #[.bool (decide (z<0)),u] 25 (0,0))→Own w (dg B z.natAbs) u w5→z=X.fdiv Y→(qd 4 (qf Tryz.f15)).wp Tryz.prog (bodyPost Tryz.prog Tryz.f15 (oQ w (decide (X.fdiv Y<0)) (dg B (X.fdiv Y).natAbs) (ze Y))) a5 w5:=by
   intro a5 w5 z u y1 y2 y3 y4 y5 y6 y7 y8 y9;subst y9;obtain⟨m,hm,ho⟩:=y8;obtain⟨ua,uc,rfl⟩:=aB ho;refine wp_seq ?_;refine fl6 y1 y2 y3 (cell_of_row _ _ 0 _ _ _ y7) (cell_of_row _ _ 1 _ _ _ y7) y6 rfl fun a6 z6 s6 h5 d6=>?_
   refine wp_ret ?_;refine kG rfl (d6.trans y4) ((s6 4 dc).trans y2) (dO y6 rfl).2 h5 ⟨_,by rw[hf],dw y5 om,_,rfl,Own.st ⟨m,hm,ho⟩ y6⟩
  refine fl2f z2 k8 hf fun a3 z3 s3 h17 d3=>?_
  refine wp_cond_false (by rw[az,h17]) ?_;refine wp_skip ?_;refine wp_seq ?_;refine wp_seq ?_;have zrr:=EO (x:=X) h0;have g6:=(s3 6 dc).trans k6;have g7:=(s3 7 dc).trans k7;have g2:=(s3 2 dc).trans j2;have g3:=(s3 3 dc).trans j3;have g4:=(s3 4 dc).trans j4;have FB:∀w1,Below W.heap.size W w1→Calls Tryz.prog 46 #[.agg #[.bool (decide (zr X Y<0)),u2]] w1 (fun e w2=>e= .returned (.int .i64 (jy (zr X Y)))∧Below w1.heap.size w1 w2):=fun w1 hB=>by
   have:=oU (w:=w1) (fun q h=>h) (dA.ia (s:=decide (zr X Y<0)) (w0:=w) ⟨u2,rfl,o2W.up hB⟩) (bF _) om;rw[kW]at this;exact this
  have hz0:jy (zr X Y)=0↔X.tmod Y=0:=by
   rw[zrr];unfold jy;generalize X.tmod Y=z;split
   ·omega
   ·split<;>omega
  by_cases h1:X.tmod Y=0
  ·refine fl4f (x:= .slice xa xn xc) (y:= .slice ya yn yc) (za:=jy X) (zb:=jy Y) z3 g2 g3 g7 om om om c0 c1 c2 c3 (cell_of_row _ _ 0 _ _ _ hq2) (cell_of_row _ _ 1 _ _ _ hq2) (hz0.2 h1) FB (fun w1 hB=>hsx w1 (ah BW hB)) (fun w1 hB=>hsy w1 (ah BW hB)) fun a4 w4 z4 m2 m3 m4 m6 m7 h29 d4 B4=>?_
   refine wp_cond_false (by rw[az,h29]) ?_;refine wp_skip ?_;refine fin a4 w4 (zq X Y) u1 z4 (m4.trans g4) (m6.trans g6) (d4.trans (d3.trans dd)) (ah BW B4) ((B4.block _ om).trans hbW) ((B4.block _ om).trans hq1) (o1W.up B4) ?_;rw[xY X Y h0,if_neg (fun h=>h.1 h1)];rfl
  ·refine fl4t (x:= .slice xa xn xc) (y:= .slice ya yn yc) (za:=jy X) (zb:=jy Y) z3 g2 g3 g7 om om om c0 c1 c2 c3 (cell_of_row _ _ 0 _ _ _ hq2) (cell_of_row _ _ 1 _ _ _ hq2) (fun h=>h1 (hz0.1 h)) FB (fun w1 hB=>hsx w1 (ah BW hB)) (fun w1 hB=>hsy w1 (ah BW hB)) fun a4 w4 z4 m2 m3 m4 m6 m7 h29 d4 B4=>?_
   have s4:=B4.size;by_cases h2:jy X=jy Y
   ·refine wp_cond_false (by rw[az,h29,h2];simp) ?_;refine wp_skip ?_;refine fin a4 w4 (zq X Y) u1 z4 (m4.trans g4) (m6.trans g6) (d4.trans (d3.trans dd)) (ah BW B4) ((B4.block _ om).trans hbW) ((B4.block _ om).trans hq1) (o1W.up B4) ?_;rw[xY X Y h0,if_neg (fun h=>h.2 h2)];rfl
   ·refine wp_cond_true (by rw[az,h29];simp[h2]) ?_;have o14:=o1W.up B4;refine fl5 (sg:=decide (zq X Y-1<0)) (A:=dg B (zq X Y-1).natAbs) z4 (m6.trans g6) om (cell_of_row _ _ 0 _ _ _ ((B4.block _ om).trans hq1)) (cell_of_row _ _ 1 _ _ _ ((B4.block _ om).trans hq1)) ((B4.block _ om).trans hq1) (fun w1 hB=>RY) (fun w1 v hB M hM hv=>?_) fun a5 w5 u z5 n4 n6 d5 bel hbx ho=>?_
    ·have h3:=dA.ia (s:=decide (zq X Y<0)) (w0:=w) ⟨u1,rfl,o14.up hB⟩;obtain⟨x',e1,h4⟩:=hv;have h5:IA w1 (fun q=>q<w1.heap.size) v false (dg B 1):=⟨x',e1,h4.mono hM fun _ _=>rfl⟩;have:=zY (fun q h=>h) h3 (bF _) lq h5 (bF _) dc;rw[kW,show zv false (dg B 1)=1 from kW 1]at this;exact this
    ·have b4:=ah BW B4;refine fin a5 w5 (zq X Y-1) u z5 (n4.trans (m4.trans g4)) n6 (d5.trans (d4.trans (d3.trans dd))) (jg b4 bel om) ((bel.block _ om om).trans ((B4.block _ om).trans hbW)) hbx (ho.base b4.size) ?_;rw[xY X Y h0,if_pos ⟨h1,h2⟩];rfl
 ·have h0:Y=0:=Classical.byContradiction fun h=>hf (EP h)
  subst h0;refine fl2t z2 k8 hf fun a3 z3 s3 h17 d3=>?_
  refine wp_cond_true (by rw[az,h17]) ?_;refine wp_seq ?_;refine fl3 z3 ((s3 4 dc).trans j4) ((s3 8 dc).trans k8) hbW rfl fun a4 z4 s4 h5 d4=>?_
  refine wp_ret ?_;rw[Int.fdiv_zero];have hst:=dO (x:= .bool false) (y:= .slice none 0 0) hbW rfl;refine kG rfl (d4.trans (d3.trans dd)) ((s4 4 dc).trans ((s3 4 dc).trans j4)) hst.2 h5 ⟨_,rfl,dw BW om,.slice none 0 0,?_,?_⟩
  ·simp
  ·rw[show(0:Int).natAbs=0 from rfl,iq];exact Own.nil _ _
end
end
section
variable {a:Act}{w:World}{R:Exit→Act→World→Prop}
def Du(w:World)(s1:Bool)(u1:Value):World:=(w.alloc (.cells #[.bool false,.slice none 0 0] 25)).setRow w.heap.size #[.bool s1,u1]
theorem l7(w:World)(s1:Bool)(u1:Value):Below w.heap.size w (Du w s1 u1)∧(Du w s1 u1).heap.size=w.heap.size+1∧(Du w s1 u1).heap[w.heap.size]? =some (.cells #[.bool s1,u1] 25 (0,0)):=
 ⟨dw (aQ w _) (Nat.le_refl _),by simp[Du],setRow_heap _ _ _ _ _ _ (heap_alloc_new w _)⟩
theorem IA.shape{w:World}{Ha:Nat→Prop}{v:Value}{s:Bool}{a:List Nat}(h:IA w Ha v s a):∃ua un uc,v= .agg #[.bool s,.slice ua un uc]:=by
 obtain⟨x,rfl,h⟩:=h;obtain⟨ua,un,uc,rfl⟩:=bK h;exact⟨ua,un,uc,rfl⟩
theorem dv0{s:Bool}{xa:Option Addr}{xn xc:Nat}{t:Bool}{ya:Option Addr}{yn yc:Nat}(hz:a.tmps.size=41)(h0:a.tmps.getD 0 undef= .agg #[.bool s,.slice xa xn xc])(h1:a.tmps.getD 1 undef= .agg #[.bool t,.slice ya yn yc])
 (kk:∀(a':Act),kA a a' 41 2 [(2,.pointer (some ⟨w.heap.size,0,none⟩)),(3,.pointer (some ⟨w.heap.size+1,0,none⟩)),(4,.pointer (some ⟨w.heap.size+2,0,none⟩)),(5,.slice none 0 0),(6,.int .i64 0)]<|R .normal a' (qo w s (.slice xa xn xc) t (.slice ya yn yc))):(q1 (qf Tryz.f13)).wp Tryz.prog R a w:=by
 replace kk:=pu kk
 refine rl fun gA=>?_
 go_wp2
 exact kk.down _ gZ gN gS gS gS gS gS rfl
theorem dv1{s t:Bool}{x y:Value}{qx qy:Nat}{s1 s2:Bool}{A1 A2:List Nat}{f:Int}(hz:a.tmps.size=41)(h2:a.tmps.getD 2 undef= .pointer (some ⟨qx,0,none⟩))(h3:a.tmps.getD 3 undef= .pointer (some ⟨qy,0,none⟩))
 (c0:w.cell? ⟨qx,0,none⟩=some (.bool s)) (c1:w.cell? ⟨qx,1,none⟩=some x) (c2:w.cell? ⟨qy,0,none⟩=some (.bool t)) (c3:w.cell? ⟨qy,1,none⟩=some y) (cN:Calls Tryz.prog 14 #[.agg #[.bool s,x],.agg #[.bool t,y]] w (RU w s1 A1 s2 A2 f))
 (kk:∀(a':Act) (w1:World) (u1 u2:Value),kA a a' 41 7 [(7,.pointer (some ⟨w1.heap.size,0,none⟩)),(8,.pointer (some ⟨w1.heap.size+1,0,none⟩)),(9,.int .i64 f)]<|Below w.heap.size w w1→Own w A1 u1 w1→Own w A2 u2 w1→(∀q,u1.ownBlock=some q→u2.ownBlock≠some q)→R .normal a' (MP w1 s1 u1 s2 u2)):(q1 (qd 1 (qf Tryz.f13))).wp Tryz.prog R a w:=by
 replace kk:=pu kk
 refine rl fun gA=>?_
 go_wp2_with (first|(refine wpList_store_row rfl 25 _ _ rfl w1.heap.size #[.bool s1,.slice ua n1 uc] gS gS 25 #[.bool false,.slice none 0 0] hq1 (by kernel_rfl) rfl (aN _ _ _ _) ?_)|(refine wpList_store_row rfl 25 _ _ rfl (w1.heap.size+1) #[.bool s2,.slice va n2 vc] gS gS 25 #[.bool false,.slice none 0 0] ((setRow_other _ _ _ _ om).trans hq2) (by kernel_rfl) rfl (aN _ _ _ _) ?_)|(go_at_call 14;refine(cN).mono ?_;rintro e w1 ⟨u1,u2,rfl,b1,o1,o2,s12⟩;obtain⟨n1,m1,p1⟩:=o1;obtain⟨n2,m2,p2⟩:=o2;obtain⟨ua,uc,rfl⟩:=aB p1;obtain⟨va,vc,rfl⟩:=aB p2;have hq1:=heap_alloc2_old w1 (.cells #[.bool false,.slice none 0 0] 25) (.cells #[.bool false,.slice none 0 0] 25);have hq2:=heap_alloc2_new w1 (.cells #[.bool false,.slice none 0 0] 25) (.cells #[.bool false,.slice none 0 0] 25)))
 exact kk.down _ w1 _ _ gZ gN gS gS gS rfl b1 ⟨n1,m1,p1⟩ ⟨n2,m2,p2⟩ s12
theorem dv2t{f:Int}(hz:a.tmps.size=41)(h9:a.tmps.getD 9 undef= .int .i64 f)
 (hl:¬f=0)
 (kk:∀(a':Act),kA a a' 41 10 [(19,.bool true)]<|R .normal a' w):(q1 (q1 (qd 2 (qf Tryz.f13)))).wp Tryz.prog R a w:=by
 replace kk:=pu kk
 refine rl fun gA=>?_
 go_wp2
 exact kk.down _ gZ gN gS rfl
theorem dv2f{f:Int}(hz:a.tmps.size=41)(h9:a.tmps.getD 9 undef= .int .i64 f)
 (hl:f=0)
 (kk:∀(a':Act),kA a a' 41 10 [(19,.bool false)]<|R .normal a' w):(q1 (q1 (qd 2 (qf Tryz.f13)))).wp Tryz.prog R a w:=by
 replace kk:=pu kk
 refine rl fun gA=>?_
 go_wp2
 exact kk.down _ gZ gN gS rfl
theorem dv3{f:Int}{qr:Nat}{old:Array Value}(hz:a.tmps.size=41)(h4:a.tmps.getD 4 undef= .pointer (some ⟨qr,0,none⟩))(h9:a.tmps.getD 9 undef= .int .i64 f)
 (hbox:w.heap[qr]? =some (.cells old 25 (0,0))) (hb2:old.size=2)
 (kk:∀(a':Act),kA a a' 41 5 [(5,.slice none 0 0),(6,.int .i64 f)]<|R .normal a' (w.setRow qr #[.bool false,.slice none 0 0])):(q1 (qt (q2 (q1 (qd 2 (qf Tryz.f13)))))).wp Tryz.prog R a w:=by
 replace kk:=pu kk
 refine rl fun gA=>?_
 go_wp2_with (refine wpList_store_row rfl 25 _ _ rfl qr #[.bool false,.slice none 0 0] gS gS 25 old hbox (by kernel_rfl) hb2 (aN _ _ _ _) ?_)
 exact kk.down _ gZ gN gS gS rfl
theorem dv4{sr:Bool}{qb:Nat}(hz:a.tmps.size=41)(h8:a.tmps.getD 8 undef= .pointer (some ⟨qb,0,none⟩))
 (c0:w.cell? ⟨qb,0,none⟩=some (.bool sr))
 (kk:∀(a':Act),kA a a' 41 11 [(23,.bool sr)]<|R .normal a' w):(q1 (q1 (qd 3 (qf Tryz.f13)))).wp Tryz.prog R a w:=by
 replace kk:=pu kk
 refine rl fun gA=>?_
 go_wp2
 exact kk.down _ gZ gN gS rfl
theorem dv5{sv:Bool}(hz:a.tmps.size=41)
 (cO:Calls Tryz.prog 45 #[.int .i64 1] w (fun e w2=>∃v,e= .returned v∧Below w.heap.size w w2∧IA w2 (fun q=>w.heap.size≤q∧q<w2.heap.size) v sv (dg B 1)))
 (kk:∀(a':Act) (w1:World) (ua:Option Addr) (un uc:Nat),kA a a' 41 10 [(10,.pointer (some ⟨w1.heap.size,0,none⟩))]<|Below w.heap.size w w1→IA w1 (fun q=>w.heap.size≤q∧q<w1.heap.size) (.agg #[.bool sv,.slice ua un uc]) sv (dg B 1)→R .normal a' (Du w1 sv (.slice ua un uc))):(q1 (qt (q2 (q1 (qd 3 (qf Tryz.f13)))))).wp Tryz.prog R a w:=by
 replace kk:=pu kk
 refine rl fun gA=>?_
 go_wp2_with (first|(refine wpList_store_row rfl 25 _ _ rfl w1.heap.size #[.bool sv,.slice ua un uc] gS gS 25 #[.bool false,.slice none 0 0] hq1 (by kernel_rfl) rfl (aN _ _ _ _) ?_)|(go_at_call 45;refine(cO).mono ?_;rintro e w1 ⟨v,rfl,b1,h1⟩;obtain⟨ua,un,uc,rfl⟩:=h1.shape;have hq1:=heap_alloc_new w1 (.cells #[.bool false,.slice none 0 0] 25)))
 exact kk.down _ w1 ua un uc gZ gN gS rfl b1 h1
theorem dv6t{t:Bool}{y:Value}{qy:Nat}{z:Int}(hz:a.tmps.size=41)(h3:a.tmps.getD 3 undef= .pointer (some ⟨qy,0,none⟩))
 (c2:w.cell? ⟨qy,0,none⟩=some (.bool t)) (c3:w.cell? ⟨qy,1,none⟩=some y) (cS:Calls Tryz.prog 46 #[.agg #[.bool t,y]] w (fun e w2=>e= .returned (.int .i64 z)∧Below w.heap.size w w2)) (hl:z<0)
 (kk:∀(a':Act) (w1:World),kA a a' 41 11 [(27,.bool true)]<|Below w.heap.size w w1→R .normal a' w1):(q1 (q1 (qd 1 (qt (q2 (q1 (qd 3 (qf Tryz.f13)))))))).wp Tryz.prog R a w:=by
 replace kk:=pu kk
 refine rl fun gA=>?_
 go_wp2_with (go_at_call 46;refine(cS).mono ?_;rintro e w1 ⟨rfl,b1⟩)
 exact kk.down _ w1 gZ gN gS rfl b1
theorem dv6f{t:Bool}{y:Value}{qy:Nat}{z:Int}(hz:a.tmps.size=41)(h3:a.tmps.getD 3 undef= .pointer (some ⟨qy,0,none⟩))
 (c2:w.cell? ⟨qy,0,none⟩=some (.bool t)) (c3:w.cell? ⟨qy,1,none⟩=some y) (cS:Calls Tryz.prog 46 #[.agg #[.bool t,y]] w (fun e w2=>e= .returned (.int .i64 z)∧Below w.heap.size w w2)) (hl:¬z<0)
 (kk:∀(a':Act) (w1:World),kA a a' 41 11 [(27,.bool false)]<|Below w.heap.size w w1→R .normal a' w1):(q1 (q1 (qd 1 (qt (q2 (q1 (qd 3 (qf Tryz.f13)))))))).wp Tryz.prog R a w:=by
 replace kk:=pu kk
 refine rl fun gA=>?_
 go_wp2_with (go_at_call 46;refine(cS).mono ?_;rintro e w1 ⟨rfl,b1⟩)
 exact kk.down _ w1 gZ gN gS rfl b1
theorem dv7{sv:Bool}{qs:Nat}{old:Array Value}(hz:a.tmps.size=41)(h10:a.tmps.getD 10 undef= .pointer (some ⟨qs,0,none⟩))
 (hbox:w.heap[qs]? =some (.cells old 25 (0,0))) (hb2:old.size=2) (cO:Calls Tryz.prog 45 #[.int .i64 (-1)] w (fun e w2=>∃v,e= .returned v∧Below w.heap.size w w2∧IA w2 (fun q=>w.heap.size≤q∧q<w2.heap.size) v sv (dg B 1)))
 (kk:∀(a':Act) (w1:World) (ua:Option Addr) (un uc:Nat),kA a a' 41 11 []<|Below w.heap.size w w1→IA w1 (fun q=>w.heap.size≤q∧q<w1.heap.size) (.agg #[.bool sv,.slice ua un uc]) sv (dg B 1)→R .normal a' (w1.setRow qs #[.bool sv,.slice ua un uc])):(qt (q2 (q1 (qd 1 (qt (q2 (q1 (qd 3 (qf Tryz.f13))))))))).wp Tryz.prog R a w:=by
 replace kk:=pu kk
 refine rl fun gA=>?_
 go_wp2_with (first|(refine wpList_store_row rfl 25 _ _ rfl qs #[.bool sv,.slice ua un uc] gS gS 25 old m_ (by kernel_rfl) hb2 (aN _ _ _ _) ?_)|(go_at_call 45;refine(cO).mono ?_;rintro e w1 ⟨v,rfl,b1,h1⟩;obtain⟨ua,un,uc,rfl⟩:=h1.shape;have m_:=(b1.block qs (aS hbox)).trans hbox))
 exact kk.down _ w1 ua un uc gZ gN rfl b1 h1
end
