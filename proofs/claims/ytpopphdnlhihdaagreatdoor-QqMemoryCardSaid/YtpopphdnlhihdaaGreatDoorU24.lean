import Derived.OwnWalk
import Derived.Test.YtpopphdnlhihdaaGreatDoorU23
set_option linter.all false
set_option maxHeartbeats 10000000
set_option maxRecDepth 2000000
namespace Go.Proofs.YtpopphdnlhihdaaGreatDoor
section
open Go Go.RowKit Go.Proofs Ab
abbrev F3(f:FuncId)(ds:List Δ)(s:Bool)(A D:List Nat)(e:Int):Prop:=Fn f ds (.t [.g [.k (.bool s),.ow A 0,.ow D 1],.k (.int .i64 e)])
abbrev F2(f:FuncId)(ds:List Δ)(s:Bool)(A:List Nat)(e:Int):Prop:=Fn f ds (.t [.g [.k (.bool s),.ow A 0],.k (.int .i64 e)])
abbrev G3(f:FuncId)(vs:List V)(s:Bool)(A D:List Nat)(e:Int):Prop:=aT f vs (.t [rL s A D,.i .i64 e])
abbrev G2(f:FuncId)(vs:List V)(s:Bool)(A:List Nat)(e:Int):Prop:=aT f vs (.t [zL s A,.i .i64 e])
def RKd(t:Nat→Bool)(P Q:Nat→List Nat):List (Bool×List Nat×List Nat):=[(t 2,P 2,Q 2),(t 3,P 3,Q 3),(t 4,P 4,Q 4),(t 5,P 5,Q 5),(t 6,P 6,Q 6),(t 7,P 7,Q 7),(t 8,P 8,Q 8),(t 9,P 9,Q 9),(t 10,P 10,Q 10),(t 11,P 11,Q 11),(t 12,P 12,Q 12),(t 13,P 13,Q 13)]
def IKd(t:Nat→Bool)(P:Nat→List Nat):List (Bool×List Nat):=[(t 14,P 14),(t 15,P 15)]
def Md(e n:Nat→Int)(pl:List UInt8):List Int:=[e 2,e 3,e 4,e 5,e 6,e 7,e 8,e 9,e 10,e 11,e 12,e 13,e 14,e 15,n 16,e 16,n 17,e 17,n 18,e 18,n 19,e 19,((⟨pl.toArray⟩:ByteArray).size:Int),e 20,0,e 22]
variable{Z:Nat→Prop}{A2:List Nat}
theorem FU{A1:List Nat}{t u:Nat}(h:Nat.beq t u=false):rw2 true Z (.ow A1 t) (.ow A2 u) A1 A2:=⟨t,u,h,rfl,rfl⟩
theorem FW{A1:List Nat}:rw2 false Z (.rz Z A1) (.rz Z A2) A1 A2:=⟨rfl,rfl⟩
theorem rw1t{A1:List Nat}{t:Nat}:rw1 true Z (.ow A1 t) A1:=⟨t,rfl⟩
theorem rw1f{A1:List Nat}:rw1 false Z (.rz Z A1) A1:=rfl
section
variable {Z:Nat→Prop} {A1 D1 A2 D2:List Nat} {v v1 v2:Value}
theorem za1:zzA Z [.g [.k v,.rz Z A1,.rz Z D1]]:=⟨⟨trivial,rfl,rfl,trivial⟩,trivial⟩
theorem za2:zzA Z [.g [.k v,.rz Z A1,.rz Z D1],.g [.k v1,.rz Z A2,.rz Z D2]]:=⟨⟨trivial,rfl,rfl,trivial⟩,⟨trivial,rfl,rfl,trivial⟩,trivial⟩
theorem zak:zzA Z [.g [.k v,.rz Z A1,.rz Z D1],.k v1]:=⟨⟨trivial,rfl,rfl,trivial⟩,trivial,trivial⟩
theorem zi2:zzA Z [.g [.k v,.rz Z A1],.g [.k v1,.rz Z A2]]:=⟨⟨trivial,rfl,trivial⟩,⟨trivial,rfl,trivial⟩,trivial⟩
theorem zik:zzA Z [.g [.k v,.rz Z A1],.k v1]:=⟨⟨trivial,rfl,trivial⟩,trivial,trivial⟩
end
variable {w:World} {H:Nat→Prop} {s0 s1 s3 s4:Bool} {x1 x2 y1 y2 u v lv:Value} {A0 D0 A1 D1 A3 A4:List Nat} {l:List (Bool×List Nat×List Nat)} {t:Nat→Bool} {P Q:Nat→List Nat} {e n:Nat→Int} {pl:List UInt8}
abbrev mF(κ:Bool)(w0:World)(b q0 lF q2 q3 q4:Nat)(s0 s1 s3 s4:Bool)(x1 x2 y1 y2 u v lv:Value):=AS κ w0 125 b [(4,lv),(5,Pt q0),(6,Pt lF),(7,Pt q2),(8,Pt q3),(10,Pt q4),(11,Pt b)] [(q0,#[.bool s0,x1,x2],27),(lF,#[.bool s1,y1,y2],27),(q2,#[.bool s3,u],25),(q3,#[.bool s4,v],25),(q4,#[vn,vn,vn],41)]
section
variable {w0 w:World} {b q0 lF q2 q3 q4:Nat} {H:Nat→Prop} {s0 s1 s3 s4:Bool} {x1 x2 y1 y2 u v lv vr vi vm:Value} {A0 D0 A1 D1 A3 A4:List Nat} {l:List (Bool×List Nat×List Nat)} {t:Nat→Bool} {P Q:Nat→List Nat} {e n:Nat→Int} {pl:List UInt8} {R:List TQ} {I:List TZ} {M:List Int} {ac:Act} {Q0:Exit→Act→World→Prop} {cd:Code}
theorem ask_2(h:mF true w0 b q0 lF q2 q3 q4 s0 s1 s3 s4 x1 x2 y1 y2 u v lv vr vi vm R I M ac w)(g:TO w0)(E:∀q,H q→q<w0.heap.size)(r1:Rep0 w0 H x1 (.l 1 (W A0)))(r2:Rep0 w0 H x2 (.l 1 (W D0)))(F:F3 50 [qD s0 A0 D0] (t 2) (P 2) (Q 2) (e 2))(y:R.length≤1000)(A:I.length≤1000)(z:M.length≤1000)(C:I=[])
 (next:∀(j:Act) (w':World) (z1 z2:Value) (a f c:Value),mF true w0 b q0 lF q2 q3 q4 s0 s1 s3 s4 x1 x2 y1 y2 u v lv a f c (R++[(t 2,(z1,P 2),(z2,Q 2))]) I (M++[e 2]) j w'→Q0 .normal j w'):(q1 (qd 2 (qf Tryz.f9))).wp Tryz.prog Q0 ac w:=by
 have S:=h.ps g
 have m:=h.o3 (.head _) E r1 r2
 refine wp_region_lit ?_
 refine bQ S (dC (iG rfl m rfl)) fun _ _ _ S=>?_
 refine aj S (pc F) fun _ _ _ S=>?_
 iterate 2 refine bQ S uI fun _ _ _ S=>?_
 exact h.rat g S y A z C rfl rfl rfl (FU rfl) tv next
theorem ask_3(h:mF true w0 b q0 lF q2 q3 q4 s0 s1 s3 s4 x1 x2 y1 y2 u v lv vr vi vm R I M ac w)(g:TO w0)(j:∀q,H q→q<w0.heap.size)(z:Rep0 w0 H u (.l 1 (W A3)))(y:Rep0 w0 H v (.l 1 (W A4)))(G:F3 51 [iD s3 A3,iD s4 A4] (t 3) (P 3) (Q 3) (e 3))(A:R.length≤1000)(E:I.length≤1000)(C:M.length≤1000)(F:I=[])
 (next:∀(m:Act) (w':World) (z1 z2:Value) (a f c:Value),mF true w0 b q0 lF q2 q3 q4 s0 s1 s3 s4 x1 x2 y1 y2 u v lv a f c (R++[(t 3,(z1,P 3),(z2,Q 3))]) I (M++[e 3]) m w'→Q0 .normal m w'):(q1 (qd 3 (qf Tryz.f9))).wp Tryz.prog Q0 ac w:=by
 have S:=h.ps g
 have o2:=h.o2 (.tail _ (.tail _ (.head _))) j z
 have o3:=h.o2 (.tail _ (.tail _ (.tail _ (.head _)))) j y
 refine wp_region_lit ?_
 refine bQ S (dC (Bz rfl o2 rfl)) fun _ _ _ S=>?_
 refine bQ S (dC (Bz rfl o3 rfl)) fun _ _ _ S=>?_
 refine aj S (pc G) fun _ _ _ S=>?_
 iterate 2 refine bQ S uI fun _ _ _ S=>?_
 exact h.rat g S A E C F rfl rfl rfl (FU rfl) tv next
theorem ask_4(h:mF true w0 b q0 lF q2 q3 q4 s0 s1 s3 s4 x1 x2 y1 y2 u v lv vr vi vm R I M ac w)(g:TO w0)(E:∀q,H q→q<w0.heap.size)(m:Rep0 w0 H u (.l 1 (W A3)))(F:F3 52 [iD s3 A3,.k (.int .i64 (-3))] (t 4) (P 4) (Q 4) (e 4))(y:R.length≤1000)(A:I.length≤1000)(z:M.length≤1000)(C:I=[])
 (next:∀(j:Act) (w':World) (z1 z2:Value) (a f c:Value),mF true w0 b q0 lF q2 q3 q4 s0 s1 s3 s4 x1 x2 y1 y2 u v lv a f c (R++[(t 4,(z1,P 4),(z2,Q 4))]) I (M++[e 4]) j w'→Q0 .normal j w'):(q1 (qd 4 (qf Tryz.f9))).wp Tryz.prog Q0 ac w:=by
 have S:=h.ps g
 have o2:=h.o2 (.tail _ (.tail _ (.head _))) E m
 refine wp_region_lit ?_
 refine bQ S (dC (Bz rfl o2 rfl)) fun _ _ _ S=>?_
 refine aj S (pc F) fun _ _ _ S=>?_
 iterate 2 refine bQ S uI fun _ _ _ S=>?_
 exact h.rat g S y A z C rfl rfl rfl (FU rfl) tv next
theorem ask_5(h:mF true w0 b q0 lF q2 q3 q4 s0 s1 s3 s4 x1 x2 y1 y2 u v lv vr vi vm R I M ac w)(g:TO w0)(j:∀q,H q→q<w0.heap.size)(r1:Rep0 w0 H x1 (.l 1 (W A0)))(r2:Rep0 w0 H x2 (.l 1 (W D0)))(z:Rep0 w0 H y1 (.l 1 (W A1)))(y:Rep0 w0 H y2 (.l 1 (W D1)))(L:F3 22 [qD s0 A0 D0,qD s1 A1 D1] (t 5) (P 5) (Q 5) (e 5))(E:R.length≤1000)(G:I.length≤1000)(F:M.length≤1000)(J:I=[])
 (next:∀(m:Act) (w':World) (z1 z2:Value) (a f c:Value),mF true w0 b q0 lF q2 q3 q4 s0 s1 s3 s4 x1 x2 y1 y2 u v lv a f c (R++[(t 5,(z1,P 5),(z2,Q 5))]) I (M++[e 5]) m w'→Q0 .normal m w'):(q1 (qd 5 (qf Tryz.f9))).wp Tryz.prog Q0 ac w:=by
 have S:=h.ps g
 have C:=h.o3 (.head _) j r1 r2
 have A:=h.o3 (.tail _ (.head _)) j z y
 refine wp_region_lit ?_
 refine bQ S (dC (iG rfl C rfl)) fun _ _ _ S=>?_
 refine bQ S (dC (iG rfl A rfl)) fun _ _ _ S=>?_
 refine aj S (pc L) fun _ _ _ S=>?_
 iterate 2 refine bQ S uI fun _ _ _ S=>?_
 exact h.rat g S E G F J rfl rfl rfl (FU rfl) tv next
theorem ask_6(h:mF true w0 b q0 lF q2 q3 q4 s0 s1 s3 s4 x1 x2 y1 y2 u v lv vr vi vm R I M ac w)(g:TO w0)(j:∀q,H q→q<w0.heap.size)(r1:Rep0 w0 H x1 (.l 1 (W A0)))(r2:Rep0 w0 H x2 (.l 1 (W D0)))(z:Rep0 w0 H y1 (.l 1 (W A1)))(y:Rep0 w0 H y2 (.l 1 (W D1)))(L:F3 53 [qD s0 A0 D0,qD s1 A1 D1] (t 6) (P 6) (Q 6) (e 6))(E:R.length≤1000)(G:I.length≤1000)(F:M.length≤1000)(J:I=[])
 (next:∀(m:Act) (w':World) (z1 z2:Value) (a f c:Value),mF true w0 b q0 lF q2 q3 q4 s0 s1 s3 s4 x1 x2 y1 y2 u v lv a f c (R++[(t 6,(z1,P 6),(z2,Q 6))]) I (M++[e 6]) m w'→Q0 .normal m w'):(q1 (qd 6 (qf Tryz.f9))).wp Tryz.prog Q0 ac w:=by
 have S:=h.ps g
 have C:=h.o3 (.head _) j r1 r2
 have A:=h.o3 (.tail _ (.head _)) j z y
 refine wp_region_lit ?_
 refine bQ S (dC (iG rfl C rfl)) fun _ _ _ S=>?_
 refine bQ S (dC (iG rfl A rfl)) fun _ _ _ S=>?_
 refine aj S (pc L) fun _ _ _ S=>?_
 iterate 2 refine bQ S uI fun _ _ _ S=>?_
 exact h.rat g S E G F J rfl rfl rfl (FU rfl) tv next
theorem ask_7(h:mF true w0 b q0 lF q2 q3 q4 s0 s1 s3 s4 x1 x2 y1 y2 u v lv vr vi vm R I M ac w)(g:TO w0)(j:∀q,H q→q<w0.heap.size)(r1:Rep0 w0 H x1 (.l 1 (W A0)))(r2:Rep0 w0 H x2 (.l 1 (W D0)))(z:Rep0 w0 H y1 (.l 1 (W A1)))(y:Rep0 w0 H y2 (.l 1 (W D1)))(L:F3 54 [qD s0 A0 D0,qD s1 A1 D1] (t 7) (P 7) (Q 7) (e 7))(E:R.length≤1000)(G:I.length≤1000)(F:M.length≤1000)(J:I=[])
 (next:∀(m:Act) (w':World) (z1 z2:Value) (a f c:Value),mF true w0 b q0 lF q2 q3 q4 s0 s1 s3 s4 x1 x2 y1 y2 u v lv a f c (R++[(t 7,(z1,P 7),(z2,Q 7))]) I (M++[e 7]) m w'→Q0 .normal m w'):(q1 (qd 7 (qf Tryz.f9))).wp Tryz.prog Q0 ac w:=by
 have S:=h.ps g
 have C:=h.o3 (.head _) j r1 r2
 have A:=h.o3 (.tail _ (.head _)) j z y
 refine wp_region_lit ?_
 refine bQ S (dC (iG rfl C rfl)) fun _ _ _ S=>?_
 refine bQ S (dC (iG rfl A rfl)) fun _ _ _ S=>?_
 refine aj S (pc L) fun _ _ _ S=>?_
 iterate 2 refine bQ S uI fun _ _ _ S=>?_
 exact h.rat g S E G F J rfl rfl rfl (FU rfl) tv next
theorem ask_8(h:mF true w0 b q0 lF q2 q3 q4 s0 s1 s3 s4 x1 x2 y1 y2 u v lv vr vi vm R I M ac w)(g:TO w0)(j:∀q,H q→q<w0.heap.size)(r1:Rep0 w0 H x1 (.l 1 (W A0)))(r2:Rep0 w0 H x2 (.l 1 (W D0)))(z:Rep0 w0 H y1 (.l 1 (W A1)))(y:Rep0 w0 H y2 (.l 1 (W D1)))(L:F3 55 [qD s0 A0 D0,qD s1 A1 D1] (t 8) (P 8) (Q 8) (e 8))(E:R.length≤1000)(G:I.length≤1000)(F:M.length≤1000)(J:I=[])
 (next:∀(m:Act) (w':World) (z1 z2:Value) (a f c:Value),mF true w0 b q0 lF q2 q3 q4 s0 s1 s3 s4 x1 x2 y1 y2 u v lv a f c (R++[(t 8,(z1,P 8),(z2,Q 8))]) I (M++[e 8]) m w'→Q0 .normal m w'):(q1 (qd 8 (qf Tryz.f9))).wp Tryz.prog Q0 ac w:=by
 have S:=h.ps g
 have C:=h.o3 (.head _) j r1 r2
 have A:=h.o3 (.tail _ (.head _)) j z y
 refine wp_region_lit ?_
 refine bQ S (dC (iG rfl C rfl)) fun _ _ _ S=>?_
 refine bQ S (dC (iG rfl A rfl)) fun _ _ _ S=>?_
 refine aj S (pc L) fun _ _ _ S=>?_
 iterate 2 refine bQ S uI fun _ _ _ S=>?_
 exact h.rat g S E G F J rfl rfl rfl (FU rfl) tv next
theorem ask_9(h:mF true w0 b q0 lF q2 q3 q4 s0 s1 s3 s4 x1 x2 y1 y2 u v lv vr vi vm R I M ac w)(g:TO w0)(E:∀q,H q→q<w0.heap.size)(r1:Rep0 w0 H x1 (.l 1 (W A0)))(r2:Rep0 w0 H x2 (.l 1 (W D0)))(F:F3 56 [qD s0 A0 D0] (t 9) (P 9) (Q 9) (e 9))(y:R.length≤1000)(A:I.length≤1000)(z:M.length≤1000)(C:I=[])
 (next:∀(j:Act) (w':World) (z1 z2:Value) (a f c:Value),mF true w0 b q0 lF q2 q3 q4 s0 s1 s3 s4 x1 x2 y1 y2 u v lv a f c (R++[(t 9,(z1,P 9),(z2,Q 9))]) I (M++[e 9]) j w'→Q0 .normal j w'):(q1 (qd 9 (qf Tryz.f9))).wp Tryz.prog Q0 ac w:=by
 have S:=h.ps g
 have m:=h.o3 (.head _) E r1 r2
 refine wp_region_lit ?_
 refine bQ S (dC (iG rfl m rfl)) fun _ _ _ S=>?_
 refine aj S (pc F) fun _ _ _ S=>?_
 iterate 2 refine bQ S uI fun _ _ _ S=>?_
 exact h.rat g S y A z C rfl rfl rfl (FU rfl) tv next
theorem ask_10(h:mF true w0 b q0 lF q2 q3 q4 s0 s1 s3 s4 x1 x2 y1 y2 u v lv vr vi vm R I M ac w)(j:TO w0)(F:∀q,H q→q<w0.heap.size)(r1:Rep0 w0 H x1 (.l 1 (W A0)))(r2:Rep0 w0 H x2 (.l 1 (W D0)))(g:F3 57 [qD s0 A0 D0,.k (.int .i64 2)] (t 10) (P 10) (Q 10) (e 10))(z:R.length≤1000)(C:I.length≤1000)(A:M.length≤1000)(E:I=[])
 (next:∀(m:Act) (w':World) (z1 z2:Value) (a f c:Value),mF true w0 b q0 lF q2 q3 q4 s0 s1 s3 s4 x1 x2 y1 y2 u v lv a f c (R++[(t 10,(z1,P 10),(z2,Q 10))]) I (M++[e 10]) m w'→Q0 .normal m w'):(q1 (qd 10 (qf Tryz.f9))).wp Tryz.prog Q0 ac w:=by
 have S:=h.ps j
 have y:=h.o3 (.head _) F r1 r2
 refine wp_region_lit ?_
 refine bQ S (dC (iG rfl y rfl)) fun _ _ _ S=>?_
 refine aj S (pc g) fun _ _ _ S=>?_
 iterate 2 refine bQ S uI fun _ _ _ S=>?_
 exact h.rat j S z C A E rfl rfl rfl (FU rfl) tv next
theorem ask_11(h:mF true w0 b q0 lF q2 q3 q4 s0 s1 s3 s4 x1 x2 y1 y2 u v lv vr vi vm R I M ac w)(m:TO w0)(y:∀q,H q→q<w0.heap.size)(rl:Rep0 w0 H lv (.l 3 (RC l)))(j:∀(w:World) (H:Nat→Prop) (lv:Value),Jw w→(∀q,H q→q<w.heap.size)→Rep0 w H lv (.l 3 (RC l))→Calls Tryz.prog 58 #[lv] w (Ans w (.t [.g [.k (.bool (t 11)),.ow (P 11) 0,.ow (Q 11) 1],.k (.int .i64 (e 11))])))(A:R.length≤1000)(E:I.length≤1000)(C:M.length≤1000)(F:I=[])
 (next:∀(z:Act) (w':World) (z1 z2:Value) (a f c:Value),mF true w0 b q0 lF q2 q3 q4 s0 s1 s3 s4 x1 x2 y1 y2 u v lv a f c (R++[(t 11,(z1,P 11),(z2,Q 11))]) I (M++[e 11]) z w'→Q0 .normal z w'):(q1 (qd 11 (qf Tryz.f9))).wp Tryz.prog Q0 ac w:=by
 have S:=h.ps m
 refine wp_region_lit ?_
 refine bQ S uI fun _ _ _ S=>?_
 refine aj S (pqs j rfl (fun q hq=>(h.out y q hq).1) (h.up y rl)) fun _ _ _ S=>?_
 iterate 2 refine bQ S uI fun _ _ _ S=>?_
 exact h.rat m S A E C F rfl rfl rfl (FU rfl) tv next
theorem ask_12(h:mF true w0 b q0 lF q2 q3 q4 s0 s1 s3 s4 x1 x2 y1 y2 u v lv vr vi vm R I M ac w)(j:TO w0)(m:∀q,H q→q<w0.heap.size)(r1:Rep0 w0 H x1 (.l 1 (W A0)))(r2:Rep0 w0 H x2 (.l 1 (W D0)))(A:Rep0 w0 H y1 (.l 1 (W A1)))(z:Rep0 w0 H y2 (.l 1 (W D1)))(g:F3 59 [qD s0 A0 D0,qD s1 A1 D1] (t 12) (P 12) (Q 12) (e 12))(F:R.length≤1000)(J:I.length≤1000)(G:M.length≤1000)(L:I=[])
 (next:∀(y:Act) (w':World) (z1 z2:Value) (a f c:Value),mF true w0 b q0 lF q2 q3 q4 s0 s1 s3 s4 x1 x2 y1 y2 u v lv a f c (R++[(t 12,(z1,P 12),(z2,Q 12))]) I (M++[e 12]) y w'→Q0 .normal y w'):(q1 (qd 12 (qf Tryz.f9))).wp Tryz.prog Q0 ac w:=by
 have S:=h.ps j
 have E:=h.o3 (.head _) m r1 r2
 have C:=h.o3 (.tail _ (.head _)) m A z
 refine wp_region_lit ?_
 refine bQ S (dC (iG rfl E rfl)) fun _ _ _ S=>?_
 refine bQ S (dC (iG rfl C rfl)) fun _ _ _ S=>?_
 refine aj S (pc g) fun _ _ _ S=>?_
 iterate 2 refine bQ S uI fun _ _ _ S=>?_
 exact h.rat j S F J G L rfl rfl rfl (FU rfl) tv next
theorem ask_13(h:mF true w0 b q0 lF q2 q3 q4 s0 s1 s3 s4 x1 x2 y1 y2 u v lv vr vi vm R I M ac w)(j:TO w0)(m:∀q,H q→q<w0.heap.size)(r1:Rep0 w0 H x1 (.l 1 (W A0)))(r2:Rep0 w0 H x2 (.l 1 (W D0)))(A:Rep0 w0 H y1 (.l 1 (W A1)))(z:Rep0 w0 H y2 (.l 1 (W D1)))(g:F3 20 [qD s0 A0 D0,qD s1 A1 D1] (t 13) (P 13) (Q 13) (e 13))(F:R.length≤1000)(J:I.length≤1000)(G:M.length≤1000)(L:I=[])
 (next:∀(y:Act) (w':World) (z1 z2:Value) (a f c:Value),mF true w0 b q0 lF q2 q3 q4 s0 s1 s3 s4 x1 x2 y1 y2 u v lv a f c (R++[(t 13,(z1,P 13),(z2,Q 13))]) I (M++[e 13]) y w'→Q0 .normal y w'):(q1 (qd 13 (qf Tryz.f9))).wp Tryz.prog Q0 ac w:=by
 have S:=h.ps j
 have E:=h.o3 (.head _) m r1 r2
 have C:=h.o3 (.tail _ (.head _)) m A z
 refine wp_region_lit ?_
 refine bQ S (dC (iG rfl E rfl)) fun _ _ _ S=>?_
 refine bQ S (dC (iG rfl C rfl)) fun _ _ _ S=>?_
 refine aj S (pc g) fun _ _ _ S=>?_
 iterate 2 refine bQ S uI fun _ _ _ S=>?_
 exact h.rat j S F J G L rfl rfl rfl (FU rfl) tv next
theorem ask_14(h:mF true w0 b q0 lF q2 q3 q4 s0 s1 s3 s4 x1 x2 y1 y2 u v lv vr vi vm R I M ac w)(j:TO w0)(E:∀q,H q→q<w0.heap.size)(r1:Rep0 w0 H x1 (.l 1 (W A0)))(r2:Rep0 w0 H x2 (.l 1 (W D0)))(g:F2 18 [qD s0 A0 D0,.k (.int .i64 1)] (t 14) (P 14) (e 14))(z:R.length≤1000)(C:I.length≤1000)(A:M.length≤1000)
 (next:∀(m:Act) (w':World) (z1:Value) (a f c:Value),mF true w0 b q0 lF q2 q3 q4 s0 s1 s3 s4 x1 x2 y1 y2 u v lv a f c R (I++[(t 14,(z1,P 14))]) (M++[e 14]) m w'→Q0 .normal m w'):(q1 (qd 14 (qf Tryz.f9))).wp Tryz.prog Q0 ac w:=by
 have S:=h.ps j
 have y:=h.o3 (.head _) E r1 r2
 refine wp_region_lit ?_
 refine bQ S (dC (iG rfl y rfl)) fun _ _ _ S=>?_
 refine aj S (pc g) fun _ _ _ S=>?_
 iterate 2 refine bQ S uI fun _ _ _ S=>?_
 exact h.whole j S z C A rfl rfl rfl rw1t tv next
theorem ask_15(h:mF true w0 b q0 lF q2 q3 q4 s0 s1 s3 s4 x1 x2 y1 y2 u v lv vr vi vm R I M ac w)(j:TO w0)(E:∀q,H q→q<w0.heap.size)(r1:Rep0 w0 H x1 (.l 1 (W A0)))(r2:Rep0 w0 H x2 (.l 1 (W D0)))(g:F2 60 [qD s0 A0 D0,.k (.int .i64 0)] (t 15) (P 15) (e 15))(z:R.length≤1000)(C:I.length≤1000)(A:M.length≤1000)
 (next:∀(m:Act) (w':World) (z1:Value) (a f c:Value),mF true w0 b q0 lF q2 q3 q4 s0 s1 s3 s4 x1 x2 y1 y2 u v lv a f c R (I++[(t 15,(z1,P 15))]) (M++[e 15]) m w'→Q0 .normal m w'):(q1 (qd 15 (qf Tryz.f9))).wp Tryz.prog Q0 ac w:=by
 have S:=h.ps j
 have y:=h.o3 (.head _) E r1 r2
 refine wp_region_lit ?_
 refine bQ S (dC (iG rfl y rfl)) fun _ _ _ S=>?_
 refine aj S (pc g) fun _ _ _ S=>?_
 iterate 2 refine bQ S uI fun _ _ _ S=>?_
 exact h.whole j S z C A rfl rfl rfl rw1t tv next
theorem ask_16(h:mF true w0 b q0 lF q2 q3 q4 s0 s1 s3 s4 x1 x2 y1 y2 u v lv vr vi vm R I M ac w)(j:TO w0)(m:∀q,H q→q<w0.heap.size)(r1:Rep0 w0 H x1 (.l 1 (W A0)))(r2:Rep0 w0 H x2 (.l 1 (W D0)))(A:Rep0 w0 H y1 (.l 1 (W A1)))(z:Rep0 w0 H y2 (.l 1 (W D1)))(g:aT 61 [rL s0 A0 D0,rL s1 A1 D1] (.t [.i .i64 (n 16),.i .i64 (e 16)]))(F:R.length≤1000)(J:I.length≤1000)(G:M.length≤1000)
 (next:∀(y:Act) (w':World) (a f c:Value),mF true w0 b q0 lF q2 q3 q4 s0 s1 s3 s4 x1 x2 y1 y2 u v lv a f c R I (M++[n 16,e 16]) y w'→Q0 .normal y w'):(q1 (qd 16 (qf Tryz.f9))).wp Tryz.prog Q0 ac w:=by
 have S:=h.ps j
 have E:=h.o3 (.head _) m r1 r2
 have C:=h.o3 (.tail _ (.head _)) m A z
 refine wp_region_lit ?_
 refine bQ S (dC (iG rfl E rfl)) fun _ _ _ S=>?_
 refine bQ S (dC (iG rfl C rfl)) fun _ _ _ S=>?_
 refine aj S (pf (d:= .t [.k (.int .i64 (n 16)),.k (.int .i64 (e 16))]) g) fun _ _ _ S=>?_
 iterate 2 refine bQ S uI fun _ _ _ S=>?_
 exact h.plain j S F J G rfl rfl rfl tv next
theorem ask_17(h:mF true w0 b q0 lF q2 q3 q4 s0 s1 s3 s4 x1 x2 y1 y2 u v lv vr vi vm R I M ac w)(j:TO w0)(E:∀q,H q→q<w0.heap.size)(r1:Rep0 w0 H x1 (.l 1 (W A0)))(r2:Rep0 w0 H x2 (.l 1 (W D0)))(g:aT 62 [rL s0 A0 D0] (.t [.i .i64 (n 17),.i .i64 (e 17)]))(z:R.length≤1000)(C:I.length≤1000)(A:M.length≤1000)
 (next:∀(m:Act) (w':World) (a f c:Value),mF true w0 b q0 lF q2 q3 q4 s0 s1 s3 s4 x1 x2 y1 y2 u v lv a f c R I (M++[n 17,e 17]) m w'→Q0 .normal m w'):(q1 (qd 17 (qf Tryz.f9))).wp Tryz.prog Q0 ac w:=by
 have S:=h.ps j
 have y:=h.o3 (.head _) E r1 r2
 refine wp_region_lit ?_
 refine bQ S (dC (iG rfl y rfl)) fun _ _ _ S=>?_
 refine aj S (pf (d:= .t [.k (.int .i64 (n 17)),.k (.int .i64 (e 17))]) g) fun _ _ _ S=>?_
 iterate 2 refine bQ S uI fun _ _ _ S=>?_
 exact h.plain j S z C A rfl rfl rfl tv next
theorem ask_18(h:mF true w0 b q0 lF q2 q3 q4 s0 s1 s3 s4 x1 x2 y1 y2 u v lv vr vi vm R I M ac w)(j:TO w0)(E:∀q,H q→q<w0.heap.size)(r1:Rep0 w0 H x1 (.l 1 (W A0)))(r2:Rep0 w0 H x2 (.l 1 (W D0)))(g:aT 63 [rL s0 A0 D0] (.t [.i .i64 (n 18),.i .i64 (e 18)]))(z:R.length≤1000)(C:I.length≤1000)(A:M.length≤1000)
 (next:∀(m:Act) (w':World) (a f c:Value),mF true w0 b q0 lF q2 q3 q4 s0 s1 s3 s4 x1 x2 y1 y2 u v lv a f c R I (M++[n 18,e 18]) m w'→Q0 .normal m w'):(q1 (qd 18 (qf Tryz.f9))).wp Tryz.prog Q0 ac w:=by
 have S:=h.ps j
 have y:=h.o3 (.head _) E r1 r2
 refine wp_region_lit ?_
 refine bQ S (dC (iG rfl y rfl)) fun _ _ _ S=>?_
 refine aj S (pf (d:= .t [.k (.int .i64 (n 18)),.k (.int .i64 (e 18))]) g) fun _ _ _ S=>?_
 iterate 2 refine bQ S uI fun _ _ _ S=>?_
 exact h.plain j S z C A rfl rfl rfl tv next
theorem ask_19(h:mF true w0 b q0 lF q2 q3 q4 s0 s1 s3 s4 x1 x2 y1 y2 u v lv vr vi vm R I M ac w)(j:TO w0)(E:∀q,H q→q<w0.heap.size)(r1:Rep0 w0 H x1 (.l 1 (W A0)))(r2:Rep0 w0 H x2 (.l 1 (W D0)))(g:aT 64 [rL s0 A0 D0] (.t [.i .i64 (n 19),.i .i64 (e 19)]))(z:R.length≤1000)(C:I.length≤1000)(A:M.length≤1000)
 (next:∀(m:Act) (w':World) (a f c:Value),mF true w0 b q0 lF q2 q3 q4 s0 s1 s3 s4 x1 x2 y1 y2 u v lv a f c R I (M++[n 19,e 19]) m w'→Q0 .normal m w'):(q1 (qd 19 (qf Tryz.f9))).wp Tryz.prog Q0 ac w:=by
 have S:=h.ps j
 have y:=h.o3 (.head _) E r1 r2
 refine wp_region_lit ?_
 refine bQ S (dC (iG rfl y rfl)) fun _ _ _ S=>?_
 refine aj S (pf (d:= .t [.k (.int .i64 (n 19)),.k (.int .i64 (e 19))]) g) fun _ _ _ S=>?_
 iterate 2 refine bQ S uI fun _ _ _ S=>?_
 exact h.plain j S z C A rfl rfl rfl tv next
theorem ask_20(h:mF true w0 b q0 lF q2 q3 q4 s0 s1 s3 s4 x1 x2 y1 y2 u v lv vr vi vm R I M ac w)(j:TO w0)(E:∀q,H q→q<w0.heap.size)(r1:Rep0 w0 H x1 (.l 1 (W A0)))(r2:Rep0 w0 H x2 (.l 1 (W D0)))(g:aT 17 [rL s0 A0 D0] (.t [.s pl,.i .i64 (e 20)]))(z:R.length≤1000)(C:I.length≤1000)(A:M.length≤1000)
 (next:∀(m:Act) (w':World) (a f c:Value),mF true w0 b q0 lF q2 q3 q4 s0 s1 s3 s4 x1 x2 y1 y2 u v lv a f c R I (M++[((⟨pl.toArray⟩:ByteArray).size:Int),e 20]) m w'→cd.wp Tryz.prog Q0 m w'):(Code.seq (q1 (qd 20 (qf Tryz.f9))) (Code.seq (q1 (qd 21 (qf Tryz.f9))) cd)).wp Tryz.prog Q0 ac w:=by
 have S:=h.ps j
 have y:=h.o3 (.head _) E r1 r2
 refine wp_seq (wp_region_lit ?_)
 refine bQ S (dC (iG rfl y rfl)) fun _ _ _ S=>?_
 refine aj S (ok_ps g) fun _ _ _ S=>?_
 iterate 5 refine bQ S uI fun _ _ _ S=>?_
 refine h_ (wp_seq (wp_region_lit ?_))
 refine bQ S uI fun _ _ _ S=>?_
 refine aj S (Z4 rfl kf) fun _ _ _ S=>?_
 refine bQ S uI fun _ _ _ S=>?_
 exact h.plain j S z C A rfl rfl rfl tv next
theorem ask_22(h:mF true w0 b q0 lF q2 q3 q4 s0 s1 s3 s4 x1 x2 y1 y2 u v lv vr vi vm R I M ac w)(j:TO w0)(E:∀q,H q→q<w0.heap.size)(r1:Rep0 w0 H x1 (.l 1 (W A0)))(r2:Rep0 w0 H x2 (.l 1 (W D0)))(g:aT 65 [rL s0 A0 D0] (.i .i64 (e 22)))(z:R.length≤1000)(C:I.length≤1000)(A:M.length≤1000)
 (next:∀(m:Act) (w':World) (a f c:Value),mF true w0 b q0 lF q2 q3 q4 s0 s1 s3 s4 x1 x2 y1 y2 u v lv a f c R I (M++[0,e 22]) m w'→Q0 .normal m w'):(q1 (qd 22 (qf Tryz.f9))).wp Tryz.prog Q0 ac w:=by
 have S:=h.ps j
 have y:=h.o3 (.head _) E r1 r2
 refine wp_region_lit ?_
 refine bQ S (dC (iG rfl y rfl)) fun _ _ _ S=>?_
 refine aj S (pf (d:= .k (.int .i64 (e 22))) g) fun _ _ _ S=>?_
 exact h.plain j S z C A rfl rfl rfl tv next
end
variable {w:World} {H:Nat→Prop} {s0 s1 s3 s4:Bool} {x1 x2 y1 y2 u v lv:Value} {A0 D0 A1 D1 A3 A4:List Nat} {l:List (Bool×List Nat×List Nat)} {t:Nat→Bool} {P Q:Nat→List Nat} {e n:Nat→Int} {pl:List UInt8}
theorem VQ(a:Jw w)(c:∀q,H q→q<w.heap.size)(r1:Rep0 w H x1 (.l 1 (W A0)))(r2:Rep0 w H x2 (.l 1 (W D0)))(j:Rep0 w H y1 (.l 1 (W A1)))(f:Rep0 w H y2 (.l 1 (W D1)))(m:Rep0 w H u (.l 1 (W A3)))(O:Rep0 w H v (.l 1 (W A4)))(rl:Rep0 w H lv (.l 3 (RC l)))
 (f2:F3 50 [qD s0 A0 D0] (t 2) (P 2) (Q 2) (e 2))
 (f3:F3 51 [iD s3 A3,iD s4 A4] (t 3) (P 3) (Q 3) (e 3))
 (f4:F3 52 [iD s3 A3,.k (.int .i64 (-3))] (t 4) (P 4) (Q 4) (e 4))
 (f5:F3 22 [qD s0 A0 D0,qD s1 A1 D1] (t 5) (P 5) (Q 5) (e 5))
 (f6:F3 53 [qD s0 A0 D0,qD s1 A1 D1] (t 6) (P 6) (Q 6) (e 6))
 (f7:F3 54 [qD s0 A0 D0,qD s1 A1 D1] (t 7) (P 7) (Q 7) (e 7))
 (f8:F3 55 [qD s0 A0 D0,qD s1 A1 D1] (t 8) (P 8) (Q 8) (e 8))
 (f9:F3 56 [qD s0 A0 D0] (t 9) (P 9) (Q 9) (e 9))
 (N:F3 57 [qD s0 A0 D0,.k (.int .i64 2)] (t 10) (P 10) (Q 10) (e 10))
 (M:∀(w:World) (H:Nat→Prop) (lv:Value),Jw w→(∀q,H q→q<w.heap.size)→Rep0 w H lv (.l 3 (RC l))→Calls Tryz.prog 58 #[lv] w (Ans w (.t [.g [.k (.bool (t 11)),.ow (P 11) 0,.ow (Q 11) 1],.k (.int .i64 (e 11))])))
 (L:F3 59 [qD s0 A0 D0,qD s1 A1 D1] (t 12) (P 12) (Q 12) (e 12))
 (J:F3 20 [qD s0 A0 D0,qD s1 A1 D1] (t 13) (P 13) (Q 13) (e 13))
 (I:F2 18 [qD s0 A0 D0,.k (.int .i64 1)] (t 14) (P 14) (e 14))
 (G:F2 60 [qD s0 A0 D0,.k (.int .i64 0)] (t 15) (P 15) (e 15))
 (F:aT 61 [rL s0 A0 D0,rL s1 A1 D1] (.t [.i .i64 (n 16),.i .i64 (e 16)]))
 (E:aT 62 [rL s0 A0 D0] (.t [.i .i64 (n 17),.i .i64 (e 17)]))
 (C:aT 63 [rL s0 A0 D0] (.t [.i .i64 (n 18),.i .i64 (e 18)]))
 (A:aT 64 [rL s0 A0 D0] (.t [.i .i64 (n 19),.i .i64 (e 19)]))
 (z:aT 17 [rL s0 A0 D0] (.t [.s pl,.i .i64 (e 20)]))
 (y:aT 65 [rL s0 A0 D0] (.i .i64 (e 22))):
 Calls Tryz.prog 9 #[.agg #[.bool s0,x1,x2],.agg #[.bool s1,y1,y2],.agg #[.bool s3,u],.agg #[.bool s4,v],lv] w (AR true w (RKd t P Q) (IKd t P) (Md e n pl)):=by
 obtain⟨_,_,_,rfl⟩:=gV r1
 obtain⟨_,_,_,rfl⟩:=gV r2
 obtain⟨_,_,_,rfl⟩:=gV j
 obtain⟨_,_,_,rfl⟩:=gV f
 obtain⟨_,_,_,rfl⟩:=gV m
 obtain⟨_,_,_,rfl⟩:=gV O
 refine IP (ds:=[.g [.k (.bool s0),.k (.slice _ _ _),.k (.slice _ _ _)],.g [.k (.bool s1),.k (.slice _ _ _),.k (.slice _ _ _)],.g [.k (.bool s3),.k (.slice _ _ _)],.g [.k (.bool s4),.k (.slice _ _ _)],.k lv]) (vs:=[.agg #[.bool s0,.slice _ _ _,.slice _ _ _],.agg #[.bool s1,.slice _ _ _,.slice _ _ _],.agg #[.bool s3,.slice _ _ _],.agg #[.bool s4,.slice _ _ _],lv]) (code:=qf Tryz.f9) a ⟨⟨_,rfl,rfl,rfl,rfl,trivial⟩,⟨_,rfl,rfl,rfl,rfl,trivial⟩,⟨_,rfl,rfl,rfl,trivial⟩,⟨_,rfl,rfl,rfl,trivial⟩,rfl,trivial⟩ Tryz.func9 rfl rfl fun ac S=>?_
 refine ET ?_
 iterate 4 refine bQ S uI fun _ _ _ S=>?_
 refine bQ S (dC ZZ) fun _ _ _ S=>?_
 refine h_ (ET ?_)
 refine bQ S (dC ZZ) fun _ _ _ S=>?_
 refine h_ ?_
 obtain⟨q0,q1,q2,q3,q4,b,U,h⟩:=as_0 true (c0:=[.bool s0,.slice _ _ _,.slice _ _ _]) (c1:=[.bool s1,.slice _ _ _,.slice _ _ _]) (c2:=[.bool s3,.slice _ _ _]) (c3:=[.bool s4,.slice _ _ _]) S rfl rfl rfl rfl rfl rfl rfl rfl rfl rfl rfl rfl rfl
 clear S
 refine wp_seq (ask_2 h a c r1 r2 f2 sy sy sy rfl fun _ _ _ _ _ _ _ h=>?_)
 refine wp_seq (ask_3 h a c m O f3 sy sy sy rfl fun _ _ _ _ _ _ _ h=>?_)
 refine wp_seq (ask_4 h a c m f4 sy sy sy rfl fun _ _ _ _ _ _ _ h=>?_)
 refine wp_seq (ask_5 h a c r1 r2 j f f5 sy sy sy rfl fun _ _ _ _ _ _ _ h=>?_)
 refine wp_seq (ask_6 h a c r1 r2 j f f6 sy sy sy rfl fun _ _ _ _ _ _ _ h=>?_)
 refine wp_seq (ask_7 h a c r1 r2 j f f7 sy sy sy rfl fun _ _ _ _ _ _ _ h=>?_)
 refine wp_seq (ask_8 h a c r1 r2 j f f8 sy sy sy rfl fun _ _ _ _ _ _ _ h=>?_)
 refine wp_seq (ask_9 h a c r1 r2 f9 sy sy sy rfl fun _ _ _ _ _ _ _ h=>?_)
 refine wp_seq (ask_10 h a c r1 r2 N sy sy sy rfl fun _ _ _ _ _ _ _ h=>?_)
 refine wp_seq (ask_11 h a c rl M sy sy sy rfl fun _ _ _ _ _ _ _ h=>?_)
 refine wp_seq (ask_12 h a c r1 r2 j f L sy sy sy rfl fun _ _ _ _ _ _ _ h=>?_)
 refine wp_seq (ask_13 h a c r1 r2 j f J sy sy sy rfl fun _ _ _ _ _ _ _ h=>?_)
 refine wp_seq (ask_14 h a c r1 r2 I sy sy sy fun _ _ _ _ _ _ h=>?_)
 refine wp_seq (ask_15 h a c r1 r2 G sy sy sy fun _ _ _ _ _ _ h=>?_)
 refine wp_seq (ask_16 h a c r1 r2 j f F sy sy sy fun _ _ _ _ _ h=>?_)
 refine wp_seq (ask_17 h a c r1 r2 E sy sy sy fun _ _ _ _ _ h=>?_)
 refine wp_seq (ask_18 h a c r1 r2 C sy sy sy fun _ _ _ _ _ h=>?_)
 refine wp_seq (ask_19 h a c r1 r2 A sy sy sy fun _ _ _ _ _ h=>?_)
 refine ask_20 h a c r1 r2 z sy sy sy fun _ _ _ _ _ h=>?_
 refine wp_seq (ask_22 h a c r1 r2 y sy sy sy fun _ _ _ _ _ h=>?_)
 refine ET ?_
 refine Z5 (fn:=Tryz.f9) h (dP (i:=5) rfl) (dP (i:=6) rfl) (dP (i:=4) rfl) rfl rfl U (RK:=RKd t P Q) (IK:=IKd t P) (by simp only[uQ,tZ];rfl) (by simp only[uQ,tZ];rfl) fun a' w' Z Y T=>?_
 simp only[uQ,tZ]at T
 exact wp_ret ⟨Z,_,Y,T⟩
end
section
open Go Go.RowKit Go.Proofs Ab
variable {w:World} {H:Nat→Prop} {s0 s1 s3 s4:Bool} {x1 x2 y1 y2 u v lv:Value} {A0 D0 A1 D1 A3 A4:List Nat} {l:List (Bool×List Nat×List Nat)} {t:Nat→Bool} {P Q:Nat→List Nat} {e n:Nat→Int} {pl:List UInt8}
section
variable {w0 w:World} {b q0 lF q2 q3 q4:Nat} {H:Nat→Prop} {s0 s1 s3 s4:Bool} {x1 x2 y1 y2 u v lv vr vi vm:Value} {A0 D0 A1 D1 A3 A4:List Nat} {l:List (Bool×List Nat×List Nat)} {t:Nat→Bool} {P Q:Nat→List Nat} {e n:Nat→Int} {pl:List UInt8} {R:List TQ} {I:List TZ} {M:List Int} {ac:Act} {Q0:Exit→Act→World→Prop} {cd:Code}
theorem wan_2(h:mF false w0 b q0 lF q2 q3 q4 s0 s1 s3 s4 x1 x2 y1 y2 u v lv vr vi vm R I M ac w)(g:TO w0)(E:∀q,H q→q<w0.heap.size)(r1:Rep0 w0 H x1 (.l 1 (W A0)))(r2:Rep0 w0 H x2 (.l 1 (W D0)))(F:G3 28 [rL s0 A0 D0] (t 2) (P 2) (Q 2) (e 2))(y:R.length≤1000)(A:I.length≤1000)(z:M.length≤1000)(C:I=[])
 (next:∀(j:Act) (w':World) (z1 z2:Value) (a f c:Value),mF false w0 b q0 lF q2 q3 q4 s0 s1 s3 s4 x1 x2 y1 y2 u v lv a f c (R++[(t 2,(z1,P 2),(z2,Q 2))]) I (M++[e 2]) j w'→Q0 .normal j w'):(q1 (qd 2 (qf Tryz.f8))).wp Tryz.prog Q0 ac w:=by
 have S:=h.ps g
 have m:=h.o3 (.head _) E r1 r2
 refine wp_region_lit ?_
 refine bQ S (dC (iG rfl m rfl)) fun _ _ _ S=>?_
 refine aj S (ZY (h.tj g (dQ _)) h.sd.lt F za1) fun _ _ _ S=>?_
 iterate 2 refine bQ S uI fun _ _ _ S=>?_
 exact h.rat g S y A z C rfl rfl rfl FW tv next
theorem wan_3(h:mF false w0 b q0 lF q2 q3 q4 s0 s1 s3 s4 x1 x2 y1 y2 u v lv vr vi vm R I M ac w)(g:TO w0)(j:∀q,H q→q<w0.heap.size)(z:Rep0 w0 H u (.l 1 (W A3)))(y:Rep0 w0 H v (.l 1 (W A4)))(G:G3 29 [zL s3 A3,zL s4 A4] (t 3) (P 3) (Q 3) (e 3))(A:R.length≤1000)(E:I.length≤1000)(C:M.length≤1000)(F:I=[])
 (next:∀(m:Act) (w':World) (z1 z2:Value) (a f c:Value),mF false w0 b q0 lF q2 q3 q4 s0 s1 s3 s4 x1 x2 y1 y2 u v lv a f c (R++[(t 3,(z1,P 3),(z2,Q 3))]) I (M++[e 3]) m w'→Q0 .normal m w'):(q1 (qd 3 (qf Tryz.f8))).wp Tryz.prog Q0 ac w:=by
 have S:=h.ps g
 have o2:=h.o2 (.tail _ (.tail _ (.head _))) j z
 have o3:=h.o2 (.tail _ (.tail _ (.tail _ (.head _)))) j y
 refine wp_region_lit ?_
 refine bQ S (dC (Bz rfl o2 rfl)) fun _ _ _ S=>?_
 refine bQ S (dC (Bz rfl o3 rfl)) fun _ _ _ S=>?_
 refine aj S (ZY (h.tj g (dQ _)) h.sd.lt G zi2) fun _ _ _ S=>?_
 iterate 2 refine bQ S uI fun _ _ _ S=>?_
 exact h.rat g S A E C F rfl rfl rfl FW tv next
theorem wan_4(h:mF false w0 b q0 lF q2 q3 q4 s0 s1 s3 s4 x1 x2 y1 y2 u v lv vr vi vm R I M ac w)(g:TO w0)(E:∀q,H q→q<w0.heap.size)(m:Rep0 w0 H u (.l 1 (W A3)))(F:G3 30 [zL s3 A3,.i .i64 (-3)] (t 4) (P 4) (Q 4) (e 4))(y:R.length≤1000)(A:I.length≤1000)(z:M.length≤1000)(C:I=[])
 (next:∀(j:Act) (w':World) (z1 z2:Value) (a f c:Value),mF false w0 b q0 lF q2 q3 q4 s0 s1 s3 s4 x1 x2 y1 y2 u v lv a f c (R++[(t 4,(z1,P 4),(z2,Q 4))]) I (M++[e 4]) j w'→Q0 .normal j w'):(q1 (qd 4 (qf Tryz.f8))).wp Tryz.prog Q0 ac w:=by
 have S:=h.ps g
 have o2:=h.o2 (.tail _ (.tail _ (.head _))) E m
 refine wp_region_lit ?_
 refine bQ S (dC (Bz rfl o2 rfl)) fun _ _ _ S=>?_
 refine aj S (ZY (h.tj g (dQ _)) h.sd.lt F zik) fun _ _ _ S=>?_
 iterate 2 refine bQ S uI fun _ _ _ S=>?_
 exact h.rat g S y A z C rfl rfl rfl FW tv next
theorem wan_5(h:mF false w0 b q0 lF q2 q3 q4 s0 s1 s3 s4 x1 x2 y1 y2 u v lv vr vi vm R I M ac w)(g:TO w0)(j:∀q,H q→q<w0.heap.size)(r1:Rep0 w0 H x1 (.l 1 (W A0)))(r2:Rep0 w0 H x2 (.l 1 (W D0)))(z:Rep0 w0 H y1 (.l 1 (W A1)))(y:Rep0 w0 H y2 (.l 1 (W D1)))(L:G3 31 [rL s0 A0 D0,rL s1 A1 D1] (t 5) (P 5) (Q 5) (e 5))(E:R.length≤1000)(G:I.length≤1000)(F:M.length≤1000)(J:I=[])
 (next:∀(m:Act) (w':World) (z1 z2:Value) (a f c:Value),mF false w0 b q0 lF q2 q3 q4 s0 s1 s3 s4 x1 x2 y1 y2 u v lv a f c (R++[(t 5,(z1,P 5),(z2,Q 5))]) I (M++[e 5]) m w'→Q0 .normal m w'):(q1 (qd 5 (qf Tryz.f8))).wp Tryz.prog Q0 ac w:=by
 have S:=h.ps g
 have C:=h.o3 (.head _) j r1 r2
 have A:=h.o3 (.tail _ (.head _)) j z y
 refine wp_region_lit ?_
 refine bQ S (dC (iG rfl C rfl)) fun _ _ _ S=>?_
 refine bQ S (dC (iG rfl A rfl)) fun _ _ _ S=>?_
 refine aj S (ZY (h.tj g (dQ _)) h.sd.lt L za2) fun _ _ _ S=>?_
 iterate 2 refine bQ S uI fun _ _ _ S=>?_
 exact h.rat g S E G F J rfl rfl rfl FW tv next
theorem wan_6(h:mF false w0 b q0 lF q2 q3 q4 s0 s1 s3 s4 x1 x2 y1 y2 u v lv vr vi vm R I M ac w)(g:TO w0)(j:∀q,H q→q<w0.heap.size)(r1:Rep0 w0 H x1 (.l 1 (W A0)))(r2:Rep0 w0 H x2 (.l 1 (W D0)))(z:Rep0 w0 H y1 (.l 1 (W A1)))(y:Rep0 w0 H y2 (.l 1 (W D1)))(L:G3 32 [rL s0 A0 D0,rL s1 A1 D1] (t 6) (P 6) (Q 6) (e 6))(E:R.length≤1000)(G:I.length≤1000)(F:M.length≤1000)(J:I=[])
 (next:∀(m:Act) (w':World) (z1 z2:Value) (a f c:Value),mF false w0 b q0 lF q2 q3 q4 s0 s1 s3 s4 x1 x2 y1 y2 u v lv a f c (R++[(t 6,(z1,P 6),(z2,Q 6))]) I (M++[e 6]) m w'→Q0 .normal m w'):(q1 (qd 6 (qf Tryz.f8))).wp Tryz.prog Q0 ac w:=by
 have S:=h.ps g
 have C:=h.o3 (.head _) j r1 r2
 have A:=h.o3 (.tail _ (.head _)) j z y
 refine wp_region_lit ?_
 refine bQ S (dC (iG rfl C rfl)) fun _ _ _ S=>?_
 refine bQ S (dC (iG rfl A rfl)) fun _ _ _ S=>?_
 refine aj S (ZY (h.tj g (dQ _)) h.sd.lt L za2) fun _ _ _ S=>?_
 iterate 2 refine bQ S uI fun _ _ _ S=>?_
 exact h.rat g S E G F J rfl rfl rfl FW tv next
theorem wan_7(h:mF false w0 b q0 lF q2 q3 q4 s0 s1 s3 s4 x1 x2 y1 y2 u v lv vr vi vm R I M ac w)(g:TO w0)(j:∀q,H q→q<w0.heap.size)(r1:Rep0 w0 H x1 (.l 1 (W A0)))(r2:Rep0 w0 H x2 (.l 1 (W D0)))(z:Rep0 w0 H y1 (.l 1 (W A1)))(y:Rep0 w0 H y2 (.l 1 (W D1)))(L:G3 33 [rL s0 A0 D0,rL s1 A1 D1] (t 7) (P 7) (Q 7) (e 7))(E:R.length≤1000)(G:I.length≤1000)(F:M.length≤1000)(J:I=[])
 (next:∀(m:Act) (w':World) (z1 z2:Value) (a f c:Value),mF false w0 b q0 lF q2 q3 q4 s0 s1 s3 s4 x1 x2 y1 y2 u v lv a f c (R++[(t 7,(z1,P 7),(z2,Q 7))]) I (M++[e 7]) m w'→Q0 .normal m w'):(q1 (qd 7 (qf Tryz.f8))).wp Tryz.prog Q0 ac w:=by
 have S:=h.ps g
 have C:=h.o3 (.head _) j r1 r2
 have A:=h.o3 (.tail _ (.head _)) j z y
 refine wp_region_lit ?_
 refine bQ S (dC (iG rfl C rfl)) fun _ _ _ S=>?_
 refine bQ S (dC (iG rfl A rfl)) fun _ _ _ S=>?_
 refine aj S (ZY (h.tj g (dQ _)) h.sd.lt L za2) fun _ _ _ S=>?_
 iterate 2 refine bQ S uI fun _ _ _ S=>?_
 exact h.rat g S E G F J rfl rfl rfl FW tv next
theorem wan_8(h:mF false w0 b q0 lF q2 q3 q4 s0 s1 s3 s4 x1 x2 y1 y2 u v lv vr vi vm R I M ac w)(g:TO w0)(j:∀q,H q→q<w0.heap.size)(r1:Rep0 w0 H x1 (.l 1 (W A0)))(r2:Rep0 w0 H x2 (.l 1 (W D0)))(z:Rep0 w0 H y1 (.l 1 (W A1)))(y:Rep0 w0 H y2 (.l 1 (W D1)))(L:G3 34 [rL s0 A0 D0,rL s1 A1 D1] (t 8) (P 8) (Q 8) (e 8))(E:R.length≤1000)(G:I.length≤1000)(F:M.length≤1000)(J:I=[])
 (next:∀(m:Act) (w':World) (z1 z2:Value) (a f c:Value),mF false w0 b q0 lF q2 q3 q4 s0 s1 s3 s4 x1 x2 y1 y2 u v lv a f c (R++[(t 8,(z1,P 8),(z2,Q 8))]) I (M++[e 8]) m w'→Q0 .normal m w'):(q1 (qd 8 (qf Tryz.f8))).wp Tryz.prog Q0 ac w:=by
 have S:=h.ps g
 have C:=h.o3 (.head _) j r1 r2
 have A:=h.o3 (.tail _ (.head _)) j z y
 refine wp_region_lit ?_
 refine bQ S (dC (iG rfl C rfl)) fun _ _ _ S=>?_
 refine bQ S (dC (iG rfl A rfl)) fun _ _ _ S=>?_
 refine aj S (ZY (h.tj g (dQ _)) h.sd.lt L za2) fun _ _ _ S=>?_
 iterate 2 refine bQ S uI fun _ _ _ S=>?_
 exact h.rat g S E G F J rfl rfl rfl FW tv next
theorem wan_9(h:mF false w0 b q0 lF q2 q3 q4 s0 s1 s3 s4 x1 x2 y1 y2 u v lv vr vi vm R I M ac w)(g:TO w0)(E:∀q,H q→q<w0.heap.size)(r1:Rep0 w0 H x1 (.l 1 (W A0)))(r2:Rep0 w0 H x2 (.l 1 (W D0)))(F:G3 35 [rL s0 A0 D0] (t 9) (P 9) (Q 9) (e 9))(y:R.length≤1000)(A:I.length≤1000)(z:M.length≤1000)(C:I=[])
 (next:∀(j:Act) (w':World) (z1 z2:Value) (a f c:Value),mF false w0 b q0 lF q2 q3 q4 s0 s1 s3 s4 x1 x2 y1 y2 u v lv a f c (R++[(t 9,(z1,P 9),(z2,Q 9))]) I (M++[e 9]) j w'→Q0 .normal j w'):(q1 (qd 9 (qf Tryz.f8))).wp Tryz.prog Q0 ac w:=by
 have S:=h.ps g
 have m:=h.o3 (.head _) E r1 r2
 refine wp_region_lit ?_
 refine bQ S (dC (iG rfl m rfl)) fun _ _ _ S=>?_
 refine aj S (ZY (h.tj g (dQ _)) h.sd.lt F za1) fun _ _ _ S=>?_
 iterate 2 refine bQ S uI fun _ _ _ S=>?_
 exact h.rat g S y A z C rfl rfl rfl FW tv next
theorem wan_10(h:mF false w0 b q0 lF q2 q3 q4 s0 s1 s3 s4 x1 x2 y1 y2 u v lv vr vi vm R I M ac w)(g:TO w0)(F:∀q,H q→q<w0.heap.size)(r1:Rep0 w0 H x1 (.l 1 (W A0)))(r2:Rep0 w0 H x2 (.l 1 (W D0)))(j:G3 36 [rL s0 A0 D0,.i .i64 2] (t 10) (P 10) (Q 10) (e 10))(z:R.length≤1000)(C:I.length≤1000)(A:M.length≤1000)(E:I=[])
 (next:∀(m:Act) (w':World) (z1 z2:Value) (a f c:Value),mF false w0 b q0 lF q2 q3 q4 s0 s1 s3 s4 x1 x2 y1 y2 u v lv a f c (R++[(t 10,(z1,P 10),(z2,Q 10))]) I (M++[e 10]) m w'→Q0 .normal m w'):(q1 (qd 10 (qf Tryz.f8))).wp Tryz.prog Q0 ac w:=by
 have S:=h.ps g
 have y:=h.o3 (.head _) F r1 r2
 refine wp_region_lit ?_
 refine bQ S (dC (iG rfl y rfl)) fun _ _ _ S=>?_
 refine aj S (ZY (h.tj g (dQ _)) h.sd.lt j zak) fun _ _ _ S=>?_
 iterate 2 refine bQ S uI fun _ _ _ S=>?_
 exact h.rat g S z C A E rfl rfl rfl FW tv next
theorem wan_11(h:mF false w0 b q0 lF q2 q3 q4 s0 s1 s3 s4 x1 x2 y1 y2 u v lv vr vi vm R I M ac w)(g:TO w0)(m:∀q,H q→q<w0.heap.size)(rl:Rep0 w0 H lv (.l 3 (RC l)))(j:aT 37 [.l 3 (RC l)] (.t [rL (t 11) (P 11) (Q 11),.i .i64 (e 11)]))(z:R.length≤1000)(C:I.length≤1000)(A:M.length≤1000)(E:I=[])
 (next:∀(y:Act) (w':World) (z1 z2:Value) (a f c:Value),mF false w0 b q0 lF q2 q3 q4 s0 s1 s3 s4 x1 x2 y1 y2 u v lv a f c (R++[(t 11,(z1,P 11),(z2,Q 11))]) I (M++[e 11]) y w'→Q0 .normal y w'):(q1 (qd 11 (qf Tryz.f8))).wp Tryz.prog Q0 ac w:=by
 have S:=h.ps g
 refine wp_region_lit ?_
 refine bQ S uI fun _ _ _ S=>?_
 refine aj S (pzs (h.tj g (dQ _)) h.sd.lt j rfl (h.out m) (h.up m rl)) fun _ _ _ S=>?_
 iterate 2 refine bQ S uI fun _ _ _ S=>?_
 exact h.rat g S z C A E rfl rfl rfl FW tv next
theorem wan_12(h:mF false w0 b q0 lF q2 q3 q4 s0 s1 s3 s4 x1 x2 y1 y2 u v lv vr vi vm R I M ac w)(g:TO w0)(m:∀q,H q→q<w0.heap.size)(r1:Rep0 w0 H x1 (.l 1 (W A0)))(r2:Rep0 w0 H x2 (.l 1 (W D0)))(A:Rep0 w0 H y1 (.l 1 (W A1)))(z:Rep0 w0 H y2 (.l 1 (W D1)))(j:G3 38 [rL s0 A0 D0,rL s1 A1 D1] (t 12) (P 12) (Q 12) (e 12))(F:R.length≤1000)(J:I.length≤1000)(G:M.length≤1000)(L:I=[])
 (next:∀(y:Act) (w':World) (z1 z2:Value) (a f c:Value),mF false w0 b q0 lF q2 q3 q4 s0 s1 s3 s4 x1 x2 y1 y2 u v lv a f c (R++[(t 12,(z1,P 12),(z2,Q 12))]) I (M++[e 12]) y w'→Q0 .normal y w'):(q1 (qd 12 (qf Tryz.f8))).wp Tryz.prog Q0 ac w:=by
 have S:=h.ps g
 have E:=h.o3 (.head _) m r1 r2
 have C:=h.o3 (.tail _ (.head _)) m A z
 refine wp_region_lit ?_
 refine bQ S (dC (iG rfl E rfl)) fun _ _ _ S=>?_
 refine bQ S (dC (iG rfl C rfl)) fun _ _ _ S=>?_
 refine aj S (ZY (h.tj g (dQ _)) h.sd.lt j za2) fun _ _ _ S=>?_
 iterate 2 refine bQ S uI fun _ _ _ S=>?_
 exact h.rat g S F J G L rfl rfl rfl FW tv next
theorem wan_13(h:mF false w0 b q0 lF q2 q3 q4 s0 s1 s3 s4 x1 x2 y1 y2 u v lv vr vi vm R I M ac w)(g:TO w0)(m:∀q,H q→q<w0.heap.size)(r1:Rep0 w0 H x1 (.l 1 (W A0)))(r2:Rep0 w0 H x2 (.l 1 (W D0)))(A:Rep0 w0 H y1 (.l 1 (W A1)))(z:Rep0 w0 H y2 (.l 1 (W D1)))(j:G3 39 [rL s0 A0 D0,rL s1 A1 D1] (t 13) (P 13) (Q 13) (e 13))(F:R.length≤1000)(J:I.length≤1000)(G:M.length≤1000)(L:I=[])
 (next:∀(y:Act) (w':World) (z1 z2:Value) (a f c:Value),mF false w0 b q0 lF q2 q3 q4 s0 s1 s3 s4 x1 x2 y1 y2 u v lv a f c (R++[(t 13,(z1,P 13),(z2,Q 13))]) I (M++[e 13]) y w'→Q0 .normal y w'):(q1 (qd 13 (qf Tryz.f8))).wp Tryz.prog Q0 ac w:=by
 have S:=h.ps g
 have E:=h.o3 (.head _) m r1 r2
 have C:=h.o3 (.tail _ (.head _)) m A z
 refine wp_region_lit ?_
 refine bQ S (dC (iG rfl E rfl)) fun _ _ _ S=>?_
 refine bQ S (dC (iG rfl C rfl)) fun _ _ _ S=>?_
 refine aj S (ZY (h.tj g (dQ _)) h.sd.lt j za2) fun _ _ _ S=>?_
 iterate 2 refine bQ S uI fun _ _ _ S=>?_
 exact h.rat g S F J G L rfl rfl rfl FW tv next
theorem wan_14(h:mF false w0 b q0 lF q2 q3 q4 s0 s1 s3 s4 x1 x2 y1 y2 u v lv vr vi vm R I M ac w)(g:TO w0)(E:∀q,H q→q<w0.heap.size)(r1:Rep0 w0 H x1 (.l 1 (W A0)))(r2:Rep0 w0 H x2 (.l 1 (W D0)))(j:G2 41 [rL s0 A0 D0,.i .i64 1] (t 14) (P 14) (e 14))(z:R.length≤1000)(C:I.length≤1000)(A:M.length≤1000)
 (next:∀(m:Act) (w':World) (z1:Value) (a f c:Value),mF false w0 b q0 lF q2 q3 q4 s0 s1 s3 s4 x1 x2 y1 y2 u v lv a f c R (I++[(t 14,(z1,P 14))]) (M++[e 14]) m w'→Q0 .normal m w'):(q1 (qd 14 (qf Tryz.f8))).wp Tryz.prog Q0 ac w:=by
 have S:=h.ps g
 have y:=h.o3 (.head _) E r1 r2
 refine wp_region_lit ?_
 refine bQ S (dC (iG rfl y rfl)) fun _ _ _ S=>?_
 refine aj S (pz2 (h.tj g (dQ _)) h.sd.lt j zak) fun _ _ _ S=>?_
 iterate 2 refine bQ S uI fun _ _ _ S=>?_
 exact h.whole g S z C A rfl rfl rfl rw1f tv next
theorem wan_15(h:mF false w0 b q0 lF q2 q3 q4 s0 s1 s3 s4 x1 x2 y1 y2 u v lv vr vi vm R I M ac w)(g:TO w0)(E:∀q,H q→q<w0.heap.size)(r1:Rep0 w0 H x1 (.l 1 (W A0)))(r2:Rep0 w0 H x2 (.l 1 (W D0)))(j:G2 42 [rL s0 A0 D0,.i .i64 0] (t 15) (P 15) (e 15))(z:R.length≤1000)(C:I.length≤1000)(A:M.length≤1000)
 (next:∀(m:Act) (w':World) (z1:Value) (a f c:Value),mF false w0 b q0 lF q2 q3 q4 s0 s1 s3 s4 x1 x2 y1 y2 u v lv a f c R (I++[(t 15,(z1,P 15))]) (M++[e 15]) m w'→Q0 .normal m w'):(q1 (qd 15 (qf Tryz.f8))).wp Tryz.prog Q0 ac w:=by
 have S:=h.ps g
 have y:=h.o3 (.head _) E r1 r2
 refine wp_region_lit ?_
 refine bQ S (dC (iG rfl y rfl)) fun _ _ _ S=>?_
 refine aj S (pz2 (h.tj g (dQ _)) h.sd.lt j zak) fun _ _ _ S=>?_
 iterate 2 refine bQ S uI fun _ _ _ S=>?_
 exact h.whole g S z C A rfl rfl rfl rw1f tv next
theorem wan_16(h:mF false w0 b q0 lF q2 q3 q4 s0 s1 s3 s4 x1 x2 y1 y2 u v lv vr vi vm R I M ac w)(j:TO w0)(m:∀q,H q→q<w0.heap.size)(r1:Rep0 w0 H x1 (.l 1 (W A0)))(r2:Rep0 w0 H x2 (.l 1 (W D0)))(A:Rep0 w0 H y1 (.l 1 (W A1)))(z:Rep0 w0 H y2 (.l 1 (W D1)))(g:aT 44 [rL s0 A0 D0,rL s1 A1 D1] (.t [.i .i64 (n 16),.i .i64 (e 16)]))(F:R.length≤1000)(J:I.length≤1000)(G:M.length≤1000)
 (next:∀(y:Act) (w':World) (a f c:Value),mF false w0 b q0 lF q2 q3 q4 s0 s1 s3 s4 x1 x2 y1 y2 u v lv a f c R I (M++[n 16,e 16]) y w'→Q0 .normal y w'):(q1 (qd 16 (qf Tryz.f8))).wp Tryz.prog Q0 ac w:=by
 have S:=h.ps j
 have E:=h.o3 (.head _) m r1 r2
 have C:=h.o3 (.tail _ (.head _)) m A z
 refine wp_region_lit ?_
 refine bQ S (dC (iG rfl E rfl)) fun _ _ _ S=>?_
 refine bQ S (dC (iG rfl C rfl)) fun _ _ _ S=>?_
 refine aj S (pf (d:= .t [.k (.int .i64 (n 16)),.k (.int .i64 (e 16))]) g) fun _ _ _ S=>?_
 iterate 2 refine bQ S uI fun _ _ _ S=>?_
 exact h.plain j S F J G rfl rfl rfl tv next
theorem wan_17(h:mF false w0 b q0 lF q2 q3 q4 s0 s1 s3 s4 x1 x2 y1 y2 u v lv vr vi vm R I M ac w)(j:TO w0)(E:∀q,H q→q<w0.heap.size)(r1:Rep0 w0 H x1 (.l 1 (W A0)))(r2:Rep0 w0 H x2 (.l 1 (W D0)))(g:aT 45 [rL s0 A0 D0] (.t [.i .i64 (n 17),.i .i64 (e 17)]))(z:R.length≤1000)(C:I.length≤1000)(A:M.length≤1000)
 (next:∀(m:Act) (w':World) (a f c:Value),mF false w0 b q0 lF q2 q3 q4 s0 s1 s3 s4 x1 x2 y1 y2 u v lv a f c R I (M++[n 17,e 17]) m w'→Q0 .normal m w'):(q1 (qd 17 (qf Tryz.f8))).wp Tryz.prog Q0 ac w:=by
 have S:=h.ps j
 have y:=h.o3 (.head _) E r1 r2
 refine wp_region_lit ?_
 refine bQ S (dC (iG rfl y rfl)) fun _ _ _ S=>?_
 refine aj S (pf (d:= .t [.k (.int .i64 (n 17)),.k (.int .i64 (e 17))]) g) fun _ _ _ S=>?_
 iterate 2 refine bQ S uI fun _ _ _ S=>?_
 exact h.plain j S z C A rfl rfl rfl tv next
theorem wan_18(h:mF false w0 b q0 lF q2 q3 q4 s0 s1 s3 s4 x1 x2 y1 y2 u v lv vr vi vm R I M ac w)(j:TO w0)(E:∀q,H q→q<w0.heap.size)(r1:Rep0 w0 H x1 (.l 1 (W A0)))(r2:Rep0 w0 H x2 (.l 1 (W D0)))(g:aT 46 [rL s0 A0 D0] (.t [.i .i64 (n 18),.i .i64 (e 18)]))(z:R.length≤1000)(C:I.length≤1000)(A:M.length≤1000)
 (next:∀(m:Act) (w':World) (a f c:Value),mF false w0 b q0 lF q2 q3 q4 s0 s1 s3 s4 x1 x2 y1 y2 u v lv a f c R I (M++[n 18,e 18]) m w'→Q0 .normal m w'):(q1 (qd 18 (qf Tryz.f8))).wp Tryz.prog Q0 ac w:=by
 have S:=h.ps j
 have y:=h.o3 (.head _) E r1 r2
 refine wp_region_lit ?_
 refine bQ S (dC (iG rfl y rfl)) fun _ _ _ S=>?_
 refine aj S (pf (d:= .t [.k (.int .i64 (n 18)),.k (.int .i64 (e 18))]) g) fun _ _ _ S=>?_
 iterate 2 refine bQ S uI fun _ _ _ S=>?_
 exact h.plain j S z C A rfl rfl rfl tv next
theorem wan_19(h:mF false w0 b q0 lF q2 q3 q4 s0 s1 s3 s4 x1 x2 y1 y2 u v lv vr vi vm R I M ac w)(j:TO w0)(E:∀q,H q→q<w0.heap.size)(r1:Rep0 w0 H x1 (.l 1 (W A0)))(r2:Rep0 w0 H x2 (.l 1 (W D0)))(g:aT 47 [rL s0 A0 D0] (.t [.i .i64 (n 19),.i .i64 (e 19)]))(z:R.length≤1000)(C:I.length≤1000)(A:M.length≤1000)
 (next:∀(m:Act) (w':World) (a f c:Value),mF false w0 b q0 lF q2 q3 q4 s0 s1 s3 s4 x1 x2 y1 y2 u v lv a f c R I (M++[n 19,e 19]) m w'→Q0 .normal m w'):(q1 (qd 19 (qf Tryz.f8))).wp Tryz.prog Q0 ac w:=by
 have S:=h.ps j
 have y:=h.o3 (.head _) E r1 r2
 refine wp_region_lit ?_
 refine bQ S (dC (iG rfl y rfl)) fun _ _ _ S=>?_
 refine aj S (pf (d:= .t [.k (.int .i64 (n 19)),.k (.int .i64 (e 19))]) g) fun _ _ _ S=>?_
 iterate 2 refine bQ S uI fun _ _ _ S=>?_
 exact h.plain j S z C A rfl rfl rfl tv next
theorem wan_20(h:mF false w0 b q0 lF q2 q3 q4 s0 s1 s3 s4 x1 x2 y1 y2 u v lv vr vi vm R I M ac w)(j:TO w0)(E:∀q,H q→q<w0.heap.size)(r1:Rep0 w0 H x1 (.l 1 (W A0)))(r2:Rep0 w0 H x2 (.l 1 (W D0)))(g:aT 48 [rL s0 A0 D0] (.t [.s pl,.i .i64 (e 20)]))(z:R.length≤1000)(C:I.length≤1000)(A:M.length≤1000)
 (next:∀(m:Act) (w':World) (a f c:Value),mF false w0 b q0 lF q2 q3 q4 s0 s1 s3 s4 x1 x2 y1 y2 u v lv a f c R I (M++[((⟨pl.toArray⟩:ByteArray).size:Int),e 20]) m w'→cd.wp Tryz.prog Q0 m w'):(Code.seq (q1 (qd 20 (qf Tryz.f8))) (Code.seq (q1 (qd 21 (qf Tryz.f8))) cd)).wp Tryz.prog Q0 ac w:=by
 have S:=h.ps j
 have y:=h.o3 (.head _) E r1 r2
 refine wp_seq (wp_region_lit ?_)
 refine bQ S (dC (iG rfl y rfl)) fun _ _ _ S=>?_
 refine aj S (ok_ps g) fun _ _ _ S=>?_
 iterate 5 refine bQ S uI fun _ _ _ S=>?_
 refine h_ (wp_seq (wp_region_lit ?_))
 refine bQ S uI fun _ _ _ S=>?_
 refine aj S (Z4 rfl kf) fun _ _ _ S=>?_
 refine bQ S uI fun _ _ _ S=>?_
 exact h.plain j S z C A rfl rfl rfl tv next
theorem wan_22(h:mF false w0 b q0 lF q2 q3 q4 s0 s1 s3 s4 x1 x2 y1 y2 u v lv vr vi vm R I M ac w)(j:TO w0)(E:∀q,H q→q<w0.heap.size)(r1:Rep0 w0 H x1 (.l 1 (W A0)))(r2:Rep0 w0 H x2 (.l 1 (W D0)))(g:aT 49 [rL s0 A0 D0] (.i .i64 (e 22)))(z:R.length≤1000)(C:I.length≤1000)(A:M.length≤1000)
 (next:∀(m:Act) (w':World) (a f c:Value),mF false w0 b q0 lF q2 q3 q4 s0 s1 s3 s4 x1 x2 y1 y2 u v lv a f c R I (M++[0,e 22]) m w'→Q0 .normal m w'):(q1 (qd 22 (qf Tryz.f8))).wp Tryz.prog Q0 ac w:=by
 have S:=h.ps j
 have y:=h.o3 (.head _) E r1 r2
 refine wp_region_lit ?_
 refine bQ S (dC (iG rfl y rfl)) fun _ _ _ S=>?_
 refine aj S (pf (d:= .k (.int .i64 (e 22))) g) fun _ _ _ S=>?_
 exact h.plain j S z C A rfl rfl rfl tv next
end
variable {w:World} {H:Nat→Prop} {s0 s1 s3 s4:Bool} {x1 x2 y1 y2 u v lv:Value} {A0 D0 A1 D1 A3 A4:List Nat} {l:List (Bool×List Nat×List Nat)} {t:Nat→Bool} {P Q:Nat→List Nat} {e n:Nat→Int} {pl:List UInt8}
theorem QX(a:Jw w)(c:∀q,H q→q<w.heap.size)(r1:Rep0 w H x1 (.l 1 (W A0)))(r2:Rep0 w H x2 (.l 1 (W D0)))(j:Rep0 w H y1 (.l 1 (W A1)))(f:Rep0 w H y2 (.l 1 (W D1)))(m:Rep0 w H u (.l 1 (W A3)))(O:Rep0 w H v (.l 1 (W A4)))(rl:Rep0 w H lv (.l 3 (RC l)))
 (f2:G3 28 [rL s0 A0 D0] (t 2) (P 2) (Q 2) (e 2))
 (f3:G3 29 [zL s3 A3,zL s4 A4] (t 3) (P 3) (Q 3) (e 3))
 (f4:G3 30 [zL s3 A3,.i .i64 (-3)] (t 4) (P 4) (Q 4) (e 4))
 (f5:G3 31 [rL s0 A0 D0,rL s1 A1 D1] (t 5) (P 5) (Q 5) (e 5))
 (f6:G3 32 [rL s0 A0 D0,rL s1 A1 D1] (t 6) (P 6) (Q 6) (e 6))
 (f7:G3 33 [rL s0 A0 D0,rL s1 A1 D1] (t 7) (P 7) (Q 7) (e 7))
 (f8:G3 34 [rL s0 A0 D0,rL s1 A1 D1] (t 8) (P 8) (Q 8) (e 8))
 (f9:G3 35 [rL s0 A0 D0] (t 9) (P 9) (Q 9) (e 9))
 (N:G3 36 [rL s0 A0 D0,.i .i64 2] (t 10) (P 10) (Q 10) (e 10))
 (M:aT 37 [.l 3 (RC l)] (.t [rL (t 11) (P 11) (Q 11),.i .i64 (e 11)]))
 (L:G3 38 [rL s0 A0 D0,rL s1 A1 D1] (t 12) (P 12) (Q 12) (e 12))
 (J:G3 39 [rL s0 A0 D0,rL s1 A1 D1] (t 13) (P 13) (Q 13) (e 13))
 (I:G2 41 [rL s0 A0 D0,.i .i64 1] (t 14) (P 14) (e 14))
 (G:G2 42 [rL s0 A0 D0,.i .i64 0] (t 15) (P 15) (e 15))
 (F:aT 44 [rL s0 A0 D0,rL s1 A1 D1] (.t [.i .i64 (n 16),.i .i64 (e 16)]))
 (E:aT 45 [rL s0 A0 D0] (.t [.i .i64 (n 17),.i .i64 (e 17)]))
 (C:aT 46 [rL s0 A0 D0] (.t [.i .i64 (n 18),.i .i64 (e 18)]))
 (A:aT 47 [rL s0 A0 D0] (.t [.i .i64 (n 19),.i .i64 (e 19)]))
 (z:aT 48 [rL s0 A0 D0] (.t [.s pl,.i .i64 (e 20)]))
 (y:aT 49 [rL s0 A0 D0] (.i .i64 (e 22))):
 Calls Tryz.prog 8 #[.agg #[.bool s0,x1,x2],.agg #[.bool s1,y1,y2],.agg #[.bool s3,u],.agg #[.bool s4,v],lv] w (AR false w (RKd t P Q) (IKd t P) (Md e n pl)):=by
 obtain⟨_,_,_,rfl⟩:=gV r1
 obtain⟨_,_,_,rfl⟩:=gV r2
 obtain⟨_,_,_,rfl⟩:=gV j
 obtain⟨_,_,_,rfl⟩:=gV f
 obtain⟨_,_,_,rfl⟩:=gV m
 obtain⟨_,_,_,rfl⟩:=gV O
 refine IP (ds:=[.g [.k (.bool s0),.k (.slice _ _ _),.k (.slice _ _ _)],.g [.k (.bool s1),.k (.slice _ _ _),.k (.slice _ _ _)],.g [.k (.bool s3),.k (.slice _ _ _)],.g [.k (.bool s4),.k (.slice _ _ _)],.k lv]) (vs:=[.agg #[.bool s0,.slice _ _ _,.slice _ _ _],.agg #[.bool s1,.slice _ _ _,.slice _ _ _],.agg #[.bool s3,.slice _ _ _],.agg #[.bool s4,.slice _ _ _],lv]) (code:=qf Tryz.f8) a ⟨⟨_,rfl,rfl,rfl,rfl,trivial⟩,⟨_,rfl,rfl,rfl,rfl,trivial⟩,⟨_,rfl,rfl,rfl,trivial⟩,⟨_,rfl,rfl,rfl,trivial⟩,rfl,trivial⟩ Tryz.func8 rfl rfl fun ac S=>?_
 refine ET ?_
 iterate 4 refine bQ S uI fun _ _ _ S=>?_
 refine bQ S (dC ZZ) fun _ _ _ S=>?_
 refine h_ (ET ?_)
 refine bQ S (dC ZZ) fun _ _ _ S=>?_
 refine h_ ?_
 obtain⟨q0,q1,q2,q3,q4,b,U,h⟩:=as_0 false (c0:=[.bool s0,.slice _ _ _,.slice _ _ _]) (c1:=[.bool s1,.slice _ _ _,.slice _ _ _]) (c2:=[.bool s3,.slice _ _ _]) (c3:=[.bool s4,.slice _ _ _]) S rfl rfl rfl rfl rfl rfl rfl rfl rfl rfl rfl rfl rfl
 clear S
 refine wp_seq (wan_2 h a c r1 r2 f2 sy sy sy rfl fun _ _ _ _ _ _ _ h=>?_)
 refine wp_seq (wan_3 h a c m O f3 sy sy sy rfl fun _ _ _ _ _ _ _ h=>?_)
 refine wp_seq (wan_4 h a c m f4 sy sy sy rfl fun _ _ _ _ _ _ _ h=>?_)
 refine wp_seq (wan_5 h a c r1 r2 j f f5 sy sy sy rfl fun _ _ _ _ _ _ _ h=>?_)
 refine wp_seq (wan_6 h a c r1 r2 j f f6 sy sy sy rfl fun _ _ _ _ _ _ _ h=>?_)
 refine wp_seq (wan_7 h a c r1 r2 j f f7 sy sy sy rfl fun _ _ _ _ _ _ _ h=>?_)
 refine wp_seq (wan_8 h a c r1 r2 j f f8 sy sy sy rfl fun _ _ _ _ _ _ _ h=>?_)
 refine wp_seq (wan_9 h a c r1 r2 f9 sy sy sy rfl fun _ _ _ _ _ _ _ h=>?_)
 refine wp_seq (wan_10 h a c r1 r2 N sy sy sy rfl fun _ _ _ _ _ _ _ h=>?_)
 refine wp_seq (wan_11 h a c rl M sy sy sy rfl fun _ _ _ _ _ _ _ h=>?_)
 refine wp_seq (wan_12 h a c r1 r2 j f L sy sy sy rfl fun _ _ _ _ _ _ _ h=>?_)
 refine wp_seq (wan_13 h a c r1 r2 j f J sy sy sy rfl fun _ _ _ _ _ _ _ h=>?_)
 refine wp_seq (wan_14 h a c r1 r2 I sy sy sy fun _ _ _ _ _ _ h=>?_)
 refine wp_seq (wan_15 h a c r1 r2 G sy sy sy fun _ _ _ _ _ _ h=>?_)
 refine wp_seq (wan_16 h a c r1 r2 j f F sy sy sy fun _ _ _ _ _ h=>?_)
 refine wp_seq (wan_17 h a c r1 r2 E sy sy sy fun _ _ _ _ _ h=>?_)
 refine wp_seq (wan_18 h a c r1 r2 C sy sy sy fun _ _ _ _ _ h=>?_)
 refine wp_seq (wan_19 h a c r1 r2 A sy sy sy fun _ _ _ _ _ h=>?_)
 refine wan_20 h a c r1 r2 z sy sy sy fun _ _ _ _ _ h=>?_
 refine wp_seq (wan_22 h a c r1 r2 y sy sy sy fun _ _ _ _ _ h=>?_)
 refine ET ?_
 refine Z5 (fn:=Tryz.f8) h (dP (i:=5) rfl) (dP (i:=6) rfl) (dP (i:=4) rfl) rfl rfl U (RK:=RKd t P Q) (IK:=IKd t P) (by simp only[uQ,tZ];rfl) (by simp only[uQ,tZ];rfl) fun a' w' Z Y T=>?_
 simp only[uQ,tZ]at T
 exact wp_ret ⟨Z,_,Y,T⟩
end
section
open Go Go.RowKit Go.Proofs Ab
theorem both(s0 s1 s3 s4:Bool){A0 D0 A1 D1 A3 A4:List Nat}{l:List (Bool×List Nat×List Nat)}(f:Wd A0)(a:Wd D0)(m:Wd A1)(j:Wd D1)(A:Wd A3)(F:Wd A4)(g:A0.length≤12)(c:D0.length≤12)(z:A1.length≤12)(y:D1.length≤12)(C:A3.length≤12)(la4:A4.length≤12)(ll:l.length≤30)(hL:LOk l):
 ∃(RK:List (Bool×List Nat×List Nat)) (IK:List (Bool×List Nat)) (M:List Int),RK.length=12∧IK.length=2∧M.length=26∧(∀p,p∈RK→p.2.1.length≤1000000∧p.2.2.length≤1000000)∧(∀p,p∈IK→p.2.length≤1000000)∧
 (∀(w:World) (H:Nat→Prop) (x1 x2 y1 y2 u v lv:Value),Jw w→(∀q,H q→q<w.heap.size)→Rep0 w H x1 (.l 1 (W A0))→Rep0 w H x2 (.l 1 (W D0))→Rep0 w H y1 (.l 1 (W A1))→Rep0 w H y2 (.l 1 (W D1))→Rep0 w H u (.l 1 (W A3))→Rep0 w H v (.l 1 (W A4))→Rep0 w H lv (.l 3 (RC l))→Calls Tryz.prog 9 #[.agg #[.bool s0,x1,x2],.agg #[.bool s1,y1,y2],.agg #[.bool s3,u],.agg #[.bool s4,v],lv] w (AR true w RK IK M))∧
 (∀(w:World) (H:Nat→Prop) (x1 x2 y1 y2 u v lv:Value),Jw w→(∀q,H q→q<w.heap.size)→Rep0 w H x1 (.l 1 (W A0))→Rep0 w H x2 (.l 1 (W D0))→Rep0 w H y1 (.l 1 (W A1))→Rep0 w H y2 (.l 1 (W D1))→Rep0 w H u (.l 1 (W A3))→Rep0 w H v (.l 1 (W A4))→Rep0 w H lv (.l 3 (RC l))→Calls Tryz.prog 8 #[.agg #[.bool s0,x1,x2],.agg #[.bool s1,y1,y2],.agg #[.bool s3,u],.agg #[.bool s4,v],lv] w (AR false w RK IK M)):=by
 obtain⟨t2,P2,Q2,e2,l2,a2,b2⟩:=j_norm (s:=s0) f a g c
 obtain⟨t3,P3,Q3,e3,l3,a3,b3⟩:=j_make (s:=s3) (t:=s4) A F C la4
 obtain⟨t4,P4,Q4,e4,l4,a4,b4⟩:=j_dy (s:=s3) A C
 obtain⟨t5,P5,Q5,e5,l5,a5,b5⟩:=j_add (s:=s0) (t:=s1) f m a j g z c y
 obtain⟨t6,P6,Q6,e6,l6,a6,b6⟩:=j_sub (s:=s0) (t:=s1) f m a j g z c y
 obtain⟨t7,P7,Q7,e7,l7,a7,b7⟩:=j_mul (s:=s0) (t:=s1) f m a j g z c y
 obtain⟨t8,P8,Q8,e8,l8,a8,b8⟩:=j_quo (s:=s0) (t:=s1) f m a j g z c y
 obtain⟨t9,P9,Q9,e9,l9,a9,b9⟩:=j_neg (s:=s0) f a g c
 obtain⟨O,P10,Q10,e10,l10,a10,b10⟩:=j_pow (s:=s0) f a g c
 obtain⟨N,P11,Q11,e11,l11,a11,b11⟩:=j_sum ll hL
 obtain⟨L,P12,Q12,e12,l12,a12,b12⟩:=j_mid (s:=s0) (t:=s1) f m a j g z c y
 obtain⟨J,P13,Q13,e13,l13,a13,b13⟩:=j_simp (s:=s0) (t:=s1) f m a j g z c y
 obtain⟨I,P14,e14,l14,a14,b14⟩:=j_floor (s:=s0) f a g c
 obtain⟨G,P15,e15,l15,a15,b15⟩:=j_ceil (s:=s0) f a g c
 obtain⟨n16,e16,a16,b16⟩:=j_cmp (s:=s0) (t:=s1) f m a j g z c y
 obtain⟨n17,e17,a17,b17⟩:=j_sign (s:=s0) f a g c
 obtain⟨n18,e18,a18,b18⟩:=j_level (s:=s0) f a g c
 obtain⟨n19,e19,a19,b19⟩:=j_finer (s:=s0) f a g c
 obtain⟨pl,e20,a20,b20⟩:=j_print (s:=s0) f a g c
 obtain⟨e22,a22,b22⟩:=j_check (s:=s0) a c
 let t:Nat→Bool:=(fun i=>match i with|2=>t2|3=>t3|4=>t4|5=>t5|6=>t6|7=>t7|8=>t8|9=>t9|10=>O|11=>N|12=>L|13=>J|14=>I|15=>G|_=>true)
 let P:Nat→List Nat:=(fun i=>match i with|2=>P2|3=>P3|4=>P4|5=>P5|6=>P6|7=>P7|8=>P8|9=>P9|10=>P10|11=>P11|12=>P12|13=>P13|14=>P14|15=>P15|_=>[])
 let Q:Nat→List Nat:=(fun i=>match i with|2=>Q2|3=>Q3|4=>Q4|5=>Q5|6=>Q6|7=>Q7|8=>Q8|9=>Q9|10=>Q10|11=>Q11|12=>Q12|13=>Q13|_=>[])
 let e:Nat→Int:=(fun i=>match i with|2=>e2|3=>e3|4=>e4|5=>e5|6=>e6|7=>e7|8=>e8|9=>e9|10=>e10|11=>e11|12=>e12|13=>e13|14=>e14|15=>e15|16=>e16|17=>e17|18=>e18|19=>e19|20=>e20|22=>e22|_=>0)
 let n:Nat→Int:=(fun i=>match i with|16=>n16|17=>n17|18=>n18|19=>n19|_=>0)
 refine⟨RKd t P Q,IKd t P,Md e n pl,rfl,rfl,rfl,fun p E=>?_,fun p E=>?_,fun w H x1 x2 y1 y2 u v lv hj hH r1 r2 Z Y U T rl=>VQ (t:=t) (P:=P) (Q:=Q) (e:=e) (n:=n) (pl:=pl) hj hH r1 r2 Z Y U T rl a2 a3 a4 a5 a6 a7 a8 a9 a10 a11 a12 a13 a14 a15 a16 a17 a18 a19 a20 a22,
  fun w H x1 x2 y1 y2 u v lv hj hH r1 r2 Z Y U T rl=>QX (t:=t) (P:=P) (Q:=Q) (e:=e) (n:=n) (pl:=pl) hj hH r1 r2 Z Y U T rl b2 b3 b4 b5 b6 b7 b8 b9 b10 b11 b12 b13 b14 b15 b16 b17 b18 b19 b20 b22⟩
 ·simp only[RKd,dZ,og,or_false]at E;rcases E with rfl|rfl|rfl|rfl|rfl|rfl|rfl|rfl|rfl|rfl|rfl|rfl
  ·exact l2
  ·exact l3
  ·exact l4
  ·exact l5
  ·exact l6
  ·exact l7
  ·exact l8
  ·exact l9
  ·exact l10
  ·exact l11
  ·exact l12
  ·exact l13
 ·simp only[IKd,dZ,og,or_false]at E;rcases E with rfl|rfl
  ·exact l14
  ·exact l15
end
section
open Go Go.RowKit Ab
def rJ:=an @aQ<|an @fK<|an @aW<|an @aO<|an @aI<|an @fZ<|an @mJ<|an @dR<|an @iL<|an @wi<|an @lu<|an @gG @di
def IC:List (Bool×List Nat)→List V
 |[]=>[]
 |p::r=> .b p.1:: .l 1 (W p.2)::IC r
theorem Z7:∀l,(IC l).length=l.length*2
 |[]=>rfl
 |p::r=>by simp only[IC,dX,Z7 r];omega
theorem Z8:∀(l:List (Bool×List Nat)) (i:Nat),i<l.length→((IC l).drop (i*2)).take 2=[.b (l.getD i (false,[])).1,.l 1 (W (l.getD i (false,[])).2)]
 |[],i,h=>by simp at h
 |p::r,0,h=>rfl
 |p::r,i+1,h=>by
  have:=Z8 r i (by simpa using h);rw[show(i+1)*2=(i*2+1)+1 from om];exact this
def MC(l:List Int):List V:=l.map fun n=> .i .i64 n
theorem MC_len(l:List Int):(MC l).length=l.length:=iJ ..
theorem MC_get(l:List Int)(i:Nat)(h:i<l.length):(MC l).getD i .un= .i .i64 (l.getD i 0):=by
 unfold MC;rw[dN,dN,iU,bC h];rfl
def SV(R:List (Bool×List Nat×List Nat))(I:List (Bool×List Nat))(M:List Int):V:= .g [.l 3 (RC R),.l 2 (IC I),.l 1 (MC M)]
theorem QY(R:List (Bool×List Nat×List Nat))(I:List (Bool×List Nat))(M:List Int)(G:R.length≤1000)(J:I.length≤1000)(H:M.length≤1000)(E:∀p,p∈R→p.2.1.length≤1000000000∧p.2.2.length≤1000000000)(F:∀p,p∈I→p.2.length≤1000000000):
 aT 10 [SV R I M,SV R I M] (.b true):=by
 have g:=qh R
 have zI:=Z7 I
 have a:=MC_len M
 have j:R.length*3/3=R.length:=om
 have m:I.length*2/2=I.length:=om
 unfold SV
 refine f_ aN a_ Tryz.func10 ?_
 repeat first
  |(refine hK _ ?_;clear hK K)
  |((first|refine ay (fun K hK=>?_)|refine ax (fun K hK=>?_)|refine ak (fun K hK=>?_));simp(disch:=(first|omega|assumption)) only[S1,seval,-Int.reduceToNat,-List.reduceReplicate,aK.sb,aK.mut,aU,↓aJ,aV,aC,rJ,g,zI,a,j,m];refine hK _ ?_;clear hK K)
  |simp only[Sv,↓reduceIte,Nat.reduceEqDiff]
 refine aF [] Nat (fun i=>⟨[(2,.pt 0 0),(3,.pt 1 0),(5,.i .i64 (i:Int))],[(0,some ⟨41,3,[.l 3 (RC R),.l 2 (IC I),.l 1 (MC M)],true,true⟩),(1,some ⟨41,3,[.l 3 (RC R),.l 2 (IC I),.l 1 (MC M)],true,true⟩)],4⟩)
  (fun i=>i≤R.length) (fun i=>R.length-i) 0 (aG _) (by exact oL) (by
  exact lC) ?_
 intro i z C f c u
 by_cases h:(i:Int)<(R.length:Int)
 ·have row:=xA R i om;have y:=E _ (by rw[dN,bC om];exact uP _:R.getD i (false,[],[])∈R);have A:=Ia (R.getD i (false,[],[])).1 (R.getD i (false,[],[])).2.1 (R.getD i (false,[],[])).2.2 y.1 y.2;generalize R.getD i (false,[],[])=x at*
  refine pJ (ai @j<|ai @row<|ai @g<|ai @h @rJ) ?_;refine f _ (i+1) om om ?_;exact lC
 repeat first
  |(refine hK _ ?_;clear hK K)
  |((first|refine ay (fun K hK=>?_)|refine ax (fun K hK=>?_)|refine ak (fun K hK=>?_));simp(disch:=(first|omega|assumption)) only[S1,seval,-Int.reduceToNat,-List.reduceReplicate,aK.sb,aK.mut,aU,↓aJ,aV,aC,rJ,h,g,zI,a,j,m];refine hK _ ?_;clear hK K)
  |simp only[Sv,↓reduceIte,Nat.reduceEqDiff]
 refine c _ _ ?_
 clear c u f h z
 repeat first
  |(refine hK _ ?_;clear hK K)
  |((first|refine ay (fun K hK=>?_)|refine ax (fun K hK=>?_)|refine ak (fun K hK=>?_));simp(disch:=(first|omega|assumption)) only[S1,seval,-Int.reduceToNat,-List.reduceReplicate,aK.sb,aK.mut,aU,↓aJ,aV,aC,rJ,g,zI,a,j,m];refine hK _ ?_;clear hK K)
  |simp only[Sv,↓reduceIte,Nat.reduceEqDiff]
 refine aF [] Nat (fun i=>⟨[(2,.pt 0 0),(3,.pt 1 0),(6,.i .i64 (i:Int))],[(0,some ⟨41,3,[.l 3 (RC R),.l 2 (IC I),.l 1 (MC M)],true,true⟩),(1,some ⟨41,3,[.l 3 (RC R),.l 2 (IC I),.l 1 (MC M)],true,true⟩)],4⟩)
  (fun i=>i≤I.length) (fun i=>I.length-i) 0 (aG _) (by exact oL) (by
  exact lC) ?_
 intro i z C f c u
 by_cases h:(i:Int)<(I.length:Int)
 ·have row:=Z8 I i om;have y:=F _ (by rw[dN,bC om];exact uP _:I.getD i (false,[])∈I);have A:=zy (I.getD i (false,[])).1 (I.getD i (false,[])).1 (I.getD i (false,[])).2 (I.getD i (false,[])).2 y y;rw[aV,cO rfl,Bool.and_self]at A;generalize I.getD i (false,[])=x at*
  repeat first|(refine hK _ ?_;clear hK K)|simp only[Sv,↓reduceIte,Nat.reduceEqDiff]|((first|refine ay (fun K hK=>?_)|refine ax (fun K hK=>?_)|refine ak (fun K hK=>?_)|refine fM ?_|refine dE (by assumption) ?_|refine fO ?_|(apply dF;assumption)|(apply dG;assumption));simp(disch:=(first|omega|assumption)) only[S1,seval,-Int.reduceToNat,-List.reduceReplicate,aK.sb,aK.mut,aU,↓aJ,aV,aC,rJ,h,zI,row,m])
  refine f _ (i+1) om om ?_;exact lC
 repeat first
  |(refine hK _ ?_;clear hK K)
  |((first|refine ay (fun K hK=>?_)|refine ax (fun K hK=>?_)|refine ak (fun K hK=>?_));simp(disch:=(first|omega|assumption)) only[S1,seval,-Int.reduceToNat,-List.reduceReplicate,aK.sb,aK.mut,aU,↓aJ,aV,aC,rJ,h,g,zI,a,j,m];refine hK _ ?_;clear hK K)
  |simp only[Sv,↓reduceIte,Nat.reduceEqDiff]
 refine c _ _ ?_
 clear c u f h z
 repeat first
  |(refine hK _ ?_;clear hK K)
  |((first|refine ay (fun K hK=>?_)|refine ax (fun K hK=>?_)|refine ak (fun K hK=>?_));simp(disch:=(first|omega|assumption)) only[S1,seval,-Int.reduceToNat,-List.reduceReplicate,aK.sb,aK.mut,aU,↓aJ,aV,aC,rJ,g,zI,a,j,m];refine hK _ ?_;clear hK K)
  |simp only[Sv,↓reduceIte,Nat.reduceEqDiff]
 refine aF [] Nat (fun i=>⟨[(2,.pt 0 0),(3,.pt 1 0),(7,.i .i64 (i:Int))],[(0,some ⟨41,3,[.l 3 (RC R),.l 2 (IC I),.l 1 (MC M)],true,true⟩),(1,some ⟨41,3,[.l 3 (RC R),.l 2 (IC I),.l 1 (MC M)],true,true⟩)],4⟩)
  (fun i=>i≤M.length) (fun i=>M.length-i) 0 (aG _) (by exact oL) (by
  exact lC) ?_
 intro i z C f c u
 by_cases h:(i:Int)<(M.length:Int)
 ·have row:=MC_get M i om;generalize M.getD i 0=x at*
  refine aX (ai @row<|ai @a<|ai @h @rJ) ?_;refine f _ (i+1) om om ?_;exact lC
 repeat first
  |(refine hK _ ?_;clear hK K)
  |((first|refine ay (fun K hK=>?_)|refine ax (fun K hK=>?_)|refine ak (fun K hK=>?_));simp(disch:=(first|omega|assumption)) only[S1,seval,-Int.reduceToNat,-List.reduceReplicate,aK.sb,aK.mut,aU,↓aJ,aV,aC,rJ,h,g,zI,a,j,m];refine hK _ ?_;clear hK K)
  |simp only[Sv,↓reduceIte,Nat.reduceEqDiff]
 refine c _ _ ?_
 clear c u f h z
 refine aX (ai @a @rJ) ?_
 exact U8 @rJ
end
section
open Go Go.RowKit Go.Proofs Ab
variable {a:Act}{w:World}{R:Exit→Act→World→Prop}
def Gr(w w':World)(v v':Value)(n m:Nat):Prop:=(∃g cap,v= .slice (some ⟨g,0,none⟩) n cap∧v'= .slice (some ⟨g,0,none⟩) (n+m) cap∧w.grownBy w' (some g))∨((∀q,v'.ownBlock=some q→w.heap.size≤q)∧w.grownBy w' none)
theorem wR{P:Program}(w:World){ops:Array Oper}{rest:List Oper}{o:Oper}{a:Act}{Q:Exit→Act→World→Prop}
 (H:o.guard=none) (s x:Operand) (t:TypeId) (f:o.op=Op.call {callee:=Callee.builtin Builtin.append,args:=#[s,x],argTypes:=#[t,t]})
 (e:TypeId) (i:TypeInfo) (z:Value) (bytes:Nat) (h1:P.underlying t=some (.slice e)) (h2:P.info? e=some i) (O:i.zero=some z) (L:i.size=1) (N:i.bytes=bytes) (M:z.cells.size=1)
 (v:Value) (n:Nat) (xs:List Value) (F:a.eval s=v) (hown:w.ownsRow 0 e 1 v n xs)
 (A:Addr) (m c:Nat) (news:List Value) (E:a.eval x= .slice (some A) m c) (G:news.length=m*1) (I:∀j u,news[j]? =some u→w.cell? (A.add j)=some u) (h1c:∀u∈news,u.oneCell'=true) (hm:0<m)
 (b1:n+m≤maxLen) (T:(n+m)*bytes≤140737488355328)
 (hK:∀v' w',w'.ownsRow 0 e 1 v' (n+m) (xs++news)→Gr w w' v v' n m→wpList P ops Q rest (a.put o.dst v') w'):
 wpList P ops Q (o::rest) a w:=by
 rcases hown.2 with ⟨rfl,rfl⟩|⟨g,cap,cur,rfl,hb,hh,Z,hcm,hcs,U⟩
 ·have C:xs=[]:=nz (by rw[hown.1]);subst C;exact wpList_append_grows w H s x t f e i z 1 bytes h1 h2 O L N M uf none 0 0 [] F (fun _=>⟨rfl,rfl⟩) rfl (fun b h=>by cases h) A m c news E G I h1c om b1 T
   fun v' w' y l=>hK v' w' (oK y (aG _)) (.inr ⟨fun q hq=>(y.lt q hq).1,l⟩)
 ·by_cases Y:n+m≤cap
  ·refine wpList_plain H fun K J=>?_
   obtain⟨w',hrun,r1,r2⟩:=run_append_fits (P:=P) w 0 t o.type e i 1 h1 h2 L g n cap xs hown A m c news G I h1c Y;unfold Oper.wp;simp[execOp,f,resolve,invoke,builtin,F,E,hrun,Result.andThen];exact J _ _ (hK _ w' r1 (.inl ⟨g,cap,rfl,rfl,r2⟩))
  ·exact wpList_append_grows w H s x t f e i z 1 bytes h1 h2 O L N M uf (some ⟨g,0,none⟩) n cap xs F (fun h=>by cases h) hown.1 (fun b h j u hj=>by cases h;exact hown.cells rfl j u hj) A m c news E G I h1c om b1 T
    fun v' w' y l=>hK v' w' (oK y (aG _)) (.inr ⟨fun q hq=>(y.lt q hq).1,l⟩)
theorem D8:(Tryz.prog.info? 49).map (fun i=>(i.zero,i.size,i.bytes))=some (some (.int .u64 0),1,8):=by kernel_rfl
theorem IV:(Tryz.prog.info? 23).map (fun i=>(i.zero,i.size,i.bytes))=some (some (.slice none 0 0),1,24):=by kernel_rfl
variable{w':World}{v' g:Value}{m q lc lq k c uc:Nat}{la ua:Option Addr}
theorem Bc{w0 wr w1:World}{E:Nat→Prop}{o:Option Nat}(h:bT w0 E wr)(hb:Below wr.heap.size wr w1)(c:w1.grownBy w' o)(j:∀q,o=some q→E q∨w0.heap.size≤q):bT w0 E w':=by
 have s0:=h.size;have s1:=hb.size;have s2:=c.size;refine⟨c.os.trans (hb.os.trans h.os),c.tape.trans (hb.tape.trans h.tape),c.output.trans (hb.output.trans h.output),om,fun x g a=>?_⟩;exact(c.block x om (fun e=>by rcases j x e.symm with f|f;exact a f;omega)).trans ((hb.block x om).trans (h.block x g a))
theorem Gr.bel{w:World}{v:Value}{n:Nat}(h:Gr w w' v v' n m):bT w (fun x=>v.ownBlock=some x) w':=by
 rcases h with ⟨q,cap,rfl,rfl,c⟩|⟨_,c⟩
 ·exact Bc (bT.refl _ _) (Below.refl _ _) c fun x a=> .inl a
 ·exact Bc (bT.refl _ _) (Below.refl _ _) c fun x a=>by cases a
theorem Gr.ob{w:World}{v:Value}{n:Nat}(h:Gr w w' v v' n m)(hq:v'.ownBlock=some q):v.ownBlock=some q∨w.heap.size≤q:=by
 rcases h with ⟨q,cap,rfl,rfl,a⟩|⟨h,_⟩
 ·exact .inl hq
 ·exact .inr (h _ hq)
def uB1(f:Func):Code:=ql (qb (q2 (q1 (qd 3 (qf f)))))
def uD1(f:Func):Code:=qb (q1 (q2 (uB1 f)))
def uC1(f:Func):Code:=ql (qb (q2 (q1 (q2 (uD1 f)))))
def uE1(f:Func):Code:=qb (q1 (q2 (uC1 f)))
def uB2(f:Func):Code:=ql (qb (q2 (q1 (qd 4 (qf f)))))
def uD2(f:Func):Code:=qb (q1 (q2 (uB2 f)))
def uC2(f:Func):Code:=ql (qb (q2 (q1 (q2 (uD2 f)))))
def uE2(f:Func):Code:=qb (q1 (q2 (uC2 f)))
def nx(c:Nat):Nat:=(c+1)%18446744073709551616
theorem TT(c:Nat):IntKind.u64.wrap ((c:Int)+1)=(nx c:Int):=by
 simp only[IntKind.wrap_u64,nx];omega
theorem u_c1{i:Nat}(hz:a.tmps.size=113)(h0:a.tmps.getD 0 undef= .slice la m lc)(u:a.tmps.getD 6 undef= .int .i64 (i:Int))
 (g:(i:Int)<(m:Int)→∀f:Act,f.tmps.size=113→(∀t,t<13→f.tmps.getD t undef=a.tmps.getD t undef)→f.defers=a.defers→R .normal f w) (kf:¬(i:Int)<(m:Int)→∀f:Act,f.tmps.size=113→(∀t,t<13→f.tmps.getD t undef=a.tmps.getD t undef)→f.defers=a.defers→R (.exit 0) f w):(q1 (uB1 Tryz.f11)).wp Tryz.prog R a w:=by
 have j:=pu (And.intro g kf)
 clear g kf
 by_cases hi:(i:Int)<(m:Int)
 ·refine wp_seq_k fun l c=>?_
  replace c:=pu c;refine rl fun gA=>?_
  go_wp2;refine c.down _ _ ?_;refine wp_cond_true (by rw[bU];dsimp only;rw[iQ (by simp[hz])]) ?_;go_wp2;exact j.down.1 hi _ gZ gN rfl
 ·refine wp_seq_k fun l c=>?_
  replace c:=pu c;refine rl fun gA=>?_
  go_wp2;refine c.down _ _ ?_;refine wp_cond_false (by rw[bU];dsimp only;rw[iQ (by simp[hz])]) ?_;go_wp2;exact j.down.2 om _ gZ gN rfl
theorem u_s1{i:Nat}(hz:a.tmps.size=113)(g:a.tmps.getD 6 undef= .int .i64 (i:Int))
 (f:i≤1000000)
 (kk:∀(c:Act),c.tmps.size=113→(∀t,t<13→t≠6→c.tmps.getD t undef=a.tmps.getD t undef)→c.tmps.getD 6 undef= .int .i64 ((i:Int)+1)→c.defers=a.defers→R .normal c w):(q2 (q2 (uB1 Tryz.f11))).wp Tryz.prog R a w:=rW1
theorem u_d1(hz:a.tmps.size=113)
 (kk:∀(c:Act),c.tmps.size=113→(∀t,t<13→t≠7→c.tmps.getD t undef=a.tmps.getD t undef)→c.tmps.getD 7 undef= .slice none 0 0→c.defers=a.defers→R .normal c w):(q1 (uD1 Tryz.f11)).wp Tryz.prog R a w:=rW1
theorem u_c11{i n cap:Nat}(hz:a.tmps.size=113)(h0:a.tmps.getD 0 undef= .slice (some ⟨lq,0,none⟩) m lc)(A:a.tmps.getD 6 undef= .int .i64 (i:Int))(z:a.tmps.getD 8 undef= .int .i64 (k:Int))(h1:(i:Int)<(m:Int))(hm:m≤1000000)(y:w.cell? ⟨lq,i,none⟩=some (.slice la n cap))(u:n≤1000000000000)
 (g:(k:Int)<(n:Int)→∀f:Act,f.tmps.size=113→(∀t,t<13→f.tmps.getD t undef=a.tmps.getD t undef)→f.defers=a.defers→R .normal f w) (kf:¬(k:Int)<(n:Int)→∀f:Act,f.tmps.size=113→(∀t,t<13→f.tmps.getD t undef=a.tmps.getD t undef)→f.defers=a.defers→R (.exit 2) f w):(q1 (uC1 Tryz.f11)).wp Tryz.prog R a w:=by
 have j:=pu (And.intro g kf)
 clear g kf
 by_cases hi:(k:Int)<(n:Int)
 ·refine wp_seq_k fun l c=>?_
  replace c:=pu c;refine rl fun gA=>?_
  go_wp2;refine c.down _ _ ?_;refine wp_cond_true (by rw[bU];dsimp only;rw[iQ (by simp[hz])]) ?_;go_wp2;exact j.down.1 hi _ gZ gN rfl
 ·refine wp_seq_k fun l c=>?_
  replace c:=pu c;refine rl fun gA=>?_
  go_wp2;refine c.down _ _ ?_;refine wp_cond_false (by rw[bU];dsimp only;rw[iQ (by simp[hz])]) ?_;go_wp2;exact j.down.2 om _ gZ gN rfl
theorem u_s11(hz:a.tmps.size=113)(g:a.tmps.getD 8 undef= .int .i64 (k:Int))
 (f:k≤1000000000000)
 (kk:∀(c:Act),c.tmps.size=113→(∀t,t<13→t≠8→c.tmps.getD t undef=a.tmps.getD t undef)→c.tmps.getD 8 undef= .int .i64 ((k:Int)+1)→c.defers=a.defers→R .normal c w):(q2 (q2 (uC1 Tryz.f11))).wp Tryz.prog R a w:=rW1
theorem u_e0(hz:a.tmps.size=113)(j:a.tmps.getD 5 undef= .int .u64 (c:Int))
 (kk:∀(f:Act),f.tmps.size=113→(∀t,t<13→t≠5→f.tmps.getD t undef=a.tmps.getD t undef)→f.tmps.getD 5 undef= .int .u64 (nx c:Int)→f.defers=a.defers→R .normal f w):(q1 (uE1 Tryz.f11)).wp Tryz.prog R a w:=by
 have g:=TT c
 replace kk:=pu kk
 refine rl fun gA=>?_
 go_wp2
 exact kk.down _ gZ gN gS rfl
theorem u_e1{i n cap:Nat}{x:Value}(hz:a.tmps.size=113)(h0:a.tmps.getD 0 undef= .slice (some ⟨lq,0,none⟩) m lc)(C:a.tmps.getD 6 undef= .int .i64 (i:Int))(A:a.tmps.getD 8 undef= .int .i64 (k:Int))(E:a.tmps.getD 5 undef= .int .u64 (c:Int))
 (u:(i:Int)<(m:Int)) (hm:m≤1000000) (z:w.cell? ⟨lq,i,none⟩=some (.slice (some ⟨q,0,none⟩) n cap)) (j:n≤1000000000000) (l:(k:Int)<(n:Int)) (g:w.cell? ⟨q,k,none⟩=some x) (y:w.frozen? ⟨q,k,none⟩=false)
 (kk:∀(f:Act),f.tmps.size=113→(∀t,t<13→f.tmps.getD t undef=a.tmps.getD t undef)→f.defers=a.defers→R .normal f (w.setCell ⟨q,k,none⟩ (.int .u64 (c:Int)))):(q1 (q2 (uE1 Tryz.f11))).wp Tryz.prog R a w:=by
 replace kk:=pu kk
 refine rl fun gA=>?_
 go_wp2
 exact kk.down _ gZ gN rfl
theorem u_e2{n:Nat}{xs:List Value}(hz:a.tmps.size=113)(J:a.tmps.getD 5 undef= .int .u64 (c:Int))(I:a.tmps.getD 7 undef=g)(m:w.ownsRow 0 49 1 g n xs)(hn:n≤2000000000)
 (kk:∀(f:Act) (w1 w':World) (g':Value),f.tmps.size=113→(∀t,t<13→t≠7→f.tmps.getD t undef=a.tmps.getD t undef)→f.tmps.getD 7 undef=g'→f.defers=a.defers→Below w.heap.size w w1→w'.ownsRow 0 49 1 g' (n+1) (xs++[.int .u64 (c:Int)])→Gr w1 w' g g' n 1→R .normal f w'):(q2 (q2 (uE1 Tryz.f11))).wp Tryz.prog R a w:=by
 obtain⟨F,C,A,z,y⟩:=info_parts D8
 replace m:=pu m
 replace kk:=pu kk
 have hmax:(n+1)*8≤140737488355328:=om
 refine rl fun gA=>?_
 go_wp2_with (first|(at_builtin;refine wR _ rfl (.tmp 37) (.tmp 39) 23 rfl 49 F (.int .u64 0) 8 Tryz.underlying23 C A z y rfl g n xs ?hs ?own ⟨w.heap.size,0,none⟩ 1 1 [.int .u64 (c:Int)] ?hx ?hn ?c3 ?c4 uf ?mx ?bys ?fin))
 case hs=>exact gS
 case own=>exact m.down.alloc _
 case hx=>exact gS
 case hn=>rfl
 case c3=>
  intro j u H;rw[Addr.add_lit,eY,cell_of_row _ _ j _ _ _ (heap_alloc_new w _)];simpa using H
 case c4=>
  intro u G;rw[l_.1 G];rfl
 case mx=>unfold maxLen;omega
 case bys=>exact hmax
 case fin=>
  intro v' w' l E;go_wp2;exact kk.down _ _ w' v' gZ gN gS rfl ((Below.refl _ _).alloc (aY _) _) l E
theorem u_r13{n un:Nat}{xs:List Value}(hz:a.tmps.size=113)(H:a.tmps.getD 7 undef= .slice ua un uc)(I:a.tmps.getD 3 undef=g)(l:w.ownsRow 0 23 1 g n xs)(hn:n≤2000000000)
 (kk:∀(c:Act) (w1 w':World) (g':Value),c.tmps.size=113→(∀t,t<13→t≠3→c.tmps.getD t undef=a.tmps.getD t undef)→c.tmps.getD 3 undef=g'→c.defers=a.defers→Below w.heap.size w w1→w'.ownsRow 0 23 1 g' (n+1) (xs++[.slice ua un uc])→Gr w1 w' g g' n 1→R .normal c w'):(q2 (q2 (uD1 Tryz.f11))).wp Tryz.prog R a w:=by
 obtain⟨E,A,z,y,m⟩:=info_parts IV
 replace l:=pu l
 replace kk:=pu kk
 have hmax:(n+1)*24≤140737488355328:=om
 refine rl fun gA=>?_
 go_wp2_with (first|(at_builtin;refine wR _ rfl (.tmp 41) (.tmp 43) 45 rfl 23 E (.slice none 0 0) 24 Tryz.underlying45 A z y m rfl g n xs ?hs ?own ⟨w.heap.size,0,none⟩ 1 1 [.slice ua un uc] ?hx ?hn ?c3 ?c4 uf ?mx ?bys ?fin))
 case hs=>exact gS
 case own=>exact l.down.alloc _
 case hx=>exact gS
 case hn=>rfl
 case c3=>
  intro j u G;rw[Addr.add_lit,eY,cell_of_row _ _ j _ _ _ (heap_alloc_new w _)];simpa using G
 case c4=>
  intro u F;rw[l_.1 F];rfl
 case mx=>unfold maxLen;omega
 case bys=>exact hmax
 case fin=>
  intro v' w' f C;go_wp2;exact kk.down _ _ w' v' gZ gN gS rfl ((Below.refl _ _).alloc (aY _) _) f C
theorem u_c2{i:Nat}(hz:a.tmps.size=113)(h0:a.tmps.getD 0 undef= .slice la m lc)(u:a.tmps.getD 9 undef= .int .i64 (i:Int))
 (g:(i:Int)<(m:Int)→∀f:Act,f.tmps.size=113→(∀t,t<13→f.tmps.getD t undef=a.tmps.getD t undef)→f.defers=a.defers→R .normal f w) (kf:¬(i:Int)<(m:Int)→∀f:Act,f.tmps.size=113→(∀t,t<13→f.tmps.getD t undef=a.tmps.getD t undef)→f.defers=a.defers→R (.exit 4) f w):(q1 (uB2 Tryz.f11)).wp Tryz.prog R a w:=by
 have j:=pu (And.intro g kf)
 clear g kf
 by_cases hi:(i:Int)<(m:Int)
 ·refine wp_seq_k fun l c=>?_
  replace c:=pu c;refine rl fun gA=>?_
  go_wp2;refine c.down _ _ ?_;refine wp_cond_true (by rw[bU];dsimp only;rw[iQ (by simp[hz])]) ?_;go_wp2;exact j.down.1 hi _ gZ gN rfl
 ·refine wp_seq_k fun l c=>?_
  replace c:=pu c;refine rl fun gA=>?_
  go_wp2;refine c.down _ _ ?_;refine wp_cond_false (by rw[bU];dsimp only;rw[iQ (by simp[hz])]) ?_;go_wp2;exact j.down.2 om _ gZ gN rfl
theorem u_s2{i:Nat}(hz:a.tmps.size=113)(g:a.tmps.getD 9 undef= .int .i64 (i:Int))
 (f:i≤1000000)
 (kk:∀(c:Act),c.tmps.size=113→(∀t,t<13→t≠9→c.tmps.getD t undef=a.tmps.getD t undef)→c.tmps.getD 9 undef= .int .i64 ((i:Int)+1)→c.defers=a.defers→R .normal c w):(q2 (q2 (uB2 Tryz.f11))).wp Tryz.prog R a w:=rW1
theorem u_d2{i n cap:Nat}(hz:a.tmps.size=113)(h0:a.tmps.getD 0 undef= .slice (some ⟨lq,0,none⟩) m lc)(l:a.tmps.getD 9 undef= .int .i64 (i:Int))
 (g:(i:Int)<(m:Int)) (hm:m≤1000000) (j:w.cell? ⟨lq,i,none⟩=some (.slice la n cap)) (f:n≤1000000000000)
 (kk:∀(c:Act),c.tmps.size=113→(∀t,t<13→t≠10→c.tmps.getD t undef=a.tmps.getD t undef)→c.tmps.getD 10 undef= .slice la n cap→c.defers=a.defers→R .normal c w):(q1 (uD2 Tryz.f11)).wp Tryz.prog R a w:=rW1
theorem u_c22(hz:a.tmps.size=113)(l:a.tmps.getD 11 undef= .int .i64 (k:Int))
 (g:(k:Int)<(16:Int)→∀f:Act,f.tmps.size=113→(∀t,t<13→f.tmps.getD t undef=a.tmps.getD t undef)→f.defers=a.defers→R .normal f w) (kf:¬(k:Int)<(16:Int)→∀f:Act,f.tmps.size=113→(∀t,t<13→f.tmps.getD t undef=a.tmps.getD t undef)→f.defers=a.defers→R (.exit 6) f w):(q1 (uC2 Tryz.f11)).wp Tryz.prog R a w:=by
 have j:=pu (And.intro g kf)
 clear g kf
 by_cases hi:(k:Int)<(16:Int)
 ·refine wp_seq_k fun m c=>?_
  replace c:=pu c;refine rl fun gA=>?_
  go_wp2;refine c.down _ _ ?_;refine wp_cond_true (by rw[bU];dsimp only;rw[iQ (by simp[hz])]) ?_;go_wp2;exact j.down.1 hi _ gZ gN rfl
 ·refine wp_seq_k fun m c=>?_
  replace c:=pu c;refine rl fun gA=>?_
  go_wp2;refine c.down _ _ ?_;refine wp_cond_false (by rw[bU];dsimp only;rw[iQ (by simp[hz])]) ?_;go_wp2;exact j.down.2 om _ gZ gN rfl
theorem u_s22(hz:a.tmps.size=113)(f:a.tmps.getD 11 undef= .int .i64 (k:Int))
 (g:k≤16)
 (kk:∀(c:Act),c.tmps.size=113→(∀t,t<13→t≠11→c.tmps.getD t undef=a.tmps.getD t undef)→c.tmps.getD 11 undef= .int .i64 ((k:Int)+1)→c.defers=a.defers→R .normal c w):(q2 (q2 (uC2 Tryz.f11))).wp Tryz.prog R a w:=rW1
theorem u_f0(hz:a.tmps.size=113)(j:a.tmps.getD 5 undef= .int .u64 (c:Int))
 (kk:∀(f:Act),f.tmps.size=113→(∀t,t<13→t≠5→f.tmps.getD t undef=a.tmps.getD t undef)→f.tmps.getD 5 undef= .int .u64 (nx c:Int)→f.defers=a.defers→R .normal f w):(q1 (uE2 Tryz.f11)).wp Tryz.prog R a w:=by
 have g:=TT c
 replace kk:=pu kk
 refine rl fun gA=>?_
 go_wp2
 exact kk.down _ gZ gN gS rfl
theorem u_f1{n:Nat}{xs:List Value}(hz:a.tmps.size=113)(J:a.tmps.getD 5 undef= .int .u64 (c:Int))(I:a.tmps.getD 10 undef=g)(m:w.ownsRow 0 49 1 g n xs)(hn:n≤2000000000)
 (kk:∀(f:Act) (w1 w':World) (g':Value),f.tmps.size=113→(∀t,t<13→t≠10→f.tmps.getD t undef=a.tmps.getD t undef)→f.tmps.getD 10 undef=g'→f.defers=a.defers→Below w.heap.size w w1→w'.ownsRow 0 49 1 g' (n+1) (xs++[.int .u64 (c:Int)])→Gr w1 w' g g' n 1→R .normal f w'):(q1 (q2 (uE2 Tryz.f11))).wp Tryz.prog R a w:=by
 obtain⟨F,C,A,z,y⟩:=info_parts D8
 replace m:=pu m
 replace kk:=pu kk
 have hmax:(n+1)*8≤140737488355328:=om
 refine rl fun gA=>?_
 go_wp2_with (first|(at_builtin;refine wR _ rfl (.tmp 61) (.tmp 63) 23 rfl 49 F (.int .u64 0) 8 Tryz.underlying23 C A z y rfl g n xs ?hs ?own ⟨w.heap.size,0,none⟩ 1 1 [.int .u64 (c:Int)] ?hx ?hn ?c3 ?c4 uf ?mx ?bys ?fin))
 case hs=>exact gS
 case own=>exact m.down.alloc _
 case hx=>exact gS
 case hn=>rfl
 case c3=>
  intro j u H;rw[Addr.add_lit,eY,cell_of_row _ _ j _ _ _ (heap_alloc_new w _)];simpa using H
 case c4=>
  intro u G;rw[l_.1 G];rfl
 case mx=>unfold maxLen;omega
 case bys=>exact hmax
 case fin=>
  intro v' w' l E;go_wp2;exact kk.down _ _ w' v' gZ gN gS rfl ((Below.refl _ _).alloc (aY _) _) l E
theorem u_r24{n un:Nat}{xs:List Value}(hz:a.tmps.size=113)(H:a.tmps.getD 10 undef= .slice ua un uc)(I:a.tmps.getD 4 undef=g)(l:w.ownsRow 0 23 1 g n xs)(hn:n≤2000000000)
 (kk:∀(c:Act) (w1 w':World) (g':Value),c.tmps.size=113→(∀t,t<13→t≠4→c.tmps.getD t undef=a.tmps.getD t undef)→c.tmps.getD 4 undef=g'→c.defers=a.defers→Below w.heap.size w w1→w'.ownsRow 0 23 1 g' (n+1) (xs++[.slice ua un uc])→Gr w1 w' g g' n 1→R .normal c w'):(q2 (q2 (uD2 Tryz.f11))).wp Tryz.prog R a w:=by
 obtain⟨E,A,z,y,m⟩:=info_parts IV
 replace l:=pu l
 replace kk:=pu kk
 have hmax:(n+1)*24≤140737488355328:=om
 refine rl fun gA=>?_
 go_wp2_with (first|(at_builtin;refine wR _ rfl (.tmp 75) (.tmp 77) 45 rfl 23 E (.slice none 0 0) 24 Tryz.underlying45 A z y m rfl g n xs ?hs ?own ⟨w.heap.size,0,none⟩ 1 1 [.slice ua un uc] ?hx ?hn ?c3 ?c4 uf ?mx ?bys ?fin))
 case hs=>exact gS
 case own=>exact l.down.alloc _
 case hx=>exact gS
 case hn=>rfl
 case c3=>
  intro j u G;rw[Addr.add_lit,eY,cell_of_row _ _ j _ _ _ (heap_alloc_new w _)];simpa using G
 case c4=>
  intro u F;rw[l_.1 F];rfl
 case mx=>unfold maxLen;omega
 case bys=>exact hmax
 case fin=>
  intro v' w' f C;go_wp2;exact kk.down _ _ w' v' gZ gN gS rfl ((Below.refl _ _).alloc (aY _) _) f C
theorem u_f2{n i g A:Nat}{u:Value}{xs Wl:List Value}(hz:a.tmps.size=113)(h3:a.tmps.getD 3 undef= .slice (some ⟨g,0,none⟩) m A)(h9:a.tmps.getD 9 undef= .int .i64 (i:Int))(h5:a.tmps.getD 5 undef= .int .u64 (c:Int))(hi:(i:Int)<(m:Int))(hm:m≤1000000)(z:w.ownsRow 0 23 1 (.slice (some ⟨g,0,none⟩) m A) m Wl)(C:Wl[i]? =some u)(G:w.ownsRow 0 49 1 u n xs)(hn:n≤2000000000)
 (kk:∀(H:Act) (w1 w':World) (u':Value),H.tmps.size=113→(∀t,t<13→H.tmps.getD t undef=a.tmps.getD t undef)→H.defers=a.defers→Below w.heap.size w w1→w'.ownsRow 0 49 1 u' (n+1) (xs++[.int .u64 (c:Int)])→Gr w1 w' u u' n 1→w'.ownsRow 0 23 1 (.slice (some ⟨g,0,none⟩) m A) m Wl→R .normal H (w'.setCell ⟨g,i,none⟩ u')):(q2 (q2 (uE2 Tryz.f11))).wp Tryz.prog R a w:=by
 obtain⟨U,P,O,N,M⟩:=info_parts D8
 have hmax:(n+1)*8≤140737488355328:=om
 have hcl:w.cell? ⟨g,i,none⟩=some u:=(z.cellAt i (by have:=z.1;omega)).trans C
 have E:∀q,(Value.slice (some ⟨g,0,none⟩) m A).ownBlock=some q→u.ownBlock≠some q:=fun q hq=>oO z G dc hq
 obtain⟨ua,uc,J⟩:=iE G
 have Y:=(z.lt g rfl).2
 have F:=pu (And.intro G (And.intro z E))
 have L:=pu C
 clear G z E C
 replace kk:=pu kk
 subst J
 refine rl fun gA=>?_
 go_wp2_with (first|(at_builtin;refine wR _ rfl (.tmp 70) (.tmp 72) 23 rfl 49 U (.int .u64 0) 8 Tryz.underlying23 P O N M rfl (.slice ua n uc) n xs ?hs ?own ⟨w.heap.size,0,none⟩ 1 1 [.int .u64 (c:Int)] ?hx ?hn ?c3 ?c4 uf ?mx ?bys ?fin))
 case hs=>exact gS
 case own=>exact F.down.1.alloc _
 case hx=>exact gS
 case hn=>rfl
 case c3=>
  intro j u Z;rw[Addr.add_lit,eY,cell_of_row _ _ j _ _ _ (heap_alloc_new w _)];simpa using Z
 case c4=>
  intro u C;rw[l_.1 C];rfl
 case mx=>unfold maxLen;omega
 case bys=>exact hmax
 case fin=>
  intro v' w' l y;have hb:Below w.heap.size w (w.alloc (.cells #[.int .u64 (c:Int)] 49)):=zZ _ _;have f:w'.ownsRow 0 23 1 (.slice (some ⟨g,0,none⟩) m A) m Wl:=bJ F.down.2.1 fun q hq=>(y.bel.block q (eu (F.down.2.1.lt q hq).2 hb.size) (F.down.2.2 q hq)).trans (hb.block q (F.down.2.1.lt q hq).2)
  have hc':w'.cell? ⟨g,i,none⟩=some (.slice ua n uc):=(f.cellAt i (by have:=f.1;omega)).trans L.down;have hf':=f.frozenAt i;obtain⟨va,T,I⟩:=iE l;have Q:=pu (And.intro l (And.intro y f));clear l y f;subst I;go_wp2;exact kk.down _ _ w' _ gZ gN rfl hb Q.down.1 Q.down.2.1 Q.down.2.2
end
section
open Go Go.RowKit Go.Proofs Ab
abbrev Rw(w:World)(v:Value)(A:List Nat):Prop:=w.ownsRow 0 49 1 v A.length (Wv A)
theorem wU(A:List Nat):(Wv A).length=A.length:=iJ ..
theorem EW(A M:List Nat):Wv (A++M)=Wv A++Wv M:=w_ ..
variable{A M:List Nat}{c e k:Nat}{wr w2:World}{E:Nat→Prop}
theorem FB{w:World}{b n:Nat}{v:Value}(h:w.ownsRow b 49 1 v n (Wv A)):Rw w v A:=by
 have a:=h.1;rw[wU,aO]at a;subst a;exact oK h (aG _)
theorem Q_{w:World}{n:Nat}{v:Value}(h:w.ownsRow 0 49 1 v (n+1) (Wv A++[.int .u64 (c:Int)])):Rw w v (A++[c]):=FB (n:=n+1) (by rw[EW];exact h)
theorem Z9{w:World}{a:Option Addr}{cap n:Nat}(h:w.ownsRow 0 49 1 (.slice a n cap) n (Wv (A++M))):Rw w (.slice a A.length cap) A:=by
 have hl:=h.1;rw[wU,bZ,aO]at hl;have C:A.length≤n:=om;have e:(Wv (A++M)).take A.length=Wv A:=by rw[EW,RI (by rw[wU];exact aY _),jB (by rw[wU];exact aY _)]
 rcases h.2 with ⟨c,F⟩|⟨g,f,cur,c,z,y,E,u,m,l⟩
 ·cases c;have:A.length=0:=om;have j:A=[]:=nz this;subst j;exact⟨by simp[Wv],.inl ⟨rfl,rfl⟩⟩
 ·cases c;exact⟨by rw[wU,aO],.inr ⟨g,cap,cur,rfl,z,y,om,u,m,by rw[←e,←l,List.take_take];congr 1;omega⟩⟩
theorem D9{w:World}{b sz n:Nat}{v:Value}{xs:List Value}(h:w.ownsRow b e sz v n xs)(a:0<n):∃g c,v= .slice (some ⟨g,0,none⟩) n c:=by
 rcases h.2 with ⟨_,rfl⟩|⟨g,cap,cur,rfl,_⟩
 ·omega
 ·exact⟨g,cap,rfl⟩
theorem ownB{w:World}{b c n:Nat}{v:Value}{xs:List Value}(h:w.ownsRow c e k v n xs)(hq:∀q,v.ownBlock=some q→b≤q):w.ownsRow b e k v n xs:=
 ⟨h.1,h.2.imp id fun⟨g,cap,cur,e1,f,a⟩=>⟨g,cap,cur,e1,hq g (by rw[e1];rfl),a⟩⟩
theorem Ab.bT.gr{w w1:World}{v v':Value}{n m:Nat}(h:bT w E wr)(hb:Below wr.heap.size wr w1)(a:Gr w1 w2 v v' n m)(f:∀q,v.ownBlock=some q→E q∨w.heap.size≤q):bT w E w2:=by
 rcases a with ⟨q,cap,rfl,rfl,a⟩|⟨_,a⟩
 ·exact Bc h hb a fun x c=>by cases c;exact f q rfl
 ·exact Bc h hb a fun x c=>by cases c
theorem Ab.bT.set{w:World}{q:Nat}{x:Value}(h:bT w E wr)(hq:E q∨w.heap.size≤q):bT w E (wr.setCell ⟨q,k,none⟩ x):=by
 refine⟨h.os,h.tape,h.output,?_,fun p c a=>?_⟩
 ·rw[show(wr.setCell ⟨q,k,none⟩ x).heap.size=wr.heap.size from by simp[World.setCell]];exact h.size
 ·refine(heap_setCell_other wr ⟨q,k,none⟩ p x (fun e=>?_)).trans (h.block p c a);have e:p=q:=e;subst e;exact hq.elim a fun h=>om
theorem Ab.bT.two{w:World}{c:Nat→Prop}(h:bT w E wr)(h2:bT wr c w2)(f:∀q,c q→E q∨w.heap.size≤q):bT w E w2:=
 ⟨h2.os.trans h.os,h2.tape.trans h.tape,h2.output.trans h.output,bK h.size h2.size,fun q hq a=>(h2.block q (eu hq h.size) fun g=>(f q g).elim a fun h=>om).trans (h.block q hq a)⟩
theorem Z_{n:Nat}(a:M.length=k)(f:A.length=n)(g:k<n):(Wv (M++A.drop k)).set k (.int .u64 (c:Int))=Wv ((M++[c])++A.drop (k+1)):=by
 rw[EW,nZ _ _ (by rw[wU,a];exact aY _),wU,a,gW,Dc om,EW,EW,nY];rfl
section
variable {a:Act} {w:World} {R:Exit→Act→World→Prop} {lq m lc i c:Nat} {v:Value} {A:List Nat}
theorem u_in1(hz:a.tmps.size=113)(h0:a.tmps.getD 0 undef= .slice (some ⟨lq,0,none⟩) m lc)(h5:a.tmps.getD 5 undef= .int .u64 (c:Int))(h6:a.tmps.getD 6 undef= .int .i64 (i:Int))(h7:a.tmps.getD 7 undef= .slice none 0 0)
 (hi:i<m) (hm:m≤1000000) (hc:w.cell? ⟨lq,i,none⟩=some v) (hl:lq<w.heap.size) (hnl:v.ownBlock≠some lq) (U:Rw w v A) (la:A.length≤1000000)
 (kk:∀(f:Act) (w':World) (j:Nat) (u:Value) (M:List Nat),f.tmps.size=113→(∀t,t<13→t≠5→t≠7→t≠8→f.tmps.getD t undef=a.tmps.getD t undef)→f.tmps.getD 5 undef= .int .u64 (j:Int)→f.tmps.getD 7 undef=u→f.defers=a.defers→bT w (fun q=>v.ownBlock=some q) w'→Rw w' v M→Rw w' u M→M.length=A.length→(∀q,u.ownBlock=some q→w.heap.size≤q)→R .normal f w'):(q1 (q2 (uD1 Tryz.f11))).wp Tryz.prog R a w:=by
 have hlt:∀q,v.ownBlock=some q→q<w.heap.size:=fun q hq=>(U.lt q hq).2
 obtain⟨va,Y,z⟩:=iE U
 refine wp_seq_k fun K0 l=>?_
 replace l:=pu l
 replace kk:=pu kk
 refine rl fun gA=>?_
 go_wp2
 refine l.down _ _ ?_
 clear l
 refine wp_block ?_
 refine oD (fun N f wr=>∃(k j:Nat) (u:Value) (M:List Nat),k+N=A.length∧f.tmps.size=113∧(∀t,t<13→t≠5→t≠7→t≠8→f.tmps.getD t undef=a.tmps.getD t undef)∧f.tmps.getD 8 undef= .int .i64 (k:Int)∧f.tmps.getD 5 undef= .int .u64 (j:Int)∧f.tmps.getD 7 undef=u∧f.defers=a.defers∧bT w (fun q=>v.ownBlock=some q) wr∧M.length=k∧Rw wr v (M++A.drop k)∧Rw wr u M∧∀q,u.ownBlock=some q→w.heap.size≤q) A.length ?_ ?_
 ·refine⟨0,c,.slice none 0 0,[],om,gZ,gN,(by dsimp only;rw[iQ (by simp[hz])];rfl),?_,?_,rfl,bT.refl _ _,rfl,by simpa using U,Gp _ _ _ _,fun q hq=>by cases hq⟩
  ·exact(show _=_ from by dsimp only;rw[dM dc];exact h5)
  ·exact(show _=_ from by dsimp only;rw[dM dc];exact h7)
 ·rintro N f wr ⟨k,j,u,M,hkN,hz',T,h8,L,J,hd,hbel,hM,hr,G,g⟩;have H:wr.cell? ⟨lq,i,none⟩=some (.slice va A.length Y):=by rw[←z];exact(lU (hbel.block lq hl hnl)).trans hc
  have e0:=(T 0 dc dc dc dc).trans h0;have e6:=(T 6 dc dc dc dc).trans h6;refine wp_seq ?_;refine u_c11 hz' e0 e6 h8 om hm H om (fun hlt1 a1 z1 s1 d1=>?_) (fun hge a1 z1 s1 d1=>?_)
  ·have hk:k<A.length:=om;obtain⟨q,cq,hq⟩:=D9 U (by omega:0<A.length);rw[hq]at z;cases z;subst hq;have hqw:=hlt q rfl;have hlen:(M++A.drop k).length=A.length:=by rw[bZ,uM];omega
   have C:wr.ownsRow 0 49 1 (.slice (some ⟨q,0,none⟩) A.length Y) A.length (Wv (M++A.drop k)):=by have:=hr;rw[Rw,hlen]at this;exact this
   have hcell:=C.cellAt k om;rw[bC (by rw[wU];omega)]at hcell;refine wp_seq ?_;refine wp_block ?_;refine wp_seq (u_e0 z1 ((s1 5 dc).trans L) fun a2 z2 s2 f5 d2=>?_);refine wp_seq (u_e1 z2 ((s2 0 dc dc).trans ((s1 0 dc).trans e0)) ((s2 6 dc dc).trans ((s1 6 dc).trans e6)) ((s2 8 dc dc).trans ((s1 8 dc).trans h8)) f5 om hm H om om hcell (C.frozenAt k) fun a3 z3 s3 d3=>?_);have E:=(C.stored k (.int .u64 (nx j:Int))).1;rw[Z_ hM rfl hk]at E;have I:bT w (fun q'=>(Value.slice (some ⟨q,0,none⟩) A.length Y).ownBlock=some q') (wr.setCell ⟨q,k,none⟩ (.int .u64 (nx j:Int))):=hbel.set (.inl rfl);have F:Rw (wr.setCell ⟨q,k,none⟩ (.int .u64 (nx j:Int))) u M:=bJ G fun p y=>heap_setCell_other wr ⟨q,k,none⟩ p _ fun e=>by have e:p=q:=e;have:=g p y;omega
   refine u_e2 z3 ((s3 5 dc).trans f5) ((s3 7 dc).trans ((s2 7 dc dc).trans ((s1 7 dc).trans J))) F om fun a4 w1 w4 u' z4 s4 f7 d4 hb ho4 hg=>?_
   have hsz:=I.size;have hqu:∀p,p<w.heap.size→u.ownBlock≠some p:=fun p y e=>by have:=g p e;omega
   refine u_s11 z4 ((s4 8 dc dc).trans ((s3 8 dc).trans ((s2 8 dc dc).trans ((s1 8 dc).trans h8)))) om fun a5 z5 Z f8 d5=>?_
   refine⟨A.length-(k+1),om,k+1,nx j,u',M++[nx j],om,z5,fun t ht Q P O=>(Z t ht O).trans ((s4 t ht P).trans ((s3 t ht).trans ((s2 t ht Q).trans ((s1 t ht).trans (T t ht Q P O))))),by rw[f8];rfl,(Z 5 dc dc).trans ((s4 5 dc dc).trans ((s3 5 dc).trans f5)),(Z 7 dc dc).trans f7,d5.trans (d4.trans (d3.trans (d2.trans (d1.trans hd)))),I.gr hb hg fun p y=> .inr (g p y),by simp[hM],?_,Q_ (n:=M.length) ho4,fun p y=>(hg.ob y).elim (g p) fun h=>by have:=hb.size;omega⟩;refine bJ (FB E) fun p y=>?_
   have hp':p=q:=by cases y;rfl
   subst hp';exact(hg.bel.block p (by have:=hb.size;omega) (hqu p hqw)).trans (hb.block p om)
  ·obtain rfl:k=A.length:=om;rw[List.drop_length,qF]at hr;exact kk.down _ _ j u M z1 (fun t ht Q P O=>(s1 t ht).trans (T t ht Q P O)) ((s1 5 dc).trans L) ((s1 7 dc).trans J) (d1.trans hd) hbel hr G hM g
end
end
section
open Go Go.RowKit Go.Proofs Ab
structure LX(w:World)(lq:Nat)(Lv:List Value):Prop where
 cl:∀j v,Lv[j]? =some v→w.cell? ⟨lq,j,none⟩=some v
 lt:lq<w.heap.size
 m:Lv.length≤1000
 nb:∀v,v∈Lv→v.ownBlock≠some lq
 lo:∀v q,v∈Lv→v.ownBlock=some q→q<w.heap.size
 ap:ZW Lv
def Eb(Lv:List Value)(q:Nat):Prop:=∃v,v∈Lv∧v.ownBlock=some q
variable{wr:World}{lq:Nat}{Lv:List Value}{u:Value}
theorem LX.up{w:World}(h:LX w lq Lv)(hb:bT w (Eb Lv) wr):∀j v,Lv[j]? =some v→wr.cell? ⟨lq,j,none⟩=some v:=fun j v c=>(lU (hb.block lq h.lt fun⟨v,a,hq⟩=>h.nb v a hq)).trans (h.cl j v c)
structure P1(w:World)(Lv:List Value)(i:Nat)(vW:Value)(Wl:List Value)(wr:World):Prop where
 bel:bT w (Eb Lv) wr
 ls:∀j v,Lv[j]? =some v→∃A,A.length≤1000000∧Rw wr v A∧(j<i→∃u,Wl[j]? =some u∧Rw wr u A)
 wo:wr.ownsRow w.heap.size 23 1 vW i Wl
 wn:∀u q,u∈Wl→u.ownBlock=some q→w.heap.size≤q
 ap:ZW Wl
theorem CO(h:ZW Lv){i j q:Nat}{v:Value}(a:i≠j)(f:Lv[i]? =some v)(c:Lv[j]? =some u)(hq:v.ownBlock=some q):u.ownBlock≠some q:=h i j v u q a f c hq
theorem P1.step{w w2 w3 l:World}{i:Nat}{Wl:List Value}{vW f v:Value}{A M:List Nat}(hx:LX w lq Lv)(h:P1 w Lv i vW Wl wr)(L:Lv[i]? =some v)(hA:A.length≤1000000)(b2:bT wr (fun q=>v.ownBlock=some q) w2)(rv:Rw w2 v M)(ru:Rw w2 u M)(hM:M.length=A.length)(Q:∀q,u.ownBlock=some q→wr.heap.size≤q)(Z:Below w2.heap.size w2 w3)(o4:l.ownsRow 0 23 1 f (i+1) (Wl++[u]))(Y:Gr w3 l vW f i 1):P1 w Lv (i+1) f (Wl++[u]) l:=by
 have s1:=h.bel.size;have s2:=b2.size;have s3:=Z.size;have H:=dP L;have g:∀q,v.ownBlock=some q→q<w.heap.size:=fun q hq=>hx.lo v q H hq
 have c:∀q,vW.ownBlock=some q→w.heap.size≤q∧q<wr.heap.size:=fun q hq=>h.wo.lt q hq
 have hWlen:Wl.length=i:=by have:=h.wo.1;omega
 have st:∀q,q<w2.heap.size→vW.ownBlock≠some q→l.heap[q]? =w2.heap[q]? :=fun q hq T=>(Y.bel.block q om T).trans (Z.block q hq)
 have E:∀q,q<wr.heap.size→vW.ownBlock≠some q→v.ownBlock≠some q→l.heap[q]? =wr.heap[q]? :=fun q hq T h2=>(st q om T).trans (b2.block q hq h2)
 have z:∀{x:Value} {C:List Nat},Rw wr x C→∀q,x.ownBlock=some q→vW.ownBlock≠some q:=fun hr q hq=>oO hr h.wo dc hq
 refine⟨(h.bel.two b2 fun q hq=> .inl ⟨v,H,hq⟩).gr Z Y fun q hq=> .inr (c q hq).1,fun j x m=>?_,ownB o4 fun q hq=>(Y.ob hq).elim (fun h'=>(c q h').1) fun h'=>om,fun x q a hq=>?_,LH h.ap (TS u) fun x y q a J hq=>?_⟩
 ·by_cases I:j=i
  ·subst I;rw[L]at m;cases m;have N:Rw l v M:=bJ rv fun q hq=>st q (by have:=g q hq;omega) fun e=>by have:=(c q e).1;have:=g q hq;omega
   refine⟨M,om,N,fun _=>⟨u,by rw[rY om,hWlen,gW];rfl,bJ ru fun q hq=>st q (ru.lt q hq).2 fun e=>?_⟩⟩;have:=Q q hq;have:=(c q e).2;omega
  ·obtain⟨C,hC,rx,U⟩:=h.ls j x m;have O:∀q,x.ownBlock=some q→q<wr.heap.size:=fun q hq=>(rx.lt q hq).2
   refine⟨C,hC,bJ rx fun q hq=>E q (O q hq) (z rx q hq) (CO hx.ap I m L hq),fun hlt=>?_⟩;obtain⟨y,J,F⟩:=U om;refine⟨y,by rw[uO om];exact J,bJ F fun q hq=>E q (F.lt q hq).2 (z F q hq) fun e=>?_⟩;have:=g q e;have:=h.wn y q (dP J) hq;omega
 ·rcases nC.1 a with a|a
  ·exact h.wn x q a hq
  ·rw[l_.1 a]at hq;have:=Q q hq;omega
 ·rw[l_.1 J];intro e;have h1:=Q q e;obtain⟨j,m,rfl⟩:=vU a;obtain⟨x,P⟩:∃x,Lv[j]? =some x:=⟨_,bC (by have:=(iR.1 L).1;omega)⟩;obtain⟨C,_,_,U⟩:=h.ls j x P;obtain⟨y,G,F⟩:=U om;rw[bC m]at G;cases G;have:=(F.lt q hq).2;omega
theorem u_lp1{a:Act}{w:World}{R:Exit→Act→World→Prop}{lc c:Nat}(hz:a.tmps.size=113)(h0:a.tmps.getD 0 undef= .slice (some ⟨lq,0,none⟩) Lv.length lc)(h3:a.tmps.getD 3 undef= .slice none 0 0)(h4:a.tmps.getD 4 undef= .slice none 0 0)(h5:a.tmps.getD 5 undef= .int .u64 (c:Int))
 (y:LX w lq Lv) (hl:∀v,v∈Lv→∃A,A.length≤1000000∧Rw w v A)
 (kk:∀(f:Act) (w':World) (I:Nat) (vW:Value) (Wl:List Value),f.tmps.size=113→f.tmps.getD 0 undef= .slice (some ⟨lq,0,none⟩) Lv.length lc→f.tmps.getD 3 undef=vW→f.tmps.getD 4 undef= .slice none 0 0→f.tmps.getD 5 undef= .int .u64 (I:Int)→f.defers=a.defers→P1 w Lv Lv.length vW Wl w'→R .normal f w'):(q1 (qd 3 (qf Tryz.f11))).wp Tryz.prog R a w:=by
 have hm:=y.m
 refine wp_seq_k fun K0 g=>?_
 replace g:=pu g
 replace kk:=pu kk
 refine rl fun gA=>?_
 go_wp2
 refine g.down _ _ ?_
 clear g
 refine wp_block ?_
 refine oD (fun N f wr=>∃(i I:Nat) (vW:Value) (Wl:List Value),i+N=Lv.length∧f.tmps.size=113∧f.tmps.getD 0 undef= .slice (some ⟨lq,0,none⟩) Lv.length lc∧f.tmps.getD 3 undef=vW∧f.tmps.getD 4 undef= .slice none 0 0∧f.tmps.getD 5 undef= .int .u64 (I:Int)∧f.tmps.getD 6 undef= .int .i64 (i:Int)∧f.defers=a.defers∧P1 w Lv i vW Wl wr) Lv.length ?_ ?_
 ·refine⟨0,c,.slice none 0 0,[],om,gZ,?_,?_,?_,?_,(by dsimp only;rw[iQ (by simp[hz])];rfl),rfl,⟨bT.refl _ _,fun j v hj=>?_,Gp _ _ _ _,fun u q h=>(by cases h),fun i j vi vj q _ h=>by simp at h⟩⟩
  ·dsimp only;rw[dM dc];exact h0
  ·dsimp only;rw[dM dc];exact h3
  ·dsimp only;rw[dM dc];exact h4
  ·dsimp only;rw[dM dc];exact h5
  ·obtain⟨A,h1,h2⟩:=hl v (dP hj);exact⟨A,h1,h2,fun h=>om⟩
 ·rintro N f wr ⟨i,I,vW,Wl,hiN,O,e0,e3,e4,e5,e6,hd,z⟩;refine wp_seq ?_;refine u_c1 O e0 e6 (fun Z a1 z1 s1 T=>?_) (fun hge a1 z1 s1 T=>?_)
  ·have hi:i<Lv.length:=om;have F:Lv[i]? =some Lv[i]:=bC hi;generalize Lv[i]=v at F;have E:=dP F;obtain⟨A,hA,rv,_⟩:=z.ls i v F;refine wp_seq ?_;refine wp_block ?_;refine wp_seq (u_d1 z1 fun a2 z2 s2 f7 d2=>?_);have Y:=(s2 0 dc dc).trans ((s1 0 dc).trans e0);have k3:=(s2 3 dc dc).trans ((s1 3 dc).trans e3);have k4:=(s2 4 dc dc).trans ((s1 4 dc).trans e4);have k5:=(s2 5 dc dc).trans ((s1 5 dc).trans e5);have U:=(s2 6 dc dc).trans ((s1 6 dc).trans e6);refine wp_seq ?_;refine u_in1 z2 Y k5 U f7 hi om (y.up z.bel i v F) (by have:=z.bel.size;have:=y.lt;omega) (y.nb v E) rv hA fun a3 w3 c3 u M z3 s3 f5 g7 d3 b3 r3 C hM P=>?_
   obtain⟨ua,uc,G⟩:=iE C;have j3:=(s3 3 dc dc dc dc).trans k3;have l:=z.wo;have Q:w3.ownsRow 0 23 1 vW i Wl:=oK (bJ l fun q hq=>b3.block q (l.lt q hq).2 fun e=>by have:=(l.lt q hq).1;have:=y.lo v q E e;omega) (aG _);refine u_r13 z3 (g7.trans G) j3 Q om fun a4 w1 w4 L z4 s4 f3 d4 hb H hg=>?_
   rw[←G]at H;refine u_s1 z4 ((s4 6 dc dc).trans ((s3 6 dc dc dc dc).trans U)) om fun a5 z5 J f6 d5=>?_
   exact⟨Lv.length-(i+1),om,i+1,c3,L,Wl++[u],om,z5,(J 0 dc dc).trans ((s4 0 dc dc).trans ((s3 0 dc dc dc dc).trans Y)),(J 3 dc dc).trans f3,(J 4 dc dc).trans ((s4 4 dc dc).trans ((s3 4 dc dc dc dc).trans k4)),(J 5 dc dc).trans ((s4 5 dc dc).trans f5),by rw[f6];rfl,d5.trans (d4.trans (d3.trans (d2.trans (T.trans hd)))),z.step y F hA b3 r3 C hM P hb H hg⟩
  ·obtain rfl:i=Lv.length:=om;exact kk.down _ _ I vW Wl z1 ((s1 0 dc).trans e0) ((s1 3 dc).trans e3) ((s1 4 dc).trans e4) ((s1 5 dc).trans e5) (T.trans hd) z
end
section
open Go Go.RowKit Go.Proofs Ab
def Rel(w0:World)(v g:Value)(n m:Nat):Prop:=(∃a cap,v= .slice a n cap∧g= .slice a m cap)∨∀q,g.ownBlock=some q→w0.heap.size≤q
variable{m c q:Nat}
theorem Rf{a:Option Addr}{n:Nat}(h:(Value.slice a n c).ownBlock=some q):(Value.slice a m c).ownBlock=some q:=by
 cases a with
 |none=>cases h
 |some a=>obtain⟨b,o,t⟩:=a;first|exact h|(cases t<;>first|exact h|cases h)|(cases o<;>cases t<;>first|exact h|cases h)
def E3(v u vW:Value)(q:Nat):Prop:=v.ownBlock=some q∨u.ownBlock=some q∨vW.ownBlock=some q
theorem Gr.new{w w':World}{v v':Value}{n m:Nat}(h:(∀q,v'.ownBlock=some q→w.heap.size≤q)∧w.grownBy w' none)(hq:q<w.heap.size):w'.heap[q]? =w.heap[q]? :=h.2.block q hq sy
structure I2(w:World)(v u vW:Value)(A:List Nat)(m i:Nat)(Wl:List Value)(g u':Value)(M M':List Nat)(wr:World):Prop where
 bel:bT w (E3 v u vW) wr
 rg:Rw wr g (A++M)
 ru:Rw wr u' (A++M')
 rv:Rw wr v A
 wo:wr.ownsRow 0 23 1 vW m (Wl.set i u')
 rel:Rel w v g A.length (A++M).length
 ub:∀q,u'.ownBlock=some q→u.ownBlock=some q∨w.heap.size≤q
 gu:∀q,g.ownBlock=some q→u'.ownBlock≠some q
section
variable {w wr w1 w2:World} {v u vW g g' u' u'':Value} {A M:List Nat} {m i c:Nat} {Wl:List Value}
theorem I2.sg(C:∀q,v.ownBlock=some q→q<w.heap.size)(h:I2 w v u vW A m i Wl g u' M M wr)(hb:Below wr.heap.size wr w1)(I:Rw w2 g' (A++M++[c]))(f:Gr w1 w2 g g' (A++M).length 1):I2 w v u vW A m i Wl g' u' (M++[c]) M w2:=by
 have s1:=h.bel.size;have s2:=hb.size;have F:∀q,g.ownBlock=some q→E3 v u vW q∨w.heap.size≤q:=fun q hq=>by
  rcases h.rel with ⟨a,cap,rfl,rfl⟩|h
  ·exact .inl (.inl (Rf hq))
  ·exact .inr (h q hq)
 have st:∀q,q<wr.heap.size→g.ownBlock≠some q→w2.heap[q]? =wr.heap[q]? :=fun q hq J=>(f.bel.block q om J).trans (hb.block q hq)
 have y:Rw w2 g' (A++(M++[c])):=by rw[←nY];exact I
 refine⟨h.bel.gr hb f F,y,bJ h.ru fun q hq=>st q (h.ru.lt q hq).2 fun e=>h.gu q e hq,?_,bJ h.wo fun q hq=>st q (h.wo.lt q hq).2 fun e=>oO h.wo h.rg dc hq e,?_,h.ub,fun q hq e=>?_⟩
 ·rcases f with ⟨q,cap,rfl,rfl,f⟩|f
  ·rcases h.rel with ⟨a,z,rfl,G⟩|E
   ·cases G;have e:(A++(M++[c])).length=(A++M).length+1:=by simp;omega
    have l:=y;rw[Rw,e]at l;exact Z9 (n:=(A++M).length+1) (M:=M++[c]) l
   ·exact bJ h.rv fun p j=>st p (by have:=C p j;omega) fun e=>by have:=E p e;have:=C p j;omega
  ·exact bJ h.rv fun p j=>(Gr.new (v:=v) (n:=0) (m:=0) f (by have:=C p j;omega)).trans (hb.block p (by have:=C p j;omega))
 ·rcases f with ⟨q,cap,rfl,rfl,f⟩|f
  ·rcases h.rel with ⟨a,z,rfl,G⟩|E
   ·cases G;refine .inl ⟨_,_,rfl,?_⟩;rw[show(A++(M++[c])).length=(A++M).length+1 from by simp;omega]
   ·exact .inr fun q hq=>E q hq
  ·exact .inr fun q hq=>by have:=f.1 q hq;omega
 ·rcases f.ob hq with H|H
  ·exact h.gu q H e
  ·have:=(h.ru.lt q e).2;omega
theorem I2.su{j I:Nat}{F f:World}(hvW:vW= .slice (some ⟨j,0,none⟩) m I)(O:i<m)(C:∀q,v.ownBlock=some q→u.ownBlock≠some q)(G:∀q,v.ownBlock=some q→q<w.heap.size)(h:I2 w v u vW A m i Wl g u' (M++[c]) M wr)(hb:Below wr.heap.size wr F)(J:Rw f u'' (A++M++[c]))(z:Gr F f u' u'' (A++M).length 1)(H:f.ownsRow 0 23 1 vW m (Wl.set i u')):I2 w v u vW A m i Wl g u'' (M++[c]) (M++[c]) (f.setCell ⟨j,i,none⟩ u''):=by
 have s1:=h.bel.size;have s2:=hb.size;have a:vW.ownBlock=some j:=by rw[hvW];rfl
 have st:∀q,q<wr.heap.size→u'.ownBlock≠some q→j≠q→(f.setCell ⟨j,i,none⟩ u'').heap[q]? =wr.heap[q]? :=fun q hq L N=>(heap_setCell_other f ⟨j,i,none⟩ q u'' (Ne.symm N)).trans ((z.bel.block q om L).trans (hb.block q hq))
 have y:Rw f u'' (A++(M++[c])):=by rw[←nY];exact J
 have E:∀q,u'.ownBlock=some q→E3 v u vW q∨w.heap.size≤q:=fun q hq=>(h.ub q hq).elim (fun h=> .inl (.inr (.inl h))) .inr
 refine⟨(h.bel.gr hb z E).set (.inl (.inr (.inr a))),bJ h.rg fun q hq=>st q (h.rg.lt q hq).2 (h.gu q hq) fun e=>oO h.wo h.rg dc (e▸a) hq,bJ y fun q hq=>heap_setCell_other f ⟨j,i,none⟩ q u'' fun e=>?_,bJ h.rv fun q hq=>st q (by have:=G q hq;omega) (fun e=>?_) fun e=>oO h.wo h.rv dc (e▸a) hq,?_,h.rel,fun q hq=>?_,fun q hq e=>?_⟩
 ·have e:q=j:=e;exact oO H y dc (e▸a) hq
 ·rcases h.ub q e with l|l
  ·exact C q hq l
  ·have:=G q hq;omega
 ·subst hvW;have:=(H.stored i u'').1;rwa[List.set_set]at this
 ·rcases z.ob hq with l|l
  ·exact h.ub q l
  ·exact .inr om
 ·rcases z.ob e with l|l
  ·exact h.gu q hq l
  ·have:=(h.rg.lt q hq).2;omega
end
theorem u_in2{a:Act}{w:World}{R:Exit→Act→World→Prop}{vq vc i:Nat}{v u vW:Value}{A:List Nat}{Wl:List Value}(hz:a.tmps.size=113)(h3:a.tmps.getD 3 undef=vW)(hvW:vW= .slice (some ⟨vq,0,none⟩) m vc)(h5:a.tmps.getD 5 undef= .int .u64 (c:Int))(h9:a.tmps.getD 9 undef= .int .i64 (i:Int))(h10:a.tmps.getD 10 undef=v)
 (hi:i<m) (hm:m≤1000000) (hW:w.ownsRow 0 23 1 vW m Wl) (hu:Wl[i]? =some u) (F:∀q,v.ownBlock=some q→u.ownBlock≠some q) (rv:Rw w v A) (ru:Rw w u A) (la:A.length≤1000000)
 (kk:∀(f:Act) (w':World) (E:Nat) (g u':Value) (M:List Nat),f.tmps.size=113→(∀t,t<13→t≠5→t≠10→t≠11→f.tmps.getD t undef=a.tmps.getD t undef)→f.tmps.getD 5 undef= .int .u64 (E:Int)→f.tmps.getD 10 undef=g→f.defers=a.defers→M.length=16→I2 w v u vW A m i Wl g u' M M w'→R .normal f w'):(q1 (q2 (uD2 Tryz.f11))).wp Tryz.prog R a w:=by
 have G:∀q,v.ownBlock=some q→q<w.heap.size:=fun q hq=>(rv.lt q hq).2
 refine wp_seq_k fun K0 l=>?_
 replace l:=pu l
 replace kk:=pu kk
 refine rl fun gA=>?_
 go_wp2
 refine l.down _ _ ?_
 clear l
 refine wp_block ?_
 refine oD (fun N f wr=>∃(k E:Nat) (g u':Value) (M:List Nat),k+N=16∧f.tmps.size=113∧(∀t,t<13→t≠5→t≠10→t≠11→f.tmps.getD t undef=a.tmps.getD t undef)∧f.tmps.getD 11 undef= .int .i64 (k:Int)∧f.tmps.getD 5 undef= .int .u64 (E:Int)∧f.tmps.getD 10 undef=g∧f.defers=a.defers∧M.length=k∧I2 w v u vW A m i Wl g u' M M wr) 16 ?_ ?_
 ·refine⟨0,c,v,u,[],om,gZ,gN,(by dsimp only;rw[iQ (by simp[hz])];rfl),?_,?_,rfl,rfl,bT.refl _ _,by simpa using rv,by simpa using ru,rv,?_,?_,fun q hq=> .inl hq,F⟩
  ·exact(show _=_ from by dsimp only;rw[dM dc];exact h5)
  ·exact(show _=_ from by dsimp only;rw[dM dc];exact h10)
  ·rw[show Wl.set i u=Wl from by
    refine List.ext_getElem? fun j=>?_
    rw[List.getElem?_set];split
    ·rename_i e;subst e;split
     ·exact hu.symm
     ·rename_i h;exact absurd (iR.1 hu).1 h
    ·rfl]
   exact hW
  ·obtain⟨x,y,e⟩:=iE rv;exact .inl ⟨x,y,e,by rw[qF];exact e⟩
 ·rintro N f wr ⟨k,E,g,u',M,hkN,Y,T,L,J,z,hd,hM,hI⟩;refine wp_seq ?_;refine u_c22 Y L (fun hlt1 a1 z1 s1 d1=>?_) (fun hge a1 z1 s1 d1=>?_)
  ·refine wp_seq ?_;refine wp_block ?_;have e3:a1.tmps.getD 3 undef= .slice (some ⟨vq,0,none⟩) m vc:=(s1 3 dc).trans ((T 3 dc dc dc dc).trans (h3.trans hvW));have e9:=(s1 9 dc).trans ((T 9 dc dc dc dc).trans h9);have e10:=(s1 10 dc).trans z;have hlen:(A++M).length≤1000016:=by rw[bZ];omega
   refine wp_seq (u_f0 z1 ((s1 5 dc).trans J) fun a2 z2 s2 f5 d2=>?_);refine wp_seq (u_f1 z2 f5 ((s2 10 dc dc).trans e10) hI.rg om fun a3 w1 w2 g' z3 s3 f10 d3 hb ho3 hg=>?_);have C:=hI.sg G hb (Q_ ho3) hg;have H:=C.wo;have Z:(Wl.set i u')[i]? =some u':=by rw[zB (by have:=(iR.1 hu).1;exact this)]
   rw[hvW]at H;refine u_f2 z3 ((s3 3 dc dc).trans ((s2 3 dc dc).trans e3)) ((s3 9 dc dc).trans ((s2 9 dc dc).trans e9)) ((s3 5 dc dc).trans f5) om hm H Z C.ru om fun a4 w3 w4 u'' z4 s4 d4 hb4 ho4 hg4 I=>?_
   rw[←hvW]at I;have hI3:=C.su hvW hi F G hb4 (Q_ ho4) hg4 I;refine u_s22 z4 ((s4 11 dc).trans ((s3 11 dc dc).trans ((s2 11 dc dc).trans ((s1 11 dc).trans L)))) om fun a5 z5 U f11 d5=>?_
   exact⟨16-(k+1),om,k+1,nx E,g',u'',M++[nx E],om,z5,fun t ht Q P O=>(U t ht O).trans ((s4 t ht).trans ((s3 t ht P).trans ((s2 t ht Q).trans ((s1 t ht).trans (T t ht Q P O))))),by rw[f11];rfl,(U 5 dc dc).trans ((s4 5 dc).trans ((s3 5 dc dc).trans f5)),(U 10 dc dc).trans ((s4 10 dc).trans f10),d5.trans (d4.trans (d3.trans (d2.trans (d1.trans hd)))),by simp[hM],hI3⟩
  ·obtain rfl:k=16:=om;exact kk.down _ _ E g u' M z1 (fun t ht Q P O=>(s1 t ht).trans (T t ht Q P O)) ((s1 5 dc).trans J) ((s1 10 dc).trans z) (d1.trans hd) hM hI
end
