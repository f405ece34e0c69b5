import Derived.Test.YtpopphdnlhihdaaGreatDoorCards
import Derived.Test.YtpopphdnlhihdaaGreatDoorTie
import Derived.Deep.DeepHandedRow
import Derived.Lib.LaidTab
import Derived.Test.YtpopphdnlhihdaaGreatDoorU25
set_option linter.all false
set_option maxHeartbeats 10000000
set_option maxRecDepth 2000000
namespace Go.Proofs.YtpopphdnlhihdaaGreatDoor
section
open Go Go.RowKit Go.Proofs Ab
theorem inR_c(R:List TQ):inR R=(OO R).map V.c:=by simp only[inR,OO,List.map_flatMap,dI,fJ]
theorem inI_c(I:List TZ):inI I=(OQ I).map V.c:=by simp only[inI,OQ,List.map_flatMap,dI,fJ]
theorem ou_c(R:List TQ)(I:List TZ):OT R++TV I=((rls R++Fz I).map Prod.fst).map V.c:=by
 simp only[OT,TV,rls,Fz,w_,List.map_flatMap,dI,fJ,List.map_map];rfl
def dm(R:List TQ)(I:List TZ):List Value:=(rls R++Fz I).map Prod.fst
variable{w0:World}
theorem EX{w:World}{b:Nat}{a vi vm:Value}{R:List TQ}{I:List TZ}{RK:List (Bool×List Nat×List Nat)}{IK:List (Bool×List Nat)}{M:List Int}(h:AD true w0 w b a vi vm R I RK IK M)(F:TO w)(y:RK.length=12)(A:IK.length=2)(z:M.length=26):Calls Tryz.prog 12 #[.agg #[a,vi,vm]] w (fun e w'=>∃u n,e= .returned u∧Below w.heap.size w w'∧w'.ownsRow w.heap.size 23 1 u n (dm R I)):=by
 have e1:R.length=12:=by rw[←y,←h.eR,iJ]
 have e2:I.length=2:=by rw[←A,←h.eI,iJ]
 have hone:=h.fm.one;have mx:∀n:Nat,n≤1000→n≤maxLen:=fun n h=>by unfold maxLen;omega
 have c:=Rk R I ((Mc M).map V.c) om om (by rw[iJ];simp[Mc,z]) (fun p f=>⟨hone p.2.1 (uC _ (nN.2 ⟨p,f,sy⟩)),hone p.2.2 (uC _ (nN.2 ⟨p,f,sy⟩))⟩) fun p f=>hone p.2 (yI _ (eG.2 ⟨p,f,rfl⟩))
 have q1:Rep0 w (fun q=>q<w.heap.size) a (.l 3 (inR R)):=zi dc h.sd.rr (by rw[inR_c];exact Ah _) (mx _ om) fun q hq=>(h.sd.rr.lt q hq).2
 have q2:Rep0 w (fun q=>q<w.heap.size) vi (.l 2 (inI I)):=zi dc h.sd.ri (by rw[inI_c];exact Ah _) (mx _ om) fun q hq=>(h.sd.ri.lt q hq).2
 have q3:Rep0 w (fun q=>q<w.heap.size) vm (.l 1 ((Mc M).map V.c)):=zi dc h.sd.rm (Ah _) (mx _ om) fun q hq=>(h.sd.rm.lt q hq).2
 have C:Rep0 w (fun q=>q<w.heap.size) (.agg #[a,vi,vm]) (.g [.l 3 (inR R),.l 2 (inI I),.l 1 ((Mc M).map V.c)]):= .g [a,vi,vm] _ rfl fun j v x g1 g2=>by
  match j,g1,g2 with
  |0,g1,g2=>cases g1;cases g2;exact q1
  |1,g1,g2=>cases g1;cases g2;exact q2
  |2,g1,g2=>cases g1;cases g2;exact q3
 refine((c.to0 rfl) w (fun q=>q<w.heap.size) _ trivial F (fun _ h=>h) (rp1 C)).mono ?_;rintro e w' ⟨v,rfl,H,N,L,h⟩;rcases h with h|⟨e,sz,cs,n,xs,G,_,E,m,_,J,_⟩|⟨r,h,_⟩
 ·cases h
 ·cases G;rw[ou_c]at m;have:=c_of m;subst this;exact⟨v,n,rfl,H,E⟩
 ·cases h
def Rn(w0:World)(L:List Value)(t:Nat)(a:Act)(w:World):Prop:=∃n,w.ownsRow w0.heap.size 23 1 (a.tmps.getD t undef) n L
def TH(w0:World)(L1 L2 L3:List Value):Nat→Act→World→Prop
 |0,_,w=>Below w0.heap.size w0 w
 |1,a,w=>Below w0.heap.size w0 w∧Rn w0 L1 144 a w
 |2,a,w=>Below w0.heap.size w0 w∧Rn w0 L1 144 a w∧Rn w0 L2 146 a w
 |3,a,w=>Below w0.heap.size w0 w∧Rn w0 (L1++L2) 147 a w
 |4,a,w=>Below w0.heap.size w0 w∧Rn w0 (L1++L2) 147 a w∧Rn w0 L3 149 a w
 |5,a,w=>Below w0.heap.size w0 w∧Rn w0 (L1++L2++L3) 150 a w
 |_+6,_,w=>bT w0 (Eb (L1++L2++L3)) w
theorem Rn.st{w w':World}{L:List Value}{t u:Nat}{a:Act}{x:Value}(h:Rn w0 L t a w)(hb:Below w.heap.size w w')(f:u≠t):Rn w0 L t (a.put (some u) x) w':=by
 obtain⟨n,c⟩:=h;refine⟨n,?_⟩;rw[tJ f];exact bJ c fun q hq=>hb.block q (c.lt q hq).2
theorem jY{w:World}{E:Nat→Prop}(h:Below w0.heap.size w0 w):bT w0 E w:=⟨h.os,h.tape,h.output,h.size,fun q hq _=>h.block q hq⟩
section
variable {w0 w w':World} {L1 L2 L3:List Value} {a:Act} {m:Nat}
theorem TH.bel:∀{m:Nat},TH w0 L1 L2 L3 m a w→bT w0 (Eb (L1++L2++L3)) w
 |0,h=>jY h
 |1,h=>jY h.1
 |2,h=>jY h.1
 |3,h=>jY h.1
 |4,h=>jY h.1
 |5,h=>jY h.1
 |_+6,h=>h
theorem TH.st(t:Nat)(ht:(Nat.beq t 144||Nat.beq t 146||Nat.beq t 147||Nat.beq t 149||Nat.beq t 150)=false){x:Value}:∀{m:Nat},TH w0 L1 L2 L3 m a w→Below w.heap.size w w'→TH w0 L1 L2 L3 m (a.put (some t) x) w':=by
 simp only[Bool.or_eq_false_iff]at ht;obtain⟨⟨⟨⟨h1,h2⟩,c⟩,g⟩,f⟩:=ht;have ne:∀{u:Nat},Nat.beq t u=false→t≠u:=fun h e=>by rw[e,Nat.beq_refl]at h;cases h
 intro m h hb;match m,h with
 |0,h=>exact dB h hb
 |1,h=>exact⟨dB h.1 hb,h.2.st hb (ne h1)⟩
 |2,h=>exact⟨dB h.1 hb,h.2.1.st hb (ne h1),h.2.2.st hb (ne h2)⟩
 |3,h=>exact⟨dB h.1 hb,h.2.st hb (ne c)⟩
 |4,h=>exact⟨dB h.1 hb,h.2.1.st hb (ne c),h.2.2.st hb (ne g)⟩
 |5,h=>exact⟨dB h.1 hb,h.2.st hb (ne f)⟩
 |m+6,h=>exact Ab.bT.two (w:=w0) h (jY (E:=fun _=>False) hb) fun q hq=>hq.elim
theorem Oz{x y:Nat}{L M:List Value}{F:TypeId}{d:Nat}{p:String}{e:Array Edge}{gd:Option (Nat×Bool)}(Q:d<a.tmps.size)(hb:Below w0.heap.size w0 w)(h1:Rn w0 L x a w)(h2:Rn w0 M y a w)(Y:L.length≤1000)(U:M.length≤1000)(h1c:∀v,v∈M→v.oneCell'=true):∃v w',(execOp a.eval (⟨some d,.call ⟨.builtin .append,#[.tmp x,.tmp y],#[45,45]⟩,F,p,e,gd⟩:Oper)).run Tryz.prog w= .ok (.value v) w'∧Below w0.heap.size w0 w'∧Rn w0 (L++M) d (a.put (some d) v) w':=by
 obtain⟨N,E,C,A,z⟩:=info_parts IV;obtain⟨n1,m⟩:=h1;obtain⟨n2,o2⟩:=h2;have e1:L.length=n1:=by have:=m.1;omega
 have e2:M.length=n2:=by have:=o2.1;omega
 obtain⟨I,H,f⟩:=iE o2;have P:=hb.size;obtain⟨J,w',hrun,r1,r2,_⟩:=F5 w0.heap.size 45 F 23 N (.slice none 0 0) 1 24 Tryz.underlying45 E C A z rfl uf (a.tmps.getD x undef) n1 L m I n2 H M om (by
  rcases o2.2 with ⟨h,Z⟩|⟨g,cap,cur,h,_⟩
  ·exact .inl (nz om)
  ·have O:=h;rw[f]at h;cases h;refine .inr ⟨_,rfl,fun j u G=>?_⟩;rw[O]at o2;rw[Addr.add_lit,eY,o2.cellAt j (by have:=(iR.1 G).1;omega)];exact G) h1c (by unfold maxLen;omega) om P
 refine⟨J,w',?_,Bf hb r2 fun q hq=>(m.lt q hq).1,n1+n2,by rw[put_eq Q];exact r1⟩;obtain⟨l,c⟩:∃l,l=a.tmps.getD x undef:=⟨_,rfl⟩;rw[←c]at hrun;have ex:a.eval (.tmp x)=l:=c.symm;have T:a.eval (.tmp y)= .slice I n2 H:=f;simp[execOp,resolve,invoke,builtin,ex,T,hrun,Result.andThen]
end
end
section
open Go Go.RowKit Go.Proofs Ab
variable{H:Nat→Prop}{g1 g2 h1 h2:Value}{A:List Nat}
theorem IX{w:World}{s:Bool}{D:List Nat}(r1:Rep0 w H g1 (.l 1 (W A)))(r2:Rep0 w H g2 (.l 1 (W D)))(c:Rep0 w H h1 (.l 1 (W (A++[71,72]))))(a:Rep0 w H h2 (.l 1 (W (D++[71,72])))):Rep0 w H (.agg #[.bool s,g1,g2,h1,h2]) (.g [.b s,.l 1 (W A),.l 1 (W D),.l 1 (W (A++[71,72])),.l 1 (W (D++[71,72]))]):= .g [.bool s,g1,g2,h1,h2] _ rfl fun j v x e1 e2=>by
 match j,e1,e2 with
 |0,e1,e2=>cases e1;cases e2;exact .b _
 |1,e1,e2=>cases e1;cases e2;exact r1
 |2,e1,e2=>cases e1;cases e2;exact r2
 |3,e1,e2=>cases e1;cases e2;exact c
 |4,e1,e2=>cases e1;cases e2;exact a
theorem LZ{w:World}{s:Bool}{D:List Nat}(r1:Rep0 w H g1 (.l 1 (W A)))(r2:Rep0 w H g2 (.l 1 (W D))):Rep0 w H (.agg #[.bool s,g1,g2]) (rL s A D):= .g [.bool s,g1,g2] _ rfl fun j v x e1 e2=>by
 match j,e1,e2 with
 |0,e1,e2=>cases e1;cases e2;exact .b _
 |1,e1,e2=>cases e1;cases e2;exact r1
 |2,e1,e2=>cases e1;cases e2;exact r2
theorem neb{w:World}{L:List Value}{q:Nat}{xs:Array Value}{ty:TypeId}{fr:Nat×Nat}(f:∀v,v∈L→∃A,A.length≤1000000∧Rw w v A)(h:w.heap[q]? =some (.cells xs ty fr))(a:ty≠49):¬Eb L q:=fun⟨v,c,hq⟩=>by
 obtain⟨A,_,j⟩:=f v c;rcases j.2 with ⟨rfl,_⟩|⟨g,cap,cur,rfl,_,h2,_⟩
 ·cases hq
 ·cases hq;rw[h]at h2;injection h2 with h2
  injection h2 with _ l _
  exact a l
theorem st_20{wS w0:World}{ac:Act}{X:Nat→Prop}{Rp:Exit→Act→World→Prop}{b0:Nat}{x1 x2 y1 y2 z0 z1 z2 u v e1 e2 e3 lv e4:Value}{s0 s1 s3 s4:Bool}{A0 D0 A1 D1 A3 A4:List Nat}{l:List (Bool×List Nat×List Nat)}{q3 q4 q7 q8:Nat}{vi vj vl vp:Value}{k1 k2 m1 m2 ui uj:Value}{q13 Jf q15 q16:Nat}{u14 u15 u16:World}{b14 b15 b16:Nat}{G Q J F P I E O H:Value}{R14 R15 R16:List TQ}{yu Bg I16:List TZ}{RK RK2:List (Bool×List Nat×List Nat)}{IK IK2:List (Bool×List Nat)}{M M2:List Int}(hjS:TO wS)(ls:LS 267 [(16,Pt q16),(15,Pt q15),(14,Pt Jf),(13,Pt q13),(1,Pt b0),(3,Pt q3),(4,Pt q4),(5,vi),(6,vj),(7,Pt q7),(8,Pt q8),(9,vl),(10,vp)] ac)(hB:Below wS.heap.size wS w0)(hc:CS wS X b0 x1 x2 y1 y2 z0 z1 z2 u v e1 e2 e3 lv e4 s0 s1 s3 s4 A0 D0 A1 D1 A3 A4 l)(hf:LF wS X q3 q4 q7 q8 vi vj g1 g2 h1 h2 k1 k2 m1 m2 ui uj s0 s1 s3 s4 A1 D1 A3 A4)(Y:OA wS g1 g2 h1 h2 A0 D0)
 (la0:A0.length≤1000000) (ld0:D0.length≤1000000) (la1:A1.length≤1000000) (ld1:D1.length≤1000000) (la3:A3.length≤1000000) (la4:A4.length≤1000000) (lR:RK.length=12) (lI:IK.length=2) (lM:M.length=26) (lR2:RK2.length=12) (lI2:IK2.length=2) (lM2:M2.length=26)
 (hq14:w0.heap[Jf]? =some (.cells [G,Q,J].toArray 41 (0,0))) (d14:AD true u14 w0 b14 G Q J R14 yu RK IK M)
 (hq15:w0.heap[q15]? =some (.cells [F,P,I].toArray 41 (0,0))) (d15:AD true u15 w0 b15 F P I R15 Bg RK2 IK2 M2)
 (hq16:w0.heap[q16]? =some (.cells [E,O,H].toArray 41 (0,0))) (d16:AD true u16 w0 b16 E O H R16 I16 RK IK M)
 (hE:∀q,Eb (dm R14 yu++dm R15 Bg++dm R16 I16) q→wS.heap.size≤q) (hap:ZW (dm R14 yu++dm R15 Bg++dm R16 I16)) (hrow:∀v,v∈(dm R14 yu++dm R15 Bg++dm R16 I16)→∃A,A.length≤1000000∧Rw w0 v A)
 (next:∀(a':Act) (w':World),LS 267 [(16,Pt q16),(15,Pt q15),(14,Pt Jf),(13,Pt q13),(1,Pt b0),(3,Pt q3),(4,Pt q4),(5,vi),(6,vj),(7,Pt q7),(8,Pt q8),(9,vl),(10,vp)] a'→bT w0 (Eb (dm R14 yu++dm R15 Bg++dm R16 I16)) w'→(qd 15 (qf Tryz.f3)).wp Tryz.prog Rp a' w'):(qd 14 (qf Tryz.f3)).wp Tryz.prog Rp ac w0:=by
 have p0:=yV s0 A0 D0 la0 ld0
 have p1:=yV s1 A1 D1 la1 ld1
 have p3:=Be A3 la3
 have p4:=Be A4 la4
 have l14:(dm R14 yu).length=26:=by
  have r1:R14.length=12:=by rw[←lR,←d14.eR,iJ]
  have r2:yu.length=2:=by rw[←lI,←d14.eI,iJ]
  have r3:=D_ R14;have r4:=Gy yu;have r5:(OT R14++TV yu).length=(dm R14 yu).length:=by rw[ou_c,iJ];rfl
  rw[←r5,bZ];omega
 have o14:∀v,v∈dm R14 yu→v.oneCell'=true:=fun v U=>by
  obtain⟨p,hp,rfl⟩:=eG.1 U;exact d14.fm.one p hp
 have l15:(dm R15 Bg).length=26:=by
  have r1:R15.length=12:=by rw[←lR2,←d15.eR,iJ]
  have r2:Bg.length=2:=by rw[←lI2,←d15.eI,iJ]
  have r3:=D_ R15;have r4:=Gy Bg;have r5:(OT R15++TV Bg).length=(dm R15 Bg).length:=by rw[ou_c,iJ];rfl
  rw[←r5,bZ];omega
 have o15:∀v,v∈dm R15 Bg→v.oneCell'=true:=fun v U=>by
  obtain⟨p,hp,rfl⟩:=eG.1 U;exact d15.fm.one p hp
 have l16:(dm R16 I16).length=26:=by
  have r1:R16.length=12:=by rw[←lR,←d16.eR,iJ]
  have r2:I16.length=2:=by rw[←lI,←d16.eI,iJ]
  have r3:=D_ R16;have r4:=Gy I16;have r5:(OT R16++TV I16).length=(dm R16 I16).length:=by rw[ou_c,iJ];rfl
  rw[←r5,bZ];omega
 have o16:∀v,v∈dm R16 I16→v.oneCell'=true:=fun v U=>by
  obtain⟨p,hp,rfl⟩:=eG.1 U;exact d16.fm.one p hp
 have Z:∀m a w,TH w0 (dm R14 yu) (dm R15 Bg) (dm R16 I16) m a w→Below wS.heap.size wS w:=fun m a w h=>by
  have h1:=h.bel;have h2:=hB.size;exact⟨h1.os.trans hB.os,h1.tape.trans hB.tape,h1.output.trans hB.output,bK h2 h1.size,fun q hq=>(h1.block q om fun he=>by have:=hE q he;omega).trans (hB.block q hq)⟩
 have lY:∀m (a:Act) (w:World),TH w0 (dm R14 yu) (dm R15 Bg) (dm R16 I16) m a w→TO w:=fun m a w h=>hjS.up (Z m a w h)
 have y:∀(m t:Nat),(Nat.beq t 144||Nat.beq t 146||Nat.beq t 147||Nat.beq t 149||Nat.beq t 150)=false→∀(a:Act) (w:World) (x:Value) (w':World),TH w0 (dm R14 yu) (dm R15 Bg) (dm R16 I16) m a w→Below w.heap.size w w'→TH w0 (dm R14 yu) (dm R15 Bg) (dm R16 I16) m (a.put (some t) x) w':=fun m t ht a w x w' h hb=>h.st t ht hb
 refine wp_seq (wp_seq (Rt (M:=6) (N:=267) false (nK [(16,Pt q16),(15,Pt q15),(14,Pt Jf),(13,Pt q13),(1,Pt b0),(3,Pt q3),(4,Pt q4),(5,vi),(6,vj),(7,Pt q7),(8,Pt q8),(9,vl),(10,vp)]) (_::_::_::_::_::_::_::_::_::_::_::_::_::_::_::_::_::_::_::_::_::_::_::_::_::_::_::_::_::_::_::_::_::_::_::_::_::_::_::_::[]) (none::some 0::none::some 1::some 2::none::some 3::some 4::some 5::none::none::none::none::none::none::none::none::none::none::none::none::none::none::none::none::none::none::none::none::none::none::none::none::none::none::none::none::none::none::none::[]) ([(14,none)]::[(143,some 0)]::[(15,none)]::[(145,some 2)]::[(144,some 1),(146,some 3)]::[(16,none)]::[(148,some 5)]::[(147,some 4),(149,some 6)]::[(150,some 7)]::[(151,some 8)]::[(152,some 9)]::[(3,none)]::[(1,none)]::[(155,some 12)]::[(154,some 11),(156,some 13)]::[(157,some 14)]::[(153,some 10),(158,some 15)]::[(159,some 16)]::[(4,none)]::[(1,none)]::[(162,some 19)]::[(161,some 18),(163,some 20)]::[(164,some 21)]::[(160,some 17),(165,some 22)]::[(166,some 23)]::[(5,none)]::[(1,none)]::[(169,some 26)]::[(170,some 27)]::[(168,some 25),(171,some 28)]::[(172,some 29)]::[(167,some 24),(173,some 30)]::[(174,some 31)]::[(6,none)]::[(1,none)]::[(177,some 34)]::[(178,some 35)]::[(176,some 33),(179,some 36)]::[(180,some 37)]::[(175,some 32),(181,some 38)]::[]) (TH w0 (dm R14 yu) (dm R15 Bg) (dm R16 I16)) ls.sz ls.df ls.nE (fun w' _ h=>h) aN kf kf kf kf kf (.inr kf) ⟨fun m=>bf (lY m) (y m 143 rfl) (fun a w f=>nH (n:=3) (nJ (L:=[G,Q,J]) ((f.bel.block _ (pW.1 hq14).1 (neb hrow hq14 dc)).trans hq14)) rfl kf kf rfl) (.inr ⟨[G,Q,J],rfl,rfl⟩),LY (d:= .u) (T:=TH w0 (dm R14 yu) (dm R15 Bg) (dm R16 I16) 0) (T':=TH w0 (dm R14 yu) (dm R15 Bg) (dm R16 I16) 1) kf (fun a w hz z f=>by
  have e1:a.tmps.getD 143 undef= .agg #[G,Q,J]:=z 143 _ rfl;simp only[dI,fJ,bU];rw[e1];refine(EX (d14.below f) (lY 0 a w f) lR lI lM).mono ?_;rintro e w' ⟨u,n,rfl,hb,Y⟩;have h6:Rn w0 (dm R14 yu) 144 (a.put (some 144) u) w':=⟨n,by rw[put_eq (by rw[hz];decide)];exact oK Y f.size⟩;exact⟨u,rfl,trivial,dB f hb,h6⟩),fun m=>bf (lY m) (y m 145 rfl) (fun a w f=>nH (n:=3) (nJ (L:=[F,P,I]) ((f.bel.block _ (pW.1 hq15).1 (neb hrow hq15 dc)).trans hq15)) rfl kf kf rfl) (.inr ⟨[F,P,I],rfl,rfl⟩),LY (d:= .u) (T:=TH w0 (dm R14 yu) (dm R15 Bg) (dm R16 I16) 1) (T':=TH w0 (dm R14 yu) (dm R15 Bg) (dm R16 I16) 2) kf (fun a w hz z f=>by
  have e1:a.tmps.getD 145 undef= .agg #[F,P,I]:=z 145 _ rfl;simp only[dI,fJ,bU];rw[e1];refine(EX (d15.below f.1) (lY 1 a w f) lR2 lI2 lM2).mono ?_;rintro e w' ⟨u,n,rfl,hb,Y⟩;have h6:Rn w0 (dm R15 Bg) 146 (a.put (some 146) u) w':=⟨n,by rw[put_eq (by rw[hz];decide)];exact oK Y f.1.size⟩;exact⟨u,rfl,trivial,dB f.1 hb,f.2.st hb dc,h6⟩),okn_ex (d:= .u) (T:=TH w0 (dm R14 yu) (dm R15 Bg) (dm R16 I16) 2) (T':=TH w0 (dm R14 yu) (dm R15 Bg) (dm R16 I16) 3) (fun a w hz z f=>by
  obtain⟨v,w',q1,q2,q3⟩:=Oz (d:=147) (by rw[hz];decide) f.1 f.2.1 f.2.2 (by simp only[bZ,l14,l15,l16];decide) (by rw[l15];decide) o15;exact⟨v,w',q1,trivial,q2,q3⟩),fun m=>bf (lY m) (y m 148 rfl) (fun a w f=>nH (n:=3) (nJ (L:=[E,O,H]) ((f.bel.block _ (pW.1 hq16).1 (neb hrow hq16 dc)).trans hq16)) rfl kf kf rfl) (.inr ⟨[E,O,H],rfl,rfl⟩),LY (d:= .u) (T:=TH w0 (dm R14 yu) (dm R15 Bg) (dm R16 I16) 3) (T':=TH w0 (dm R14 yu) (dm R15 Bg) (dm R16 I16) 4) kf (fun a w hz z f=>by
  have e1:a.tmps.getD 148 undef= .agg #[E,O,H]:=z 148 _ rfl;simp only[dI,fJ,bU];rw[e1];refine(EX (d16.below f.1) (lY 3 a w f) lR lI lM).mono ?_;rintro e w' ⟨u,n,rfl,hb,Y⟩;have h6:Rn w0 (dm R16 I16) 149 (a.put (some 149) u) w':=⟨n,by rw[put_eq (by rw[hz];decide)];exact oK Y f.1.size⟩;exact⟨u,rfl,trivial,dB f.1 hb,f.2.st hb dc,h6⟩),okn_ex (d:= .u) (T:=TH w0 (dm R14 yu) (dm R15 Bg) (dm R16 I16) 4) (T':=TH w0 (dm R14 yu) (dm R15 Bg) (dm R16 I16) 5) (fun a w hz z f=>by
  obtain⟨v,w',q1,q2,q3⟩:=Oz (d:=150) (by rw[hz];decide) f.1 f.2.1 f.2.2 (by simp only[bZ,l14,l15,l16];decide) (by rw[l16];decide) o16;exact⟨v,w',q1,trivial,q2,q3⟩),LY (d:= .k (.bool true)) (T:=TH w0 (dm R14 yu) (dm R15 Bg) (dm R16 I16) 5) (T':=TH w0 (dm R14 yu) (dm R15 Bg) (dm R16 I16) 6) kf (fun a w hz z f=>by
  obtain⟨n,Y⟩:=f.2;have hn:(dm R14 yu++dm R15 Bg++dm R16 I16).length=n:=by have:=Y.1;omega
  have l78:(dm R14 yu++dm R15 Bg++dm R16 I16).length=78:=by simp only[bZ,l14,l15,l16]
  obtain⟨g,c,U⟩:=D9 Y om;have ho':=Y;rw[U]at ho';have hg:=ho'.lt g rfl;have hc2:n≤c:=by
   rcases ho'.2 with ⟨h,_⟩|⟨_,cap,cur,h,_,_,h3,_⟩
   ·cases h
   ·cases h;exact h3
  simp only[dI,fJ,bU];rw[U,←hn];have hs0:=f.1.size;have hrow':∀v,v∈(dm R14 yu++dm R15 Bg++dm R16 I16)→∃A,A.length≤1000000∧Rw w v A:=fun v U=>by
   obtain⟨A,h1,h2⟩:=hrow v U;exact⟨A,h1,bJ h2 fun q hq=>f.1.block q (h2.lt q hq).2⟩
  have hlo:∀v q,v∈(dm R14 yu++dm R15 Bg++dm R16 I16)→v.ownBlock=some q→q<w0.heap.size:=fun v q U hq=>by
   obtain⟨A,_,h2⟩:=hrow v U;exact(h2.lt q hq).2
  refine(VR (Lv:=(dm R14 yu++dm R15 Bg++dm R16 I16)) ⟨fun j v hj=>?_,hg.2,om,fun v U e=>?_,fun v q U hq=>?_,hap⟩ om hrow' (TJ.mono hjS (fun q hq=>⟨eu hq (Z 5 a w f).size,fun he=>by have:=hE q he;omega⟩) fun q hq=>(Z 5 a w f).block q hq)).mono ?_
  ·have:=ho'.cellAt j (by have:=(iR.1 hj).1;omega);exact this.trans hj
  ·have:=hlo v g U e;omega
  ·have:=hlo v q U hq;omega
  ·rintro e w' ⟨rfl,hb⟩;exact⟨_,rfl,rfl,Ab.bT.two (w:=w0) (jY f.1) hb fun q hq=> .inl hq⟩),fun m=>bf (lY m) (y m 152 rfl) (fun a w f=>DX rfl) (.inl rfl),fun m=>bf (lY m) (y m 153 rfl) (fun a w f=>nV rfl) (.inl rfl),fun m=>bf (lY m) (y m 154 rfl) (fun a w f=>nH (n:=5) (jL (L:=[Value.bool s0,g1,g2,h1,h2]) hf.b3 (Z m a w f)) rfl kf kf rfl) (.inr ⟨[Value.bool s0,g1,g2,h1,h2],rfl,rfl⟩),fun m=>bf (lY m) (y m 155 rfl) (fun a w f=>d_ (off:=0) rfl kf) (.inl rfl),fun m=>bf (lY m) (y m 156 rfl) (fun a w f=>nH (n:=3) (jL (L:=[Value.bool s0,x1,x2,.bool s1,y1,y2,z0,z1,z2,.bool s3,u,.bool s4,v,e1,e2,e3,lv,e4]) hc.bx (Z m a w f)) rfl kf kf rfl) (.inr ⟨[.bool s0,x1,x2],rfl,rfl⟩),fun m=>yX (lY m) (y m 157 rfl) p0 kf (fun a w z f=>by
  have C:=Z m a w f;have e1:a.tmps.getD 154 undef=_:=z 154 _ rfl;have e2:a.tmps.getD 156 undef=_:=z 156 _ rfl;simp only[dI,fJ,bU];rw[e1,e2];exact N9 (IX (rO C (kM Y.rg1)) (rO C (kM Y.rg2)) (rO C (kM Y.rh1)) (rO C (kM Y.rh2))) (LZ (uJ C hc.r1) (uJ C hc.r2))),fun m=>bf (lY m) (y m 158 rfl) (fun a w f=>DX rfl) (.inl rfl),fun m=>bf (lY m) (y m 159 rfl) (fun a w f=>Fh rfl rfl rfl) (.inl rfl),fun m=>bf (lY m) (y m 160 rfl) (fun a w f=>nV rfl) (.inl rfl),fun m=>bf (lY m) (y m 161 rfl) (fun a w f=>nH (n:=5) (jL (L:=[Value.bool s1,k1,k2,m1,m2]) hf.b4 (Z m a w f)) rfl kf kf rfl) (.inr ⟨[Value.bool s1,k1,k2,m1,m2],rfl,rfl⟩),fun m=>bf (lY m) (y m 162 rfl) (fun a w f=>d_ (off:=3) rfl kf) (.inl rfl),fun m=>bf (lY m) (y m 163 rfl) (fun a w f=>nH (n:=3) (jL (L:=[Value.bool s0,x1,x2,.bool s1,y1,y2,z0,z1,z2,.bool s3,u,.bool s4,v,e1,e2,e3,lv,e4]) hc.bx (Z m a w f)) rfl kf kf rfl) (.inr ⟨[.bool s1,y1,y2],rfl,rfl⟩),fun m=>yX (lY m) (y m 164 rfl) p1 kf (fun a w z f=>by
  have C:=Z m a w f;have e1:a.tmps.getD 161 undef=_:=z 161 _ rfl;have e2:a.tmps.getD 163 undef=_:=z 163 _ rfl;simp only[dI,fJ,bU];rw[e1,e2];exact N9 (IX (uJ C hf.rk1) (uJ C hf.rk2) (uJ C hf.rm1) (uJ C hf.rm2)) (LZ (uJ C hc.r3) (uJ C hc.r4))),fun m=>bf (lY m) (y m 165 rfl) (fun a w f=>DX rfl) (.inl rfl),fun m=>bf (lY m) (y m 166 rfl) (fun a w f=>Fh rfl rfl rfl) (.inl rfl),fun m=>bf (lY m) (y m 167 rfl) (fun a w f=>nV rfl) (.inl rfl),fun m=>bf (lY m) (y m 168 rfl) (fun a w f=>nV rfl) (.inl rfl),fun m=>bf (lY m) (y m 169 rfl) (fun a w f=>d_ (off:=9) rfl kf) (.inl rfl),fun m=>bf (lY m) (y m 170 rfl) (fun a w f=>d_ (off:=1) rfl kf) (.inl rfl),fun m=>bf (lY m) (y m 171 rfl) (fun a w f=>pI (jL (L:=[Value.bool s0,x1,x2,.bool s1,y1,y2,z0,z1,z2,.bool s3,u,.bool s4,v,e1,e2,e3,lv,e4]) hc.bx (Z m a w f)) rfl kf kf rfl) (.inl rfl),fun m=>yX (lY m) (y m 172 rfl) p3 kf (fun a w z f=>by
  have C:=Z m a w f;have e1:a.tmps.getD 168 undef=_:=z 168 _ rfl;have e2:a.tmps.getD 171 undef=_:=z 171 _ rfl;simp only[dI,fJ,bU];rw[e1,e2];exact N9 (uJ C hf.rvi) (uJ C hc.r5)),fun m=>bf (lY m) (y m 173 rfl) (fun a w f=>DX rfl) (.inl rfl),fun m=>bf (lY m) (y m 174 rfl) (fun a w f=>Fh rfl rfl rfl) (.inl rfl),fun m=>bf (lY m) (y m 175 rfl) (fun a w f=>nV rfl) (.inl rfl),fun m=>bf (lY m) (y m 176 rfl) (fun a w f=>nV rfl) (.inl rfl),fun m=>bf (lY m) (y m 177 rfl) (fun a w f=>d_ (off:=11) rfl kf) (.inl rfl),fun m=>bf (lY m) (y m 178 rfl) (fun a w f=>d_ (off:=1) rfl kf) (.inl rfl),fun m=>bf (lY m) (y m 179 rfl) (fun a w f=>pI (jL (L:=[Value.bool s0,x1,x2,.bool s1,y1,y2,z0,z1,z2,.bool s3,u,.bool s4,v,e1,e2,e3,lv,e4]) hc.bx (Z m a w f)) rfl kf kf rfl) (.inl rfl),fun m=>yX (lY m) (y m 180 rfl) p4 kf (fun a w z f=>by
  have C:=Z m a w f;have e1:a.tmps.getD 176 undef=_:=z 176 _ rfl;have e2:a.tmps.getD 179 undef=_:=z 179 _ rfl;simp only[dI,fJ,bU];rw[e1,e2];exact N9 (uJ C hf.rvj) (uJ C hc.r6)),fun m=>bf (lY m) (y m 181 rfl) (fun a w f=>DX rfl) (.inl rfl),fun m=>bf (lY m) (y m 182 rfl) (fun a w f=>Fh rfl rfl rfl) (.inl rfl),trivial⟩ ?_))
 intro a' w' q1 q2 q3' q4' q5
 have hl:LS 267 [(16,Pt q16),(15,Pt q15),(14,Pt Jf),(13,Pt q13),(1,Pt b0),(3,Pt q3),(4,Pt q4),(5,vi),(6,vj),(7,Pt q7),(8,Pt q8),(9,vl),(10,vp)] a':=ls.nx q1 q2 q3' kf
 refine wp_cond_false (q4' 39 _ 182 _ rfl rfl rfl) (wp_skip ?_)
 exact next a' w' hl q5
end
section
open Go Go.RowKit Go.Proofs Ab
def L6:=an @aQ<|an @fK<|an @aW<|an @aO<|an @aI<|an @fZ<|an @mJ<|an @dR<|an @iL<|an @wi<|an @lu<|an @gG @di
theorem Rx(cs:List V)(l:List (Bool×List Nat×List Nat))(g:cs.getD 16 .un= .l 3 (RC l))(f:cs.length=18)(F:l.length≤30)(E:∀p,p∈l→p.2.1.length≤1000000∧p.2.2.length≤1000000):
 yY aT (mG Tryz.prog) (mdr 15 a3).p1 (fun ex s=>ex= .normal∧True) ⟨[(1,.ip cs 0),(10,.l 5 (PC l))],[],0⟩:=by
 have c:=qh l
 have j:=PC_len l
 have dl:l.length*3/3=l.length:=om
 have z:l.length*5/5=l.length:=om
 apply gm
 unfold a3
 conv in AC.p1 _=>reduce
 simp only[dw,eU,Int.reduceOfNat,Int.reduceNegSucc]
 refine aX (ai @f<|ai @g<|ai @dl<|ai @c @L6) ?_
 refine aF [] Nat (fun i=>⟨[(1,.ip cs 0),(10,.l 5 (PC l)),(17,.i .i64 (i:Int))],[],0⟩)
  (fun i=>i≤l.length) (fun i=>l.length-i) 0 (aG _) (by exact oL) (by
  simp(disch:=(first|omega|assumption)) only[Sl,Sa,Sw,↓reduceIte,Nat.reduceEqDiff,Nat.reduceLT,jH,iI,Nat.reduceBneDiff,Nat.reduceAdd,ku,ne_eq,reduceCtorEq,kP,mZ,jf,jP,bW,bY,and_self,Ub]
  repeat' first|rfl|omega|(simp only[bZ,dX,dJ];done)|apply And.intro) ?_
 intro i C H y u A
 by_cases h:(i:Int)<(l.length:Int)
 ·have row:=xA l i om;have a:=PC_row l i om;have m:=E _ (by rw[dN,bC om];exact uP _:l.getD i (false,[],[])∈l);have G:=yV (l.getD i (false,[],[])).1 (l.getD i (false,[],[])).2.1 (l.getD i (false,[],[])).2.2 m.1 m.2;generalize l.getD i (false,[],[])=x at*
  refine pJ (ai @f<|ai @g<|ai @a<|ai @row<|ai @z<|ai @j<|ai @dl<|ai @c<|ai @h @L6) ?_;refine y _ (i+1) om om ?_;simp(disch:=(first|omega|assumption)) only[Sl,Sa,Sw,↓reduceIte,Nat.reduceEqDiff,Nat.reduceLT,jH,iI,Nat.reduceBneDiff,Nat.reduceAdd,ku,ne_eq,reduceCtorEq,kP,mZ,jf,jP,bW,bY,and_self,Ub];repeat' first|rfl|omega|(simp only[bZ,dX,dJ];done)|apply And.intro
 obtain rfl:i=l.length:=om
 refine aX (ai @f<|ai @g<|ai @z<|ai @j<|ai @dl<|ai @c<|ai @h @L6) ?_
 refine u _ _ ?_
 clear u A y h C
 refine aX @L6 ?_
 exact⟨trivial,trivial⟩
def kD:List Nat:=[1,3,4,5,6,7,8,9]
theorem law_D{w:World}{a:Act}{X:Nat→Prop}{R:Exit→Act→World→Prop}{b0 q3 q4 q7 q8:Nat}{vi vj vl m x1 x2 y1 y2 z0 z1 z2 u v e1 e2 e3 lv e4:Value}{s0 s1 s3 s4:Bool}{A0 D0 A1 D1 A3 A4:List Nat}{l:List (Bool×List Nat×List Nat)}(ls:LS 267 [(1,Pt b0),(3,Pt q3),(4,Pt q4),(5,vi),(6,vj),(7,Pt q7),(8,Pt q8),(9,vl),(10,m)] a)(F:TJ w fun q=>q<w.heap.size∧¬X q)(h:CS w X b0 x1 x2 y1 y2 z0 z1 z2 u v e1 e2 e3 lv e4 s0 s1 s3 s4 A0 D0 A1 D1 A3 A4 l)(j:Rep0 w (fun q=>q<w.heap.size∧¬X q) m (.l 5 (PC l)))(C:l.length≤30)(G:∀p,p∈l→p.2.1.length≤1000000∧p.2.2.length≤1000000)
 (kk:∀(y:Act) (w':World),LS 267 [(1,Pt b0),(3,Pt q3),(4,Pt q4),(5,vi),(6,vj),(7,Pt q7),(8,Pt q8),(9,vl)] y→Below w.heap.size w w'→(qd 16 (qf Tryz.f3)).wp Tryz.prog R y w'):(qd 15 (qf Tryz.f3)).wp Tryz.prog R a w:=by
 have mY:=JR (L:=[(1,.ip (caV s0 s1 s3 s4 A0 D0 A1 D1 A3 A4 l) 0),(10,.l 5 (PC l))]) kD ls.sz ls.df F fun p g=>by
  simp only[dZ,og,or_false]at g;rcases g with rfl|rfl
  ·rw[ls.kp (1,_) (.head _)];exact h.ip
  ·rw[ls.kp (10,m) (dP (i:=8) rfl)];exact j
 have E:=Rx (caV s0 s1 s3 s4 A0 D0 A1 D1 A3 A4 l) l rfl rfl C G
 refine RD aN kf (Gx dc) mY E ?_
 intro a3 z I A H _ c
 have f:∀t,t∈kD→a3.tmps.getD t undef=a.tmps.getD t undef:=fun t ht=>c.kp t _ (eG.2 ⟨t,ht,rfl⟩)
 refine kk a3 z ⟨c.MJ,c.I7,fun p j=>?_⟩ (c.mem.bel.below fun _ h=>h)
 simp only[dZ,og,or_false]at j
 rcases j with rfl|rfl|rfl|rfl|rfl|rfl|rfl|rfl
 ·exact(f 1 dc).trans (ls.kp (1,_) (.head _))
 ·exact(f 3 dc).trans (ls.kp (3,_) (.tail _ (.head _)))
 ·exact(f 4 dc).trans (ls.kp (4,_) (.tail _ (.tail _ (.head _))))
 ·exact(f 5 dc).trans (ls.kp (5,_) (dP (i:=3) rfl))
 ·exact(f 6 dc).trans (ls.kp (6,_) (dP (i:=4) rfl))
 ·exact(f 7 dc).trans (ls.kp (7,_) (dP (i:=5) rfl))
 ·exact(f 8 dc).trans (ls.kp (8,_) (dP (i:=6) rfl))
 ·exact(f 9 dc).trans (ls.kp (9,_) (dP (i:=7) rfl))
end
section
open Go Go.RowKit Go.Proofs Ab
theorem Wv_set(A:List Nat)(k c:Nat):(Wv A).set k (.int .u64 (c:Int))=Wv (A.set k c):=by
 simp[Wv,List.map_set]
variable{q k c b0 q3 q4 q7 q8:Nat}{A A0 D0 A1 D1 A3 A4:List Nat}{f:Nat→Nat}{a:Act}{Rp:Exit→Act→World→Prop}{vi vj vl x1 x2 y2 z2 u e2 e3 lv e4 h1 h2 g1 g2:Value}{s3 s4:Bool}{l:List (Bool×List Nat×List Nat)}{cur:Array Value}
theorem GG{w:World}{cap n:Nat}(h:w.ownsRow 0 49 1 (.slice (some ⟨q,0,none⟩) n cap) n (Wv A)):(w.setCell ⟨q,k,none⟩ (.int .u64 (c:Int))).ownsRow 0 49 1 (.slice (some ⟨q,0,none⟩) n cap) n (Wv (A.set k c)):=by
 have:=(h.stored k (.int .u64 (c:Int))).1;rwa[Wv_set]at this
theorem Bh{w:World}{v:Value}(h:Rw w v A)(hq:v.ownBlock=some q):∃c,v= .slice (some ⟨q,0,none⟩) A.length c:=by
 rcases h.2 with ⟨rfl,_⟩|⟨g,cap,cur,rfl,_⟩
 ·cases hq
 ·cases hq;exact⟨cap,rfl⟩
theorem ob_at{w:World}{v:Value}(h:Rw w v A)(a:0<A.length):∃q,v.ownBlock=some q:=by
 obtain⟨g,c,rfl⟩:=D9 h a;exact⟨g,rfl⟩
section
variable {w:World} {g1 g2 h1 h2:Value} {A D:List Nat} {q k c:Nat}
theorem OA.set1(h:OA w g1 g2 h1 h2 A D)(hq:h1.ownBlock=some q)(f:k<A.length):OA (w.setCell ⟨q,k,none⟩ (.int .u64 (c:Int))) g1 g2 h1 h2 (A.set k c) D:=by
 obtain⟨c1,e1⟩:=Bh h.rh1 hq;obtain⟨c2,e2⟩:=Bh h.rg1 (h.e1.trans hq);have r1:=h.rh1;have r2:=h.rg1;rw[e1]at r1;rw[e2]at r2;have s1:=GG (c:=c) (k:=k) r1;have s2:=GG (c:=c) (k:=k) r2;rw[List.set_append_left _ _ f]at s1;have k2:∀p,h2.ownBlock=some p→(w.setCell ⟨q,k,none⟩ (.int .u64 (c:Int))).heap[p]? =w.heap[p]? :=fun p a=>heap_setCell_other w ⟨q,k,none⟩ p _ fun e=>by
  have e:p=q:=e;subst e;exact h.ne p hq a
 refine⟨FB (n:=A.length) (by rw[e2];exact s2),bJ h.rg2 fun p a=>k2 p (h.e2▸a),FB (n:=(A++[71,72]).length) (by rw[e1];exact s1),bJ h.rh2 k2,h.e1,h.e2,h.ne⟩
theorem OA.set2(h:OA w g1 g2 h1 h2 A D)(hq:h2.ownBlock=some q)(f:k<D.length):OA (w.setCell ⟨q,k,none⟩ (.int .u64 (c:Int))) g1 g2 h1 h2 A (D.set k c):=by
 obtain⟨c1,e1⟩:=Bh h.rh2 hq;obtain⟨c2,e2⟩:=Bh h.rg2 (h.e2.trans hq);have r1:=h.rh2;have r2:=h.rg2;rw[e1]at r1;rw[e2]at r2;have s1:=GG (c:=c) (k:=k) r1;have s2:=GG (c:=c) (k:=k) r2;rw[List.set_append_left _ _ f]at s1;have k2:∀p,h1.ownBlock=some p→(w.setCell ⟨q,k,none⟩ (.int .u64 (c:Int))).heap[p]? =w.heap[p]? :=fun p a=>heap_setCell_other w ⟨q,k,none⟩ p _ fun e=>by
  have e:p=q:=e;subst e;exact h.ne p a hq
 refine⟨bJ h.rg1 fun p a=>k2 p (h.e1▸a),FB (n:=D.length) (by rw[e2];exact s2),bJ h.rh1 k2,FB (n:=(D++[71,72]).length) (by rw[e1];exact s1),h.e1,h.e2,h.ne⟩
end
section
variable {w0:World} {N i:Nat} {R:Nat→Option Δ} {Bx:Bs} {P:Program} {dst:Option Tmp} {x:Operand} {tx ty t:TypeId} {p:String} {e:Array Edge} {gd:Option (Nat×Bool)}
theorem ok_qu{y:Operand}{m:Nat}(j:lX R x (.k (.int .u64 (c:Int))))(g:lX R y (.k (.int .u64 (m:Int))))(hm:0<m)(A:c<18446744073709551616):Ok P w0 N ⟨dst,.binOp .quo tx x y ty,t,p,e,gd⟩ i R Bx (.k (.int .u64 ((c/m:Nat):Int))) none:=
 wV fun γ w a f _=>by
  have e1:a.eval x= .int .u64 (c:Int):=j.ev f;have e2:a.eval y= .int .u64 (m:Int):=g.ev f;have z:¬m=0:=om;have u:(c:Int).tdiv (m:Int)=((c/m:Nat):Int):=Int.ofNat_tdiv c m;have hle:=fE c m;generalize c/m=d at*
  have l:IntKind.u64.wrap (d:Int)=(d:Int):=by rw[IntKind.wrap_u64];omega
  exact⟨_,by simp[execOp,e1,e2,eqGuard_at_int,binOp,Op.intDiv,z,u,l],rfl⟩
end
theorem take_set(a:k<A.length):((A.take k).map f++A.drop k).set k (f (A.getD k 0))=(A.take (k+1)).map f++A.drop (k+1):=by
 have hl:((A.take k).map f).length=k:=by rw[iJ,jo];omega
 have c:A.getD k 0=A[k]:=by simp[dN,a]
 rw[nZ _ _ om,hl,gW,Dc a,List.set_cons_zero,y7 a,w_,c,nY];rfl
theorem OC(a:k<A.length):((A.take k).map f++A.drop k)[k]? =some (A.getD k 0):=by
 have hl:((A.take k).map f).length=k:=by rw[iJ,jo];omega
 rw[rY om,hl,gW,uB,ik,bC a];simp[dN,a]
theorem take_len(a:k≤A.length):((A.take k).map f++A.drop k).length=A.length:=by
 rw[bZ,iJ,jo,uM];omega
theorem wr16_c{w:World}{y1 z0 z1 v e1:Value}{s0 s1:Bool}(m:TO w)(ls:LS 267 [(18,.int .i64 (k:Int)),(1,Pt b0),(3,Pt q3),(4,Pt q4),(5,vi),(6,vj),(7,Pt q7),(8,Pt q8),(9,vl)] a)(y:CS w (Xa h1 h2) b0 x1 x2 y1 y2 z0 z1 z2 u v e1 e2 e3 lv e4 s0 s1 s3 s4 A0 D0 A1 D1 A3 A4 l)(hl:A0.length≤1000000)
 (j:k<A0.length→∀(f:Act) (w':World),LS 267 [(18,.int .i64 (k:Int)),(1,Pt b0),(3,Pt q3),(4,Pt q4),(5,vi),(6,vj),(7,Pt q7),(8,Pt q8),(9,vl)] f→Below w.heap.size w w'→Rp .normal f w') (g:¬k<A0.length→∀(f:Act) (w':World),LS 267 [(18,.int .i64 (k:Int)),(1,Pt b0),(3,Pt q3),(4,Pt q4),(5,vi),(6,vj),(7,Pt q7),(8,Pt q8),(9,vl)] f→Below w.heap.size w w'→Rp (.exit 4) f w'):(q1 (ql (qb (q2 (q1 (qd 16 (qf Tryz.f3))))))).wp Tryz.prog Rp a w:=by
 have S:=ls.ps m
 have ol:=Ro y
 by_cases hk:k<A0.length
 ·refine wp_seq (wp_region_lit ?_);(refine aj S (nV rfl) fun _ _ _ S=>?_);(refine aj S (d_ (off:=0) rfl kf) fun _ _ _ S=>?_);(refine aj S (d_ (off:=0) rfl kf) fun _ _ _ S=>?_);(refine aj S (d_ (off:=1) rfl kf) fun _ _ _ S=>?_);(refine aj S (pI ol rfl kf kf rfl) fun _ _ _ S=>?_);(refine aj S (D5 rfl rfl kf) fun _ _ _ S=>?_);(refine aj S (xw rfl rfl rfl (congrArg Value.bool (cO om))) fun _ _ _ S=>?_);refine h_ ?_;have c:_=Value.bool true:=S.env 206 (.k (.bool true)) rfl;refine wp_cond_true c (wp_skip ?_);exact j hk _ _ (S.ls tv) S.W.bel
 ·refine wp_seq (wp_region_lit ?_);(refine aj S (nV rfl) fun _ _ _ S=>?_);(refine aj S (d_ (off:=0) rfl kf) fun _ _ _ S=>?_);(refine aj S (d_ (off:=0) rfl kf) fun _ _ _ S=>?_);(refine aj S (d_ (off:=1) rfl kf) fun _ _ _ S=>?_);(refine aj S (pI ol rfl kf kf rfl) fun _ _ _ S=>?_);(refine aj S (D5 rfl rfl kf) fun _ _ _ S=>?_);(refine aj S (xw rfl rfl rfl (congrArg Value.bool (aZ om))) fun _ _ _ S=>?_);refine h_ ?_;have c:_=Value.bool false:=S.env 206 (.k (.bool false)) rfl;refine wp_cond_false c ?_;refine wp_exit ?_;exact g hk _ _ (S.ls tv) S.W.bel
theorem wr16_s{w:World}(f:TO w)(ls:LS 267 [(18,.int .i64 (k:Int)),(1,Pt b0),(3,Pt q3),(4,Pt q4),(5,vi),(6,vj),(7,Pt q7),(8,Pt q8),(9,vl)] a)(g:k≤1000000)(kk:∀(c:Act) (w':World),LS 267 [(18,.int .i64 ((k+1:Nat):Int)),(1,Pt b0),(3,Pt q3),(4,Pt q4),(5,vi),(6,vj),(7,Pt q7),(8,Pt q8),(9,vl)] c→Below w.heap.size w w'→Rp .normal c w'):(q2 (q2 (ql (qb (q2 (q1 (qd 16 (qf Tryz.f3)))))))).wp Tryz.prog Rp a w:=by
 have S:=ls.ps f;refine wp_region_lit ?_;(refine aj S (nV rfl) fun _ _ _ S=>?_);(refine aj S (xw rfl rfl rfl (congrArg (Value.int .i64) (show IntKind.i64.wrap ((k:Int)+1)=((k+1:Nat):Int) by rw[IntKind.wrap_i64];omega))) fun _ _ _ S=>?_);(refine aj S (JJ rfl) fun _ _ _ S=>?_);refine h_ ?_;exact kk _ _ (S.ls tv) S.W.bel
theorem wr16_b{w:World}{s0:Bool}{n cap:Nat}(E:TO w)(ls:LS 267 [(18,.int .i64 (k:Int)),(1,Pt b0),(3,Pt q3),(4,Pt q4),(5,vi),(6,vj),(7,Pt q7),(8,Pt q8),(9,vl)] a)(I:w.heap[q3]? =some (.cells #[.bool s0,g1,g2,h1,h2] 34 (0,0)))(hq:h1= .slice (some ⟨q,0,none⟩) n cap)(C:k<n)(M:n≤1000000)(y:w.heap[q]? =some (.cells cur 49))(l:cur.toList[k]? =some (.int .u64 (c:Int)))(H:c<18446744073709551616)
 (kk:∀(f:Act) (w':World),LS 267 [(18,.int .i64 (k:Int)),(1,Pt b0),(3,Pt q3),(4,Pt q4),(5,vi),(6,vj),(7,Pt q7),(8,Pt q8),(9,vl)] f→Below w.heap.size w w'→Rp .normal f (w'.setCell ⟨q,k,none⟩ (.int .u64 ((c/5+2:Nat):Int)))):(qb (q1 (q2 (ql (qb (q2 (q1 (qd 16 (qf Tryz.f3))))))))).wp Tryz.prog Rp a w:=by
 subst hq
 have S:=ls.ps E
 have o3:=nJ (L:=[Value.bool s0,g1,g2,.slice (some ⟨q,0,none⟩) n cap,h2]) I
 have z:=nJ (L:=cur.toList) (by simpa using y)
 have u:(cur.toList.map Δ.k)[0+((k:Int)).toNat*1]? =some (.k (.int .u64 (c:Int))):=by
  rw[show 0+((k:Int)).toNat*1=k from om,iU,l];rfl
 refine gU 11 [_,_,_,_,_,_,_,_,_,_,_] [_,_,_,_,_,_,_,_,_,_,_] [[(3,none)],[(209,some 0)],[(18,none)],[(3,none)],[(212,some 3)],[(18,none)],[(213,some 4),(214,some 5)],[(215,some 6)],[(216,some 7)],[(217,some 8)],[(210,some 1),(211,some 2)]] rfl S aN kf kf kf ⟨d_ (off:=3) rfl kf,pI o3 rfl kf kf rfl,nV rfl,d_ (off:=3) rfl kf,pI o3 rfl kf kf rfl,nV rfl,Og (s:=1) rfl rfl kf ⟨om,om⟩,pI (d:= .k (.int .u64 (c:Int))) z rfl kf kf u,ok_qu (m:=5) rfl rfl dc H,xw rfl rfl rfl (congrArg (Value.int .u64) (show IntKind.u64.wrap (((c/5:Nat):Int)+2)=((c/5+2:Nat):Int) by rw[IntKind.wrap_u64];omega)),Og (s:=1) rfl rfl kf ⟨om,om⟩,trivial⟩ ?_
 intro γ' f w' S
 have N:f.tmps.getD 218 undef= .int .u64 ((c/5+2:Nat):Int):=S.env 218 (.k (.int .u64 ((c/5+2:Nat):Int))) rfl
 have J:f.tmps.getD 219 undef= .pointer (some ⟨q,k,none⟩):=by
  have:=S.env 219 (.k (.pointer (some ⟨q,0+((k:Int)).toNat*1,none⟩))) rfl;rw[show 0+((k:Int)).toNat*1=k from om]at this;exact this
 have A:=S.W.bel
 have hl:q<w.heap.size:=(pW.1 y).1
 have g:=(A.block q hl).trans y
 have j:=S.ls (K:=[(18,.int .i64 (k:Int)),(1,Pt b0),(3,Pt q3),(4,Pt q4),(5,vi),(6,vj),(7,Pt q7),(8,Pt q8),(9,vl)]) tv
 have G:w'.cell? ⟨q,k,none⟩=some (.int .u64 (c:Int)):=by
  rw[cell_of_row w' q k cur _ (0,0) (by simpa using g),←pX];exact l
 have F:w'.frozen? ⟨q,k,none⟩=false:=by simp[World.frozen?,g]
 clear S o3 z u
 replace kk:=pu kk
 have hz:=j.sz
 have gA:=gJ f
 simp only[List.drop_succ_cons,List.drop_zero]
 go_wp2
 exact kk.down _ w' j A
theorem wr17_c{w:World}{y1 z0 z1 v e1:Value}{s0 s1:Bool}(m:TO w)(ls:LS 267 [(19,.int .i64 (k:Int)),(1,Pt b0),(3,Pt q3),(4,Pt q4),(5,vi),(6,vj),(7,Pt q7),(8,Pt q8),(9,vl)] a)(y:CS w (Xa h1 h2) b0 x1 x2 y1 y2 z0 z1 z2 u v e1 e2 e3 lv e4 s0 s1 s3 s4 A0 D0 A1 D1 A3 A4 l)(hl:D0.length≤1000000)
 (j:k<D0.length→∀(f:Act) (w':World),LS 267 [(19,.int .i64 (k:Int)),(1,Pt b0),(3,Pt q3),(4,Pt q4),(5,vi),(6,vj),(7,Pt q7),(8,Pt q8),(9,vl)] f→Below w.heap.size w w'→Rp .normal f w') (g:¬k<D0.length→∀(f:Act) (w':World),LS 267 [(19,.int .i64 (k:Int)),(1,Pt b0),(3,Pt q3),(4,Pt q4),(5,vi),(6,vj),(7,Pt q7),(8,Pt q8),(9,vl)] f→Below w.heap.size w w'→Rp (.exit 6) f w'):(q1 (ql (qb (q2 (q1 (qd 17 (qf Tryz.f3))))))).wp Tryz.prog Rp a w:=by
 have S:=ls.ps m
 have ol:=Ro y
 by_cases hk:k<D0.length
 ·refine wp_seq (wp_region_lit ?_);(refine aj S (nV rfl) fun _ _ _ S=>?_);(refine aj S (d_ (off:=0) rfl kf) fun _ _ _ S=>?_);(refine aj S (d_ (off:=2) rfl kf) fun _ _ _ S=>?_);(refine aj S (pI ol rfl kf kf rfl) fun _ _ _ S=>?_);(refine aj S (D5 rfl rfl kf) fun _ _ _ S=>?_);(refine aj S (xw rfl rfl rfl (congrArg Value.bool (cO om))) fun _ _ _ S=>?_);refine h_ ?_;have c:_=Value.bool true:=S.env 225 (.k (.bool true)) rfl;refine wp_cond_true c (wp_skip ?_);exact j hk _ _ (S.ls tv) S.W.bel
 ·refine wp_seq (wp_region_lit ?_);(refine aj S (nV rfl) fun _ _ _ S=>?_);(refine aj S (d_ (off:=0) rfl kf) fun _ _ _ S=>?_);(refine aj S (d_ (off:=2) rfl kf) fun _ _ _ S=>?_);(refine aj S (pI ol rfl kf kf rfl) fun _ _ _ S=>?_);(refine aj S (D5 rfl rfl kf) fun _ _ _ S=>?_);(refine aj S (xw rfl rfl rfl (congrArg Value.bool (aZ om))) fun _ _ _ S=>?_);refine h_ ?_;have c:_=Value.bool false:=S.env 225 (.k (.bool false)) rfl;refine wp_cond_false c ?_;refine wp_exit ?_;exact g hk _ _ (S.ls tv) S.W.bel
theorem wr17_s{w:World}(f:TO w)(ls:LS 267 [(19,.int .i64 (k:Int)),(1,Pt b0),(3,Pt q3),(4,Pt q4),(5,vi),(6,vj),(7,Pt q7),(8,Pt q8),(9,vl)] a)(g:k≤1000000)(kk:∀(c:Act) (w':World),LS 267 [(19,.int .i64 ((k+1:Nat):Int)),(1,Pt b0),(3,Pt q3),(4,Pt q4),(5,vi),(6,vj),(7,Pt q7),(8,Pt q8),(9,vl)] c→Below w.heap.size w w'→Rp .normal c w'):(q2 (q2 (ql (qb (q2 (q1 (qd 17 (qf Tryz.f3)))))))).wp Tryz.prog Rp a w:=by
 have S:=ls.ps f;refine wp_region_lit ?_;(refine aj S (nV rfl) fun _ _ _ S=>?_);(refine aj S (xw rfl rfl rfl (congrArg (Value.int .i64) (show IntKind.i64.wrap ((k:Int)+1)=((k+1:Nat):Int) by rw[IntKind.wrap_i64];omega))) fun _ _ _ S=>?_);(refine aj S (JJ rfl) fun _ _ _ S=>?_);refine h_ ?_;exact kk _ _ (S.ls tv) S.W.bel
theorem wr17_b{w:World}{s0:Bool}{n cap:Nat}(E:TO w)(ls:LS 267 [(19,.int .i64 (k:Int)),(1,Pt b0),(3,Pt q3),(4,Pt q4),(5,vi),(6,vj),(7,Pt q7),(8,Pt q8),(9,vl)] a)(I:w.heap[q3]? =some (.cells #[.bool s0,g1,g2,h1,h2] 34 (0,0)))(hq:h2= .slice (some ⟨q,0,none⟩) n cap)(C:k<n)(M:n≤1000000)(y:w.heap[q]? =some (.cells cur 49))(l:cur.toList[k]? =some (.int .u64 (c:Int)))(H:c<18446744073709551616)
 (kk:∀(f:Act) (w':World),LS 267 [(19,.int .i64 (k:Int)),(1,Pt b0),(3,Pt q3),(4,Pt q4),(5,vi),(6,vj),(7,Pt q7),(8,Pt q8),(9,vl)] f→Below w.heap.size w w'→Rp .normal f (w'.setCell ⟨q,k,none⟩ (.int .u64 ((c/3+1:Nat):Int)))):(qb (q1 (q2 (ql (qb (q2 (q1 (qd 17 (qf Tryz.f3))))))))).wp Tryz.prog Rp a w:=by
 subst hq
 have S:=ls.ps E
 have o3:=nJ (L:=[Value.bool s0,g1,g2,h1,.slice (some ⟨q,0,none⟩) n cap]) I
 have z:=nJ (L:=cur.toList) (by simpa using y)
 have u:(cur.toList.map Δ.k)[0+((k:Int)).toNat*1]? =some (.k (.int .u64 (c:Int))):=by
  rw[show 0+((k:Int)).toNat*1=k from om,iU,l];rfl
 refine gU 11 [_,_,_,_,_,_,_,_,_,_,_] [_,_,_,_,_,_,_,_,_,_,_] [[(3,none)],[(228,some 0)],[(19,none)],[(3,none)],[(231,some 3)],[(19,none)],[(232,some 4),(233,some 5)],[(234,some 6)],[(235,some 7)],[(236,some 8)],[(229,some 1),(230,some 2)]] rfl S aN kf kf kf ⟨d_ (off:=4) rfl kf,pI o3 rfl kf kf rfl,nV rfl,d_ (off:=4) rfl kf,pI o3 rfl kf kf rfl,nV rfl,Og (s:=1) rfl rfl kf ⟨om,om⟩,pI (d:= .k (.int .u64 (c:Int))) z rfl kf kf u,ok_qu (m:=3) rfl rfl dc H,xw rfl rfl rfl (congrArg (Value.int .u64) (show IntKind.u64.wrap (((c/3:Nat):Int)+1)=((c/3+1:Nat):Int) by rw[IntKind.wrap_u64];omega)),Og (s:=1) rfl rfl kf ⟨om,om⟩,trivial⟩ ?_
 intro γ' f w' S
 have N:f.tmps.getD 237 undef= .int .u64 ((c/3+1:Nat):Int):=S.env 237 (.k (.int .u64 ((c/3+1:Nat):Int))) rfl
 have J:f.tmps.getD 238 undef= .pointer (some ⟨q,k,none⟩):=by
  have:=S.env 238 (.k (.pointer (some ⟨q,0+((k:Int)).toNat*1,none⟩))) rfl;rw[show 0+((k:Int)).toNat*1=k from om]at this;exact this
 have A:=S.W.bel
 have hl:q<w.heap.size:=(pW.1 y).1
 have g:=(A.block q hl).trans y
 have j:=S.ls (K:=[(19,.int .i64 (k:Int)),(1,Pt b0),(3,Pt q3),(4,Pt q4),(5,vi),(6,vj),(7,Pt q7),(8,Pt q8),(9,vl)]) tv
 have G:w'.cell? ⟨q,k,none⟩=some (.int .u64 (c:Int)):=by
  rw[cell_of_row w' q k cur _ (0,0) (by simpa using g),←pX];exact l
 have F:w'.frozen? ⟨q,k,none⟩=false:=by simp[World.frozen?,g]
 clear S o3 z u
 replace kk:=pu kk
 have hz:=j.sz
 have gA:=gJ f
 simp only[List.drop_succ_cons,List.drop_zero]
 go_wp2
 exact kk.down _ w' j A
end
section
open Go Go.RowKit Go.Proofs Ab
variable{wE:World}{a:Act}{Rp:Exit→Act→World→Prop}{b0 q3 q4 q7 q8:Nat}{x1 x2 y2 z2 u e2 e3 lv e4 vi vj vl g1 g2 h1 h2:Value}{s3 s4:Bool}{A0 D0 A1 D1 A3 A4:List Nat}{l:List (Bool×List Nat×List Nat)}
theorem law_E16{w:World}{y1 z0 z1 v e1:Value}{s0 s1:Bool}{D:List Nat}(hjE:TO wE)(OU:Below wE.heap.size wE w)(hXE:∀q,Xa h1 h2 q→wE.heap.size≤q)(ls:LS 267 [(1,Pt b0),(3,Pt q3),(4,Pt q4),(5,vi),(6,vj),(7,Pt q7),(8,Pt q8),(9,vl)] a)(hc:CS w (Xa h1 h2) b0 x1 x2 y1 y2 z0 z1 z2 u v e1 e2 e3 lv e4 s0 s1 s3 s4 A0 D0 A1 D1 A3 A4 l)(h3:w.heap[q3]? =some (.cells #[.bool s0,g1,g2,h1,h2] 34 (0,0)))(n3:¬Xa h1 h2 q3)(ho:OA w g1 g2 h1 h2 A0 D)(wd:Wd A0)(la:A0.length≤12)
 (kk:∀(Q:Act) (w':World),LS 267 [(1,Pt b0),(3,Pt q3),(4,Pt q4),(5,vi),(6,vj),(7,Pt q7),(8,Pt q8),(9,vl)] Q→bT w (Xa h1 h2) w'→OA w' g1 g2 h1 h2 (A0.map (fun c=>c/5+2)) D→Rp .normal Q w'):(q1 (qd 16 (qf Tryz.f3))).wp Tryz.prog Rp a w:=by
 have hTE:∀wr,bT w (Xa h1 h2) wr→TO wr:=fun wr h=>hjE.up ⟨h.os.trans OU.os,h.tape.trans OU.tape,h.output.trans OU.output,bK OU.size h.size,fun q hq=>(h.block q (eu hq OU.size) fun I=>by have:=hXE q I;omega).trans (OU.block q hq)⟩
 have hXl:∀q,Xa h1 h2 q→q<w.heap.size:=ho.lt
 have S:=ls.ps (hTE w (bT.refl _ _))
 refine ET ?_
 refine aj S (JJ rfl) fun γ a1 w1 S=>?_
 refine h_ ?_
 have P:=S.W.bel
 have ls1:=S.ls (K:=[(18,.int .i64 ((0:Nat):Int)),(1,Pt b0),(3,Pt q3),(4,Pt q4),(5,vi),(6,vj),(7,Pt q7),(8,Pt q8),(9,vl)]) tv
 clear S
 refine wp_block ?_
 refine oD (fun m Q wr=>∃k,k+m=A0.length∧LS 267 [(18,.int .i64 (k:Int)),(1,Pt b0),(3,Pt q3),(4,Pt q4),(5,vi),(6,vj),(7,Pt q7),(8,Pt q8),(9,vl)] Q∧bT w (Xa h1 h2) wr∧OA wr g1 g2 h1 h2 ((A0.take k).map (fun c=>c/5+2)++A0.drop k) D) A0.length ⟨0,om,ls1,jY P,?_⟩ ?_
 ·have:=ho.keep (w':=w1) fun q hq=>P.block q (hXl q hq)
  simpa using this
 ·rintro m Q wr ⟨k,hkm,U,hb,F⟩;have hsz:=hb.size;have hcr:CS wr (Xa h1 h2) b0 x1 x2 y1 y2 z0 z1 z2 u v e1 e2 e3 lv e4 s0 s1 s3 s4 A0 D0 A1 D1 A3 A4 l:=hc.keep hsz (fun q hq I=>hb.block q hq I) fun q I=> .inl I
  have h3l:q3<w.heap.size:=(pW.1 h3).1;refine wp_seq ?_;refine wr16_c (hTE wr hb) U hcr om (fun L a2 C H A=>?_) (fun L a2 C H A=>?_)
  ·have z:bT w (Xa h1 h2) C:=Ab.bT.two hb (jY (E:=fun _=>False) A) fun q hq=>hq.elim
   have j:=F.keep (w':=C) fun q hq=>A.block q (F.lt q hq)
   have h32:C.heap[q3]? =some (.cells #[.bool s0,g1,g2,h1,h2] 34 (0,0)):=(z.block q3 h3l n3).trans h3;have hrow:=j.rh1;obtain⟨q,hq⟩:=ob_at hrow (by rw[bZ];simp);obtain⟨cap,hv⟩:=Bh hrow hq;have G:(((A0.take k).map (fun c=>c/5+2)++A0.drop k)++[71,72]).length=A0.length+2:=by rw[bZ,take_len om];rfl
   have hx0:=hrow;obtain⟨cur,hcur,htk⟩:∃cur:Array Value,C.heap[q]? =some (.cells cur 49)∧cur.toList.take (((A0.take k).map (fun c=>c/5+2)++A0.drop k)++[71,72]).length=Wv (((A0.take k).map (fun c=>c/5+2)++A0.drop k)++[71,72]):=by
    rcases hx0.2 with ⟨h,h0⟩|⟨g,cap',cur,h,_,h4,_,_,_,h5⟩
    ·rw[G]at h0;omega
    ·rw[hv]at h;cases h;exact⟨cur,h4,by rw[aO]at h5;exact h5⟩
   have hcu:cur.toList[k]? =some (.int .u64 ((A0.getD k 0:Nat):Int)):=by
    have h6:=congrArg (fun l=>l[k]?) htk;simp only[ou,Wv,iU]at h6;rw[au (by rw[G];omega),uO (by rw[take_len om];exact L),OC L]at h6;exact h6
   have hcB:A0.getD k 0<18446744073709551616:=fV wd k;refine wp_seq (wp_block ?_);refine wr16_b (hTE C z) H h32 hv (n:=(((A0.take k).map (fun c=>c/5+2)++A0.drop k)++[71,72]).length) (by rw[G];omega) (by rw[G];omega) hcur hcu hcB fun a3 T Z O=>?_
   have J:=j.keep (w':=T) fun q hq=>O.block q (j.lt q hq)
   have y:=J.set1 (c:=A0.getD k 0/5+2) hq (k:=k) (by rw[take_len om];exact L);rw[take_set (f:=fun c=>c/5+2) L]at y;have hb3:bT w (Xa h1 h2) T:=Ab.bT.two z (jY (E:=fun _=>False) O) fun q hq=>hq.elim
   have M:bT w (Xa h1 h2) (T.setCell ⟨q,k,none⟩ (.int .u64 ((A0.getD k 0/5+2:Nat):Int))):=hb3.set (.inl (.inl hq));refine wr16_s (hTE _ M) Z om fun a4 w4 Y N=>?_
   exact⟨A0.length-(k+1),om,k+1,om,Y,Ab.bT.two M (jY (E:=fun _=>False) N) fun q hq=>hq.elim,y.keep fun q hq=>N.block q (y.lt q hq)⟩
  ·obtain rfl:k=A0.length:=om;have z:bT w (Xa h1 h2) C:=Ab.bT.two hb (jY (E:=fun _=>False) A) fun q hq=>hq.elim
   have j:=F.keep (w':=C) fun q hq=>A.block q (F.lt q hq)
   rw[iH,List.drop_length,qF]at j;exact kk a2 C (H.sub fun p hp=> .tail _ hp) z j
theorem law_E17{w:World}{y1 z0 z1 v e1:Value}{s0 s1:Bool}{A:List Nat}(hjE:TO wE)(OU:Below wE.heap.size wE w)(hXE:∀q,Xa h1 h2 q→wE.heap.size≤q)(ls:LS 267 [(1,Pt b0),(3,Pt q3),(4,Pt q4),(5,vi),(6,vj),(7,Pt q7),(8,Pt q8),(9,vl)] a)(hc:CS w (Xa h1 h2) b0 x1 x2 y1 y2 z0 z1 z2 u v e1 e2 e3 lv e4 s0 s1 s3 s4 A0 D0 A1 D1 A3 A4 l)(h3:w.heap[q3]? =some (.cells #[.bool s0,g1,g2,h1,h2] 34 (0,0)))(n3:¬Xa h1 h2 q3)(ho:OA w g1 g2 h1 h2 A D0)(wd:Wd D0)(la:D0.length≤12)
 (kk:∀(T:Act) (w':World),LS 267 [(1,Pt b0),(3,Pt q3),(4,Pt q4),(5,vi),(6,vj),(7,Pt q7),(8,Pt q8),(9,vl)] T→bT w (Xa h1 h2) w'→OA w' g1 g2 h1 h2 A (D0.map (fun c=>c/3+1))→Rp .normal T w'):(q1 (qd 17 (qf Tryz.f3))).wp Tryz.prog Rp a w:=by
 have hTE:∀wr,bT w (Xa h1 h2) wr→TO wr:=fun wr h=>hjE.up ⟨h.os.trans OU.os,h.tape.trans OU.tape,h.output.trans OU.output,bK OU.size h.size,fun q hq=>(h.block q (eu hq OU.size) fun J=>by have:=hXE q J;omega).trans (OU.block q hq)⟩
 have hXl:∀q,Xa h1 h2 q→q<w.heap.size:=ho.lt
 have S:=ls.ps (hTE w (bT.refl _ _))
 refine ET ?_
 refine aj S (JJ rfl) fun γ a1 w1 S=>?_
 refine h_ ?_
 have Q:=S.W.bel
 have ls1:=S.ls (K:=[(19,.int .i64 ((0:Nat):Int)),(1,Pt b0),(3,Pt q3),(4,Pt q4),(5,vi),(6,vj),(7,Pt q7),(8,Pt q8),(9,vl)]) tv
 clear S
 refine wp_block ?_
 refine oD (fun m T wr=>∃k,k+m=D0.length∧LS 267 [(19,.int .i64 (k:Int)),(1,Pt b0),(3,Pt q3),(4,Pt q4),(5,vi),(6,vj),(7,Pt q7),(8,Pt q8),(9,vl)] T∧bT w (Xa h1 h2) wr∧OA wr g1 g2 h1 h2 A ((D0.take k).map (fun c=>c/3+1)++D0.drop k)) D0.length ⟨0,om,ls1,jY Q,?_⟩ ?_
 ·have:=ho.keep (w':=w1) fun q hq=>Q.block q (hXl q hq)
  simpa using this
 ·rintro m T wr ⟨k,hkm,Y,hb,G⟩;have hsz:=hb.size;have hcr:CS wr (Xa h1 h2) b0 x1 x2 y1 y2 z0 z1 z2 u v e1 e2 e3 lv e4 s0 s1 s3 s4 A0 D0 A1 D1 A3 A4 l:=hc.keep hsz (fun q hq J=>hb.block q hq J) fun q J=> .inl J
  have h3l:q3<w.heap.size:=(pW.1 h3).1;refine wp_seq ?_;refine wr17_c (hTE wr hb) Y hcr om (fun M a2 F I C=>?_) (fun M a2 F I C=>?_)
  ·have z:bT w (Xa h1 h2) F:=Ab.bT.two hb (jY (E:=fun _=>False) C) fun q hq=>hq.elim
   have j:=G.keep (w':=F) fun q hq=>C.block q (G.lt q hq)
   have h32:F.heap[q3]? =some (.cells #[.bool s0,g1,g2,h1,h2] 34 (0,0)):=(z.block q3 h3l n3).trans h3;have hrow:=j.rh2;obtain⟨q,hq⟩:=ob_at hrow (by rw[bZ];simp);obtain⟨cap,hv⟩:=Bh hrow hq;have H:(((D0.take k).map (fun c=>c/3+1)++D0.drop k)++[71,72]).length=D0.length+2:=by rw[bZ,take_len om];rfl
   have hx0:=hrow;obtain⟨cur,hcur,htk⟩:∃cur:Array Value,F.heap[q]? =some (.cells cur 49)∧cur.toList.take (((D0.take k).map (fun c=>c/3+1)++D0.drop k)++[71,72]).length=Wv (((D0.take k).map (fun c=>c/3+1)++D0.drop k)++[71,72]):=by
    rcases hx0.2 with ⟨h,h0⟩|⟨g,cap',cur,h,_,h4,_,_,_,h5⟩
    ·rw[H]at h0;omega
    ·rw[hv]at h;cases h;exact⟨cur,h4,by rw[aO]at h5;exact h5⟩
   have hcu:cur.toList[k]? =some (.int .u64 ((D0.getD k 0:Nat):Int)):=by
    have h6:=congrArg (fun l=>l[k]?) htk;simp only[ou,Wv,iU]at h6;rw[au (by rw[H];omega),uO (by rw[take_len om];exact M),OC M]at h6;exact h6
   have hcB:D0.getD k 0<18446744073709551616:=fV wd k;refine wp_seq (wp_block ?_);refine wr17_b (hTE F z) I h32 hv (n:=(((D0.take k).map (fun c=>c/3+1)++D0.drop k)++[71,72]).length) (by rw[H];omega) (by rw[H];omega) hcur hcu hcB fun a3 U ls3 P=>?_
   have L:=j.keep (w':=U) fun q hq=>P.block q (j.lt q hq)
   have y:=L.set2 (c:=D0.getD k 0/3+1) hq (k:=k) (by rw[take_len om];exact M);rw[take_set (f:=fun c=>c/3+1) M]at y;have hb3:bT w (Xa h1 h2) U:=Ab.bT.two z (jY (E:=fun _=>False) P) fun q hq=>hq.elim
   have N:bT w (Xa h1 h2) (U.setCell ⟨q,k,none⟩ (.int .u64 ((D0.getD k 0/3+1:Nat):Int))):=hb3.set (.inl (.inr hq));refine wr17_s (hTE _ N) ls3 om fun a4 w4 Z O=>?_
   exact⟨D0.length-(k+1),om,k+1,om,Z,Ab.bT.two N (jY (E:=fun _=>False) O) fun q hq=>hq.elim,y.keep fun q hq=>O.block q (y.lt q hq)⟩
  ·obtain rfl:k=D0.length:=om;have z:bT w (Xa h1 h2) F:=Ab.bT.two hb (jY (E:=fun _=>False) C) fun q hq=>hq.elim
   have j:=G.keep (w':=F) fun q hq=>C.block q (G.lt q hq)
   rw[iH,List.drop_length,qF]at j;exact kk a2 F (I.sub fun p hp=> .tail _ hp) z j
end
section
open Go Go.RowKit Go.Proofs Ab
variable{w0:World}{ac:Act}{Rp:Exit→Act→World→Prop}{b0 q3 q4 q7 q8 VT:Nat}{vi vj vl g1 g2 h1 h2:Value}{A A1 D1 A3 A4:List Nat}{s3 s4:Bool}{l RK:List (Bool×List Nat×List Nat)}{IK:List (Bool×List Nat)}{M:List Int}
theorem st_35{s0:Bool}{D:List Nat}(G:TO w0)(ls:LS 267 [(1,Pt b0),(3,Pt q3),(4,Pt q4),(5,vi),(6,vj),(7,Pt q7),(8,Pt q8),(9,vl)] ac)(H:w0.heap[q3]? =some (.cells #[.bool s0,g1,g2,h1,h2] 34 (0,0)))(c:OA w0 g1 g2 h1 h2 A D)(E:A.length≤1000000000)(ld:D.length≤1000000000)
 (next:∀(y:Act) (w':World) (VT:Nat) (n1 n2:Value),LS 267 [(20,Pt VT),(1,Pt b0),(3,Pt q3),(4,Pt q4),(5,vi),(6,vj),(7,Pt q7),(8,Pt q8),(9,vl)] y→Below w0.heap.size w0 w'→w'.heap[VT]? =some (.cells #[.bool s0,n1,n2] 27 (0,0))→Rep0 w' (fun q=>q<w'.heap.size) n1 (.l 1 (W A))→Rep0 w' (fun q=>q<w'.heap.size) n2 (.l 1 (W D))→(qd 19 (qf Tryz.f3)).wp Tryz.prog Rp y w'):(qd 18 (qf Tryz.f3)).wp Tryz.prog Rp ac w0:=by
 have S:=ls.ps G
 have o3:Old w0 q3 [.k (.bool s0),.rd A,.rd D,.rd (A++[71,72]),.rd (D++[71,72])]:=⟨_,_,H,fun γ w' F f=>⟨rfl,CJ f (kM c.rg1),CJ f (kM c.rg2),CJ f (kM c.rh1),CJ f (kM c.rh2),trivial⟩⟩
 refine ET ?_
 refine aj S (d_ (off:=0) rfl kf) fun _ _ _ S=>?_
 refine aj S (iG rfl o3 rfl) fun _ _ _ S=>?_
 refine aj S (pf (d:= .g [.k (.bool s0),.rd A,.rd D]) (lc_spec s0 A D E ld)) fun _ _ _ S=>?_
 refine aj S (al_q) fun _ _ _ S=>?_
 refine Tz S rfl rfl rfl kf rfl rfl rfl ?_
 clear S;intro a1 z S
 refine h_ ?_
 obtain⟨VT,hβ,u⟩:=S.env 20 _ rfl
 obtain⟨j,xs,hβ',hq,hl⟩:=S.box 3 _ rfl
 obtain rfl:VT=j:=dS (hβ.symm.trans hβ')
 match xs,hl with
 |[y0,n1,n2],⟨e0,⟨H1,C,r1⟩,⟨H2,t2,r2⟩,_⟩=>
  have e0:y0= .bool s0:=e0;subst e0;have a:LS 267 [(1,Pt b0),(3,Pt q3),(4,Pt q4),(5,vi),(6,vj),(7,Pt q7),(8,Pt q8),(9,vl)] a1:=S.ls tv;refine next a1 z VT n1 n2 ⟨a.sz,a.df,fun p m=>?_⟩ S.W.bel hq (r1.mono (fun q h=>(C q h).1) fun _ _=>rfl) (r2.mono (fun q h=>(t2 q h).1) fun _ _=>rfl)
  rcases dZ.1 m with rfl|m
  ·exact u
  ·exact a.kp p m
theorem st_36{X:Nat→Prop}{k1 k2 m1 m2 ui uj:Value}{s0 s1:Bool}{D:List Nat}(j:TO w0)(ls:LS 267 [(20,Pt VT),(1,Pt b0),(3,Pt q3),(4,Pt q4),(5,vi),(6,vj),(7,Pt q7),(8,Pt q8),(9,vl)] ac)(c:LF w0 X q3 q4 q7 q8 vi vj g1 g2 h1 h2 k1 k2 m1 m2 ui uj s0 s1 s3 s4 A1 D1 A3 A4)(m:OA w0 g1 g2 h1 h2 A D)(hl:Rep0 w0 (fun q=>q<w0.heap.size∧¬X q) vl (.l 3 (RC l)))(hb:BT s0 s1 s3 s4 A D A1 D1 A3 A4 l RK IK M)
 (next:∀(g:Act) (w':World) (q b:Nat) (f a vm:Value) (R:List TQ) (I:List TZ),LS 267 [(21,Pt q),(20,Pt VT),(1,Pt b0),(3,Pt q3),(4,Pt q4),(5,vi),(6,vj),(7,Pt q7),(8,Pt q8),(9,vl)] g→Below w0.heap.size w0 w'→w'.heap[q]? =some (.cells #[f,a,vm] 41 (0,0))→w0.heap.size≤q→AD true w0 w' b f a vm R I RK IK M→(qd 20 (qf Tryz.f3)).wp Tryz.prog Rp g w'):(qd 19 (qf Tryz.f3)).wp Tryz.prog Rp ac w0:=by
 have S:=ls.ps j
 have o3:=nJ (L:=[Value.bool s0,g1,g2,h1,h2]) c.b3
 have C:=nJ (L:=[Value.bool s1,k1,k2,m1,m2]) c.b4
 have z:=nJ (L:=[Value.bool s3,ui]) c.b7
 have y:=nJ (L:=[Value.bool s4,uj]) c.b8
 refine ET ?_
 refine aj S (d_ (off:=0) rfl kf) fun _ _ _ S=>?_
 refine aj S (iG rfl o3 rfl) fun _ _ _ S=>?_
 refine aj S (d_ (off:=0) rfl kf) fun _ _ _ S=>?_
 refine aj S (iG rfl C rfl) fun _ _ _ S=>?_
 refine aj S (Bz rfl z rfl) fun _ _ _ S=>?_
 refine aj S (Bz rfl y rfl) fun _ _ _ S=>?_
 refine aj S (nV rfl) fun _ _ _ S=>?_
 have el:_=vl:=S.env 248 (.k vl) rfl
 refine Ai (K:=[(20,Pt VT),(1,Pt b0),(3,Pt q3),(4,Pt q4),(5,vi),(6,vj),(7,Pt q7),(8,Pt q8),(9,vl)]) S j tv tv rfl rfl rfl kf (by simp only[dI,fJ,bU,S.agg (t:=243) (L:=[.bool s0,g1,g2]) rfl,S.agg (t:=245) (L:=[.bool s1,k1,k2]) rfl,S.agg (t:=246) (L:=[.bool s3,ui]) rfl,S.agg (t:=247) (L:=[.bool s4,uj]) rfl,el]) (hb.ask _ _ _ _ _ _ _ _ (j.up S.W.bel) (rO S.W.bel (kM m.rg1)) (rO S.W.bel (kM m.rg2)) (uJ S.W.bel c.rk1) (uJ S.W.bel c.rk2) (uJ S.W.bel c.rui) (uJ S.W.bel c.ruj) (uJ S.W.bel hl)) ?_
 intro g w' q b f a vm R I h1 h2 G H F
 have u:=S.W.bel
 have E:=u.size
 exact next g w' q b f a vm R I h1 (dB u h2) G om (F.base E)
theorem st_37{X:Nat→Prop}{Qe:Ending→World→Prop}{x1 x2 y1 y2 z0 z1 z2 u v e1 e2 e3 lv e4:Value}{s0 s1:Bool}{A0 D0:List Nat}{D:List Nat}{z:Nat}{n1 n2 F j vm:Value}(J:TO w0)(ls:LS 267 [(21,Pt z),(20,Pt VT),(1,Pt b0),(3,Pt q3),(4,Pt q4),(5,vi),(6,vj),(7,Pt q7),(8,Pt q8),(9,vl)] ac)(m:CS w0 X b0 x1 x2 y1 y2 z0 z1 z2 u v e1 e2 e3 lv e4 s0 s1 s3 s4 A0 D0 A1 D1 A3 A4 l)(T:w0.heap[q3]? =some (.cells #[.bool s0,g1,g2,h1,h2] 34 (0,0)))(G:OA w0 g1 g2 h1 h2 A D)(Q:A.length≤1000000)(ld:D.length≤1000000)(y:w0.heap[VT]? =some (.cells #[.bool s0,n1,n2] 27 (0,0)))(rn1:Rep0 w0 (fun q=>q<w0.heap.size) n1 (.l 1 (W A)))(C:Rep0 w0 (fun q=>q<w0.heap.size) n2 (.l 1 (W D)))(E:w0.heap[z]? =some (.cells #[F,j,vm] 41 (0,0)))(I:Rep0 w0 (fun q=>q<w0.heap.size) (.agg #[F,j,vm]) (SV RK IK M))(hb:BT s0 s1 s3 s4 A D A1 D1 A3 A4 l RK IK M)
 (fin:∀w',Below w0.heap.size w0 w'→Qe (.returned (.bool true)) w'):(qd 20 (qf Tryz.f3)).wp Tryz.prog (bodyPost Tryz.prog Tryz.f3 Qe) ac w0:=by
 have c1:=CQ hb.lR hb.lI hb.lM hb.bR hb.bI
 have P:=yV s0 A D Q ld
 have lY:∀(a:Act) (w:World),Below w0.heap.size w0 w→TO w:=fun a w h=>J.up h
 have f:∀(_:Option Tmp) (a:Act) (w:World) (x:Value) (w':World),Below w0.heap.size w0 w→Below w.heap.size w w'→Below w0.heap.size w0 w':=fun _ _ _ _ _ h hb=>dB h hb
 refine wp_seq (Rt (M:=0) (N:=267) true (nK [(21,Pt z),(20,Pt VT),(1,Pt b0),(3,Pt q3),(4,Pt q4),(5,vi),(6,vj),(7,Pt q7),(8,Pt q8),(9,vl)]) [_,_,_,_,_,_,_,_,_,_,_,_,_,_,_,_,_,_] [none,none,none,none,none,none,none,none,none,none,none,none,none,none,none,none,none,none] [[(21,none)],[(20,none)],[(1,none)],[(252,some 2)],[(1,none)],[(254,some 4)],[(1,none)],[(256,some 6)],[(1,none)],[(258,some 8)],[(251,some 1),(253,some 3),(255,some 5),(257,some 7),(259,some 9)],[(250,some 0),(260,some 10)],[(261,some 11)],[(3,none)],[(20,none)],[(263,some 13),(264,some 14)],[(262,some 12),(265,some 15)],[(266,some 16)]] (fun _ _ w=>Below w0.heap.size w0 w) ls.sz ls.df ls.nE (fun w' _ h=>h) aN kf kf kf kf kf (.inl rfl) ⟨fun _=>bf (lY) (f none) (fun a w c=>nH (n:=3) (jL (L:=[F,j,vm]) E c) rfl kf kf rfl) (.inr ⟨[F,j,vm],rfl,rfl⟩),fun _=>bf (lY) (f none) (fun a w c=>nH (n:=3) (jL (L:=[Value.bool s0,n1,n2]) y c) rfl kf kf rfl) (.inr ⟨[Value.bool s0,n1,n2],rfl,rfl⟩),fun _=>bf (lY) (f none) (fun a w c=>d_ (off:=3) rfl kf) (.inl rfl),fun _=>bf (lY) (f none) (fun a w c=>nH (n:=3) (jL (L:=[Value.bool s0,x1,x2,.bool s1,y1,y2,z0,z1,z2,.bool s3,u,.bool s4,v,e1,e2,e3,lv,e4]) m.bx c) rfl kf kf rfl) (.inr ⟨[.bool s1,y1,y2],rfl,rfl⟩),fun _=>bf (lY) (f none) (fun a w c=>d_ (off:=9) rfl kf) (.inl rfl),fun _=>bf (lY) (f none) (fun a w c=>nH (n:=2) (jL (L:=[Value.bool s0,x1,x2,.bool s1,y1,y2,z0,z1,z2,.bool s3,u,.bool s4,v,e1,e2,e3,lv,e4]) m.bx c) rfl kf kf rfl) (.inr ⟨[.bool s3,u],rfl,rfl⟩),fun _=>bf (lY) (f none) (fun a w c=>d_ (off:=11) rfl kf) (.inl rfl),fun _=>bf (lY) (f none) (fun a w c=>nH (n:=2) (jL (L:=[Value.bool s0,x1,x2,.bool s1,y1,y2,z0,z1,z2,.bool s3,u,.bool s4,v,e1,e2,e3,lv,e4]) m.bx c) rfl kf kf rfl) (.inr ⟨[.bool s4,v],rfl,rfl⟩),fun _=>bf (lY) (f none) (fun a w c=>d_ (off:=16) rfl kf) (.inl rfl),fun _=>bf (lY) (f none) (fun a w c=>pI (jL (L:=[Value.bool s0,x1,x2,.bool s1,y1,y2,z0,z1,z2,.bool s3,u,.bool s4,v,e1,e2,e3,lv,e4]) m.bx c) rfl kf kf rfl) (.inl rfl),fun _=>Ru (d:= .r (SV RK IK M)) (f none) kf (fun a w hz g c=>by
  have e1:a.tmps.getD 251 undef=_:=g 251 _ rfl;have e2:a.tmps.getD 253 undef=_:=g 253 _ rfl;have e3:a.tmps.getD 255 undef=_:=g 255 _ rfl;have e4:a.tmps.getD 257 undef=_:=g 257 _ rfl;have U:a.tmps.getD 259 undef=_:=g 259 _ rfl;simp only[dI,fJ,bU];rw[e1,e2,e3,e4,U];exact(hb.wan _ _ _ _ _ _ _ _ (J.up c) (rO c rn1) (rO c C) (uJ c m.r3) (uJ c m.r4) (uJ c m.r5) (uJ c m.r6) (uJ c m.rl)).mono fun e w' h=>h.out (by rw[hb.lR];decide) (by rw[hb.lI];decide) (by rw[hb.lM];decide)),fun _=>yX lY (f none) c1 kf (fun a w g c=>by
  have e1:a.tmps.getD 250 undef=_:=g 250 _ rfl;have e2:Rep0 w (fun q=>q<w.heap.size) (a.tmps.getD 260 undef) _:=g 260 _ rfl;simp only[dI,fJ,bU];rw[e1];exact N9 (rO c I) e2),fun _=>bf (lY) (f none) (fun a w c=>nV rfl) (.inl rfl),fun _=>bf (lY) (f none) (fun a w c=>nH (n:=5) (jL (L:=[Value.bool s0,g1,g2,h1,h2]) T c) rfl kf kf rfl) (.inr ⟨[Value.bool s0,g1,g2,h1,h2],rfl,rfl⟩),fun _=>bf (lY) (f none) (fun a w c=>nH (n:=3) (jL (L:=[Value.bool s0,n1,n2]) y c) rfl kf kf rfl) (.inr ⟨[Value.bool s0,n1,n2],rfl,rfl⟩),fun _=>yX lY (f none) P kf (fun a w g c=>by
  have e1:a.tmps.getD 263 undef=_:=g 263 _ rfl;have e2:a.tmps.getD 264 undef=_:=g 264 _ rfl;simp only[dI,fJ,bU];rw[e1,e2];exact N9 (IX (rO c (kM G.rg1)) (rO c (kM G.rg2)) (rO c (kM G.rh1)) (rO c (kM G.rh2))) (LZ (rO c rn1) (rO c C))),fun _=>bf (lY) (f none) (fun a w c=>Fh rfl rfl rfl) (.inl rfl),fun _=>bf (lY) (f none) (fun a w c=>JJ rfl) (.inl rfl),trivial⟩ ?_)
 intro Y w' q1 q2 _ H O
 have e2:Y.tmps.getD 2 undef= .bool true:=H 17 _ 2 _ rfl rfl rfl
 exact wp_ret ⟨q2,_,results_tmp rfl _ _ _,by rw[e2];exact fin w' O⟩
end
section
open Go Go.RowKit Go.Proofs Ab
variable{w' w0 wE:World}{ac:Act}{b0 q3 q4 q7 q8:Nat}{x1 x2 y2 z2 u e2 e3 lv e4 vi vj vl g1 g2 h1 h2 m1 m2 ui uj:Value}{s3 s4:Bool}{A0 D0 A1 D1 A3 A4 A:List Nat}{l RK:List (Bool×List Nat×List Nat)}{IK:List (Bool×List Nat)}{M:List Int}
theorem rkp{w:World}{X:Nat→Prop}{x:Value}{V:V}(a:w.heap.size≤w'.heap.size)(hb:∀q,q<w.heap.size→¬X q→w'.heap[q]? =w.heap[q]?)(h:Rep0 w (fun q=>q<w.heap.size∧¬X q) x V):Rep0 w' (fun q=>q<w'.heap.size∧¬X q) x V:=h.mono (fun q hq=>⟨om,hq.2⟩) fun q hq=>hb q hq.1 hq.2
theorem hkp{w:World}{q:Nat}{o:Obj}(hb:Below w.heap.size w w')(h:w.heap[q]? =some o):w'.heap[q]? =some o:=(hb.block q (pW.1 h).1).trans h
variable{Qe:Ending→World→Prop}
theorem law_Z1{X:Nat→Prop}{y1 z0 z1 v e1:Value}{s0 s1:Bool}{D:List Nat}{k1 k2:Value}(C:TO w0)(ls:LS 267 [(1,Pt b0),(3,Pt q3),(4,Pt q4),(5,vi),(6,vj),(7,Pt q7),(8,Pt q8),(9,vl)] ac)(O:CS w0 X b0 x1 x2 y1 y2 z0 z1 z2 u v e1 e2 e3 lv e4 s0 s1 s3 s4 A0 D0 A1 D1 A3 A4 l)(E:LF w0 X q3 q4 q7 q8 vi vj g1 g2 h1 h2 k1 k2 m1 m2 ui uj s0 s1 s3 s4 A1 D1 A3 A4)(g:OA w0 g1 g2 h1 h2 A D)(hl:Rep0 w0 (fun q=>q<w0.heap.size∧¬X q) vl (.l 3 (RC l)))(hb:BT s0 s1 s3 s4 A D A1 D1 A3 A4 l RK IK M)(N:A.length≤1000000)(ld:D.length≤1000000)
 (fin:∀w',Below w0.heap.size w0 w'→Qe (.returned (.bool true)) w'):(qd 18 (qf Tryz.f3)).wp Tryz.prog (bodyPost Tryz.prog Tryz.f3 Qe) ac w0:=by
 refine st_35 C ls E.b3 g om om fun a1 Q VT n1 n2 y a G rn1 j=>?_
 refine st_36 (X:=X) (C.up a) y (E.keep a.size (fun q hq _=>a.block q hq) fun q z=> .inl z) (g.keep fun q hq=>a.block q (g.lt q hq)) (rkp a.size (fun q hq _=>a.block q hq) hl) hb fun U P L b T J vm R I m c F _ H=>?_
 have f:=dB a c
 exact st_37 (X:=X) (C.up f) m (O.keep f.size (fun q hq _=>f.block q hq) fun q z=> .inl z) (hkp f E.b3) (g.keep fun q hq=>f.block q (g.lt q hq)) N ld (hkp c G) (rO c rn1) (rO c j) F (H.rep (by rw[hb.lR];decide) (by rw[hb.lI];decide) (by rw[hb.lM];decide)) hb fun w' h=>fin w' (dB f h)
theorem Uc(f:Nat→Nat)(g:∀c,c<18446744073709551616→f c<18446744073709551616)(h:Wd A):Wd (A.map f):=fun x a=>by
 obtain⟨c,j,rfl⟩:=eG.1 a;exact g c (h c j)
theorem AD.len{w:World}{b:Nat}{g vm:Value}{R:List TQ}{I:List TZ}(h:AD true w0 w b g vi vm R I RK IK M)(j:∀p,p∈RK→p.2.1.length≤1000000∧p.2.2.length≤1000000)(l:∀p,p∈IK→p.2.length≤1000000):∀p,p∈rls R++Fz I→p.2.length≤1000000:=fun p a=>by
 rcases nC.1 a with a|a
 ·obtain⟨r,c,f⟩:=nN.1 a;have:=j _ (h.eR▸eG.2 ⟨r,c,rfl⟩);rcases dZ.1 f with rfl|f
  ·exact this.1
  ·rw[l_.1 f];exact this.2
 ·obtain⟨r,c,rfl⟩:=eG.1 a;exact l _ (h.eI▸eG.2 ⟨r,c,rfl⟩)
theorem TJ_X{w:World}{X:Nat→Prop}(c:TO wE)(hb:Below wE.heap.size wE w)(f:∀q,X q→wE.heap.size≤q):TJ w fun q=>q<w.heap.size∧¬X q:=TJ.mono c (fun q hq=>⟨eu hq hb.size,fun a=>absurd (f q a) (Nat.not_le.2 hq)⟩) fun q hq=>hb.block q hq
theorem belX{w:World}{X:Nat→Prop}(h:Below wE.heap.size wE w)(c:∀q,X q→wE.heap.size≤q)(hb:bT w X w'):Below wE.heap.size wE w':=⟨hb.os.trans h.os,hb.tape.trans h.tape,hb.output.trans h.output,bK h.size hb.size,fun q hq=>(hb.block q (eu hq h.size) fun a=>absurd (c q a) (Nat.not_le.2 hq)).trans (h.block q hq)⟩
theorem law_Z2{w:World}{y1 z0 z1 v e1:Value}{s0 s1:Bool}{vp k1 k2:Value}(hjE:TO wE)(OU:Below wE.heap.size wE w)(hXE:∀q,Xa h1 h2 q→wE.heap.size≤q)(ls:LS 267 [(1,Pt b0),(3,Pt q3),(4,Pt q4),(5,vi),(6,vj),(7,Pt q7),(8,Pt q8),(9,vl),(10,vp)] ac)(hc:CS w (Xa h1 h2) b0 x1 x2 y1 y2 z0 z1 z2 u v e1 e2 e3 lv e4 s0 s1 s3 s4 A0 D0 A1 D1 A3 A4 l)(hf:LF w (Xa h1 h2) q3 q4 q7 q8 vi vj g1 g2 h1 h2 k1 k2 m1 m2 ui uj s0 s1 s3 s4 A1 D1 A3 A4)(ho:OA w g1 g2 h1 h2 A0 D0)(hl:Rep0 w (fun q=>q<w.heap.size∧¬Xa h1 h2 q) vl (.l 3 (RC l)))(F:Rep0 w (fun q=>q<w.heap.size∧¬Xa h1 h2 q) vp (.l 5 (PC l)))
 (wa0:Wd A0) (wd0:Wd D0) (wa1:Wd A1) (wd1:Wd D1) (wa3:Wd A3) (wa4:Wd A4) (O:A0.length≤12) (N:D0.length≤12) (la1:A1.length≤12) (ld1:D1.length≤12) (la3:A3.length≤12) (la4:A4.length≤12) (ll:l.length≤30) (hL:LOk l)
 (fin:∀w',Below wE.heap.size wE w'→Qe (.returned (.bool true)) w'):(qd 9 (qf Tryz.f3)).wp Tryz.prog (bodyPost Tryz.prog Tryz.f3 Qe) ac w:=by
 obtain⟨RK,IK,M,hb⟩:=bt_ex s0 s1 s3 s4 wa0 wd0 wa1 wd1 wa3 wa4 O N la1 ld1 la3 la4 ll hL
 obtain⟨RK2,IK2,M2,z⟩:=bt_ex s1 s0 s4 s3 wa1 wd1 wa0 wd0 wa4 wa3 la1 ld1 O N la4 la3 ll hL
 obtain⟨RK3,IK3,M3,hb3⟩:=bt_ex s0 s1 s3 s4 (Uc (fun c=>c/5+2) (fun c h=>by show c/5+2<_;omega) wa0) (Uc (fun c=>c/3+1) (fun c h=>by show c/3+1<_;omega) wd0) wa1 wd1 wa3 wa4 (by rw[iJ];exact O) (by rw[iJ];exact N) la1 ld1 la3 la4 ll hL
 have hL':∀p,p∈l→p.2.1.length≤1000000∧p.2.2.length≤1000000:=fun p F=>⟨bK (hL p F).2.2.1 dc,bK (hL p F).2.2.2 dc⟩
 have hj:TO w:=hjE.up OU
 refine st_14 (g1:=g1) (g2:=g2) (h1:=h1) (h2:=h2) (k1:=k1) (k2:=k2) (m1:=m1) (m2:=m2) (ui:=ui) (uj:=uj) hj ls hc hb fun a1 w1 q13 b13 vr13 vi13 vm13 R13 I13 ls1 y h13 _ d13=>?_
 have hc1:=hc.keep (X':=Xa h1 h2) y.size (fun q hq _=>y.block q hq) fun q f=> .inl f
 have hf1:=hf.keep (X':=Xa h1 h2) y.size (fun q hq _=>y.block q hq) fun q f=> .inl f
 have G:=ho.keep (w':=w1) fun q hq=>y.block q (ho.lt q hq)
 have hl1:=rkp y.size (fun q hq _=>y.block q hq) hl
 have hp1:=rkp y.size (fun q hq _=>y.block q hq) F
 have hj1:=hj.up y
 have hBE1:=dB OU y
 refine st_15 (x1:=x1) (x2:=x2) (y1:=y1) (y2:=y2) (z0:=z0) (z1:=z1) (z2:=z2) (u:=u) (v:=v) (e1:=e1) (e2:=e2) (e3:=e3) (lv:=lv) (e4:=e4) hj1 ls1 hf1 G hl1 hb fun a2 w2 Jf b14 vr14 vi14 vm14 U yu ls2 I h14 _ d14=>?_
 refine st_16 (x1:=x1) (x2:=x2) (y1:=y1) (y2:=y2) (z0:=z0) (z1:=z1) (z2:=z2) (u:=u) (v:=v) (e1:=e1) (e2:=e2) (e3:=e3) (lv:=lv) (e4:=e4) (X:=Xa h1 h2) (hj1.up I) ls2 (hf1.keep I.size (fun q hq _=>I.block q hq) fun q f=> .inl f) (G.keep fun q hq=>I.block q (G.lt q hq)) (rkp I.size (fun q hq _=>I.block q hq) hl1) z fun a3 w3 q15 b15 vr15 vi15 vm15 T Z ls3 hB3 h15 _ d15=>?_
 have j:=dB I hB3
 refine st_17 (x1:=x1) (x2:=x2) (y1:=y1) (y2:=y2) (z0:=z0) (z1:=z1) (z2:=z2) (u:=u) (v:=v) (e1:=e1) (e2:=e2) (e3:=e3) (lv:=lv) (e4:=e4) (X:=Xa h1 h2) (hj1.up j) ls3 (hf1.keep j.size (fun q hq _=>j.block q hq) fun q f=> .inl f) (G.keep fun q hq=>j.block q (G.lt q hq)) (rkp j.size (fun q hq _=>j.block q hq) hl1) hb fun a4 w4 q16 b16 vr16 vi16 vm16 Q Y ls4 P h16 _ d16=>?_
 have E:=dB j P
 have hB24:=dB hB3 P
 have n1:∀{a:Nat},a=12→a≤1000:=fun h=>om
 have n2:∀{a:Nat},a=2→a≤1000:=fun h=>om
 have n3:∀{a:Nat},a=26→a≤1000:=fun h=>om
 have d14':=d14.below hB24
 have d15':=d15.below P
 refine st_18 (hj1.up E) ls4 (hc1.keep E.size (fun q hq _=>E.block q hq) fun q f=> .inl f) hb z (hkp E h13) (hkp hB24 h14) (hkp P h15) h16 ((d13.below E).rep (n1 hb.lR) (n2 hb.lI) (n3 hb.lM)) (d14'.rep (n1 hb.lR) (n2 hb.lI) (n3 hb.lM)) (d15'.rep (n1 z.lR) (n2 z.lI) (n3 z.lM)) (d16.rep (n1 hb.lR) (n2 hb.lI) (n3 hb.lM)) fun a5 w5 ls5 H=>?_
 have hB15:=dB E H
 have cC:Cl w1 w5 (((rls U++Fz yu)++(rls T++Fz Z))++(rls Q++Fz Y)):=((((d14.fm).1.step I.size hB3 (d15.fm).1).step j.size P (d16.fm).1)).below H
 have em:(((rls U++Fz yu)++(rls T++Fz Z))++(rls Q++Fz Y)).map (fun p=>p.1)=dm U yu++dm T Z++dm Q Y:=by simp only[dm,w_]
 have hE:∀q,Eb (dm U yu++dm T Z++dm Q Y) q→w1.heap.size≤q:=fun q ⟨v,hv,hq⟩=>by
  rw[←em]at hv;obtain⟨p,F,rfl⟩:=eG.1 hv;exact(cC.lt F hq).1
 have hap:ZW (dm U yu++dm T Z++dm Q Y):=em▸cC.apt
 have hrow:∀v,v∈(dm U yu++dm T Z++dm Q Y)→∃A,A.length≤1000000∧Rw w5 v A:=fun v hv=>by
  rw[←em]at hv;obtain⟨p,F,rfl⟩:=eG.1 hv;obtain⟨m,_,hm⟩:=cC.own p F;refine⟨p.2,?_,FB hm⟩;rcases nC.1 F with F|F
  ·rcases nC.1 F with F|F
   ·exact d14.len hb.bR hb.bI p F
   ·exact d15.len z.bR z.bI p F
  ·exact d16.len hb.bR hb.bI p F
 have m6:∀{a:Nat},a≤12→a≤1000000:=fun h=>om
 refine st_20 hj1 ls5 hB15 hc1 hf1 G (m6 O) (m6 N) (m6 la1) (m6 ld1) (m6 la3) (m6 la4) hb.lR hb.lI hb.lM z.lR z.lI z.lM (hkp (dB hB24 H) h14) (d14'.below H) (hkp (dB P H) h15) (d15'.below H) (hkp H h16) (d16.below H) hE hap hrow fun a6 w6 ls6 hE6=>?_
 have C:=belX hB15 hE hE6
 refine law_D (X:=Xa h1 h2) (ls6.sub fun p F=> .tail _ (.tail _ (.tail _ (.tail _ F)))) (TJ_X hjE (dB hBE1 C) hXE) (hc1.keep C.size (fun q hq _=>C.block q hq) fun q f=> .inl f) (rkp C.size (fun q hq _=>C.block q hq) hp1) ll hL' fun a7 w7 ls7 hB7=>?_
 have g:=dB C hB7
 have hc7:=hc1.keep (X':=Xa h1 h2) g.size (fun q hq _=>g.block q hq) fun q f=> .inl f
 have hf7:=hf1.keep (X':=Xa h1 h2) g.size (fun q hq _=>g.block q hq) fun q f=> .inl f
 have ho7:=G.keep (w':=w7) fun q hq=>g.block q (G.lt q hq)
 have hl7:=rkp g.size (fun q hq _=>g.block q hq) hl1
 have hBE7:=dB hBE1 g
 refine wp_seq (law_E16 hjE hBE7 hXE ls7 hc7 hf7.b3 hf7.n3 ho7 wa0 O fun a8 w8 ls8 L ho8=>?_)
 have hc8:=hc7.keep (X':=Xa h1 h2) L.size (fun q hq f=>L.block q hq f) fun q f=> .inl f
 have hf8:=hf7.keep (X':=Xa h1 h2) L.size (fun q hq f=>L.block q hq f) fun q f=> .inl f
 have hl8:=rkp L.size (fun q hq f=>L.block q hq f) hl7
 have hBE8:=belX hBE7 hXE L
 refine wp_seq (law_E17 hjE hBE8 hXE ls8 hc8 hf8.b3 hf8.n3 ho8 wd0 N fun a9 w9 ls9 J ho9=>?_)
 have hBE9:=belX hBE8 hXE J
 exact law_Z1 (hjE.up hBE9) ls9 (hc8.keep (X':=Xa h1 h2) J.size (fun q hq f=>J.block q hq f) fun q f=> .inl f) (hf8.keep (X':=Xa h1 h2) J.size (fun q hq f=>J.block q hq f) fun q f=> .inl f) ho9 (rkp J.size (fun q hq f=>J.block q hq f) hl8) hb3 (by rw[iJ];exact m6 O) (by rw[iJ];exact m6 N) fun w' h=>fin w' (dB hBE9 h)
theorem fewL_okX(h:∀p,p∈l→Wd p.2.1∧Wd p.2.2):LOk (KO l):=fun p a=>by
 obtain⟨q,hq,rfl⟩:=eG.1 a;have:=h q (List.mem_of_mem_take hq);exact⟨u_ this.1 12,u_ this.2 12,by show(q.2.1.take 12).length≤12;rw[jo];omega,by show(q.2.2.take 12).length≤12;rw[jo];omega⟩
theorem I4(s0 s1 s2 s3 s4:Bool)(a0 I a1 G a2 d2 a3 a4:List Nat)(n m k:Int)(l:List (Bool×List Nat×List Nat))(st:List UInt8)(P:Wd a0)(L:Wd I)(O:Wd a1)(J:Wd G)(N:Wd a3)(M:Wd a4)(hl:∀p,p∈l→Wd p.2.1∧Wd p.2.2):aT 3 [Ff s0 s1 s2 s3 s4 a0 I a1 G a2 d2 a3 a4 n m k l st] (.b true):=by
 refine .of0 rfl fun w H vs hJ hT hH hr=>?_
 obtain⟨hr0,Z⟩:=hr;obtain⟨x,rfl⟩:∃x,vs=[x]:=by
  match vs,hr0 with
  |[x],_=>exact⟨x,rfl⟩
 have hj:TO w:=TJ.mono hT (fun q hq=>hH q hq) fun _ _=>rfl
 have c:∀a:List Nat,(a.take 12).length≤12:=fun a=>by rw[jo];omega
 have z:∀a:List Nat,(a.take 12).length≤1000000:=fun a=>by have:=c a;omega
 have lo:=fewL_okX hl;have ll:(KO l).length≤30:=by rw[KO,iJ,jo];omega
 refine(law_A (Q:=fun e w'=>e= .returned (.bool true)∧Below w.heap.size w w') hj hH (Z 0 x _ rfl rfl) fun a w3 b0 x1 x2 y1 y2 z0 z1 z2 u v e1 e2 e3 lv e4 Y F E=>?_).mono fun e w' ⟨h2,h3⟩=>⟨_,h2,h3,fun _=>False,fun _ h=>h.elim,.inl (.b true)⟩
 have y:=hj.up F;refine law_B y Y E (z a0) (z I) (z a1) (z G) (z a3) (z a4) fun a4' w4 q3 q4 q7 q8 vi vj g1 g2 h1 h2 k1 k2 m1 m2 ui uj U g hf4 j hX=>?_
 have C:=E.keep (X':=Xa h1 h2) g.size (fun q hq _=>g.block q hq) fun q A=> .inr (hX q A)
 refine law_C U (TJ_X y g hX) j.lt C ll (fun p hp=>⟨bK (lo p hp).2.2.1 dc,bK (lo p hp).2.2.2 dc⟩) fun a5 w5 vl vp T f hl5 hp5=>?_
 exact law_Z2 y (dB g f) hX T (C.keep f.size (fun q hq _=>f.block q hq) fun q A=> .inl A) (hf4.keep f.size (fun q hq _=>f.block q hq) fun q A=> .inl A) (j.keep fun q hq=>f.block q (j.lt q hq)) hl5 hp5 (u_ P 12) (u_ L 12) (u_ O 12) (u_ J 12) (u_ N 12) (u_ M 12) (c a0) (c I) (c a1) (c G) (c a3) (c a4) ll lo fun w' h=>⟨rfl,dB F h⟩
end
section
open Go Go.RowKit Ab
theorem laid_var{P:Program}{w:World}{n:String}{d:DataW Unit}:∀{l:List (String×DataW Unit)} {ps:List MemPlace},DataW.LaidVars P w l ps→(n,d)∈l→
 ∃g t cs fuel p,P.globalNamed n=some g∧(P.globals[g]?).map (·.type)=some t∧w.var? P n=some cs∧DataW.trod (fun _=>()) P w 0 (fun _=>true) false fuel t cs.toList=some (d,p)
 |[],ps,_,h=>by cases h
 |(m,e)::r,ps,h,a=>by
  obtain⟨g,t,cs,fuel,p,q,h1,h2,j,f,c,_⟩:=h;rcases dZ.1 a with e1|a
  ·cases e1;exact⟨g,t,cs,fuel,p,h1,h2,j,f⟩
  ·exact laid_var c a
variable{l:List (String×DataW Unit)}
theorem laid_tab{P:Program}{W:World}{name:String}{k:IntKind}{zs:List Int}{g:Nat}{t e:TypeId}{n:Nat}
 (u:P.globalNamed name=some g) (c:(P.globals[g]?).map (·.type)=some t) (ht:P.underlying t=some (.array n e)) (he:P.underlying e=some (.int k)) (C:P.cellsOf e=1) (y:P.cellsOf t=n)
 (h:laidMet P l W) (hm:(name,Lib.tabData k zs)∈l) (hz:zs≠[]):
 g<W.heap.size∧∀(j:Nat) (x:V),(zs.map fun n=>V.i k n)[j]? =some x→∃v,W.cell? ⟨g,j,none⟩=some v∧Rep0 W (fun b=>b<W.heap.size) v x:=by
 obtain⟨ps,h1,_⟩:=h
 obtain⟨L,t',cs,fuel,p,m,f,hvar,H⟩:=laid_var h1 hm
 obtain rfl:=dS (u.symm.trans m)
 obtain rfl:=dS (c.symm.trans f)
 have A:=Lib.cells_of_tab ht he C y H
 have htab:Lib.TabIs P W name k zs:=by
  unfold Lib.TabIs;rw[hvar,←A]
 refine⟨?_,fun j x F=>?_⟩
 ·have J:=htab.cell u 0 (yD.2 hz);rcases dW g W.heap.size with E|E
  ·exact E
  ·have I:W.heap[g]? =none:=by simp[E]
   simp[World.cell?,I]at J
 ·simp only[iU,jT]at F;obtain⟨z,a,rfl⟩:=F;have G:j<zs.length:=(iR.1 a).1;refine⟨_,htab.cell u j G,?_⟩;rw[dN,a];exact .i _ _
theorem tj_laid{W:World}(h:laidMet Tryz.prog l W)(c:("surd/radix.signs",Lib.tabData .u8 tabi_0)∈l)(m1:("math/bits.deBruijn64tab",Lib.tabData .u8 tabi_1)∈l):TJ W (fun b=>b<W.heap.size):=fun g cs a=>by
 unfold tabs at a;by_cases h0:g=0
 ·subst h0;simp only[Nat.reduceEqDiff,if_true,if_false,fU]at a;subst a;exact laid_tab kf kf Tryz.underlying137 Tryz.underlying5 kf kf h c (by unfold tabi_0;exact List.cons_ne_nil _ _)
 by_cases h1:g=1
 ·subst h1;simp only[Nat.reduceEqDiff,if_true,if_false,fU]at a;subst a;exact laid_tab kf kf Tryz.underlying160 Tryz.underlying5 kf kf h m1 (by unfold tabi_1;exact List.cons_ne_nil _ _)
 simp only[h0,h1,if_false]at a;cases a
end
section
open Go Go.ChangeShapes Go.WideShapes Go.ChangeAt Go.RowKit Ab
def QSt10(Q1 Q2 Q3 Q4 Q5 Q6 Q7 Q8 Q9 Q10:List V→Nat→Prop)(xs:List V)(n:Nat):Prop:=
 ∃x1 x2 x3 x4 x5 x6 x7 x8 x9 x10 n1 n2 n3 n4 n5 n6 n7 n8 n9 n10,xs=x1++(x2++(x3++(x4++(x5++(x6++(x7++(x8++(x9++x10))))))))∧Q1 x1 n1∧Q2 x2 n2∧Q3 x3 n3∧Q4 x4 n4∧Q5 x5 n5∧Q6 x6 n6∧Q7 x7 n7∧Q8 x8 n8∧Q9 x9 n9∧Q10 x10 n10∧n=n1+n2+n3+n4+n5+n6+n7+n8+n9+n10+1
variable{H:Type}
theorem L8{P:Program}{enc:TypeId×Value→H}{w:World}{t:TypeId}{F E C A z y u m l f:Field}{Q1 Q2 Q3 Q4 Q5 Q6 Q7 Q8 Q9 G:List V→Nat→Prop}(ht:P.underlying t=some (.struct #[F,E,C,A,z,y,u,m,l,f]))(o1:F.offset=0)(o2:E.offset=3)(o3:C.offset=6)(o4:A.offset=9)(o5:z.offset=11)(o6:y.offset=13)(o7:u.offset=14)(o8:m.offset=15)(o9:l.offset=16)(M:f.offset=17)(c1:P.cellsOf F.type=3)(c2:P.cellsOf E.type=3)(c3:P.cellsOf C.type=3)(c4:P.cellsOf A.type=2)(c5:P.cellsOf z.type=2)(c6:P.cellsOf y.type=1)(c7:P.cellsOf u.type=1)(c8:P.cellsOf m.type=1)(c9:P.cellsOf l.type=1)(Q:P.cellsOf f.type=1)
 (hc:P.cellsOf t=18) (h1:mg enc P w F.type Q1) (h2:mg enc P w E.type Q2) (h3:mg enc P w C.type Q3) (h4:mg enc P w A.type Q4) (h5:mg enc P w z.type Q5) (h6:mg enc P w y.type Q6) (h7:mg enc P w u.type Q7) (h8:mg enc P w m.type Q8) (h9:mg enc P w l.type Q9) (O:mg enc P w f.type G):mg enc P w t (QSt10 Q1 Q2 Q3 Q4 Q5 Q6 Q7 Q8 Q9 G):=fun fuel cs d ps h c=>by
 obtain⟨xs,n,_,a,hl,hn,g⟩:=DataW.trod_struct ht h
 match xs,hn with
 |[⟨d1,p1⟩,⟨d2,p2⟩,⟨d3,p3⟩,⟨d4,p4⟩,⟨d5,p5⟩,⟨d6,p6⟩,⟨d7,p7⟩,⟨d8,p8⟩,⟨d9,p9⟩,⟨d10,p10⟩],_=>
  cases a;have g1:=g 0 F rfl;have g2:=g 1 E rfl;have g3:=g 2 C rfl;have g4:=g 3 A rfl;have g5:=g 4 z rfl;have Z:=g 5 y rfl;have Y:=g 6 u rfl;have U:=g 7 m rfl;have T:=g 8 l rfl;have j:=g 9 f rfl;simp only[o1,o2,o3,o4,o5,o6,o7,o8,o9,M,c1,c2,c3,c4,c5,c6,c7,c8,c9,Q,List.drop_zero,Jm,List.getElem?_cons_succ]at g1 g2 g3 g4 g5 Z Y U T j;obtain⟨x1,n1,q1,l1,r1⟩:=h1 _ _ _ _ g1 fun x a=>c x (by simp[a])
  obtain⟨x2,n2,q2,l2,r2⟩:=h2 _ _ _ _ g2 fun x a=>c x (by simp[a])
  obtain⟨x3,n3,q3,l3,r3⟩:=h3 _ _ _ _ g3 fun x a=>c x (by simp[a])
  obtain⟨x4,n4,q4,l4,r4⟩:=h4 _ _ _ _ g4 fun x a=>c x (by simp[a])
  obtain⟨x5,n5,q5,l5,r5⟩:=h5 _ _ _ _ g5 fun x a=>c x (by simp[a])
  obtain⟨x6,n6,q6,l6,r6⟩:=h6 _ _ _ _ Z fun x a=>c x (by simp[a])
  obtain⟨x7,n7,q7,l7,r7⟩:=h7 _ _ _ _ Y fun x a=>c x (by simp[a])
  obtain⟨x8,n8,q8,l8,r8⟩:=h8 _ _ _ _ U fun x a=>c x (by simp[a])
  obtain⟨x9,n9,q9,l9,r9⟩:=h9 _ _ _ _ T fun x a=>c x (by simp[a])
  obtain⟨I,N,L,l10,J⟩:=O _ _ _ _ j fun x a=>c x (by simp[a])
  refine⟨_,_,⟨x1,x2,x3,x4,x5,x6,x7,x8,x9,I,n1,n2,n3,n4,n5,n6,n7,n8,n9,N,rfl,q1,q2,q3,q4,q5,q6,q7,q8,q9,L,rfl⟩,by simp[Rows.uptoBulk,Rows.uptoBulkAll];omega,?_⟩;have e:cs=cs.take 3++((cs.drop 3).take 3++((cs.drop 6).take 3++((cs.drop 9).take 2++((cs.drop 11).take 2++((cs.drop 13).take 1++((cs.drop 14).take 1++((cs.drop 15).take 1++((cs.drop 16).take 1++(cs.drop 17).take 1)))))))):=by
   match cs,(by omega:cs.length=18)with
   |[a1,a2,a3,a4,a5,a6,a7,a8,a9,a10,a11,a12,a13,a14,a15,a16,a17,a18],_=>rfl
  rw[e];exact jV r1 (jV r2 (jV r3 (jV r4 (jV r5 (jV r6 (jV r7 (jV r8 (jV r9 J))))))))
abbrev Ry:List V→Nat→Prop:=QSt2 QZ QNat
theorem Bi{enc:TypeId×Value→H}{w:World}:mg enc Tryz.prog w 27 Ry:=
 BF (s1:=2) (s2:=1) Tryz.underlying27 rfl rfl kf kf kf KZ JC
theorem L9{xs:List V}{n:Nat}(h:Ry xs n):∃(s:Bool) (a d:List Nat),xs=[.b s,.l 1 (W a),.l 1 (W d)]∧Wd a∧Wd d∧a.length≤n∧d.length≤n:=by
 obtain⟨x1,x2,n1,n2,rfl,q1,q2,rfl⟩:=h;obtain⟨s,a,e1,c,g⟩:=QZ_L q1;obtain⟨d,rfl,wd,f⟩:=YC q2;have e:x1=[.b s,.l 1 (W a)]:=by injection e1
 exact⟨s,a,d,by rw[e];rfl,c,wd,om,om⟩
abbrev QRats:List V→Nat→Prop:=QSl 3 Ry
theorem Rz{enc:TypeId×Value→H}{w:World}:mg enc Tryz.prog w 28 QRats:=Fb Tryz.underlying28 kf dc Bi
theorem QRats_L{xs:List V}{n:Nat}(h:QRats xs n):∃l:List (Bool×List Nat×List Nat),xs=[.l 3 (RC l)]∧l.length≤n∧∀p,p∈l→Wd p.2.1∧Wd p.2.2∧p.2.1.length≤n∧p.2.2.length≤n:=by
 obtain⟨es,rfl,A,_,rfl⟩:=h;have key:∀es:List (List V×Nat),(∀p,p∈es→Ry p.1 p.2∧p.1.length=3)→∃l:List (Bool×List Nat×List Nat),(es.map (·.1)).flatten=RC l∧l.length≤(es.map (·.2)).sum∧∀p,p∈l→Wd p.2.1∧Wd p.2.2∧p.2.1.length≤(es.map (·.2)).sum∧p.2.2.length≤(es.map (·.2)).sum:=by
  intro es;induction es with
  |nil=>intro _;exact⟨[],rfl,aG _,fun z hz=>by cases hz⟩
  |cons p r u=>
   intro h;obtain⟨l,e,f,c⟩:=u fun q hq=>h q (jD _ hq)
   have hq:=(h p jM).1;have y:1≤p.2:=by obtain⟨_,_,_,_,_,_,_,E⟩:=hq;omega
   obtain⟨s,a,d,e0,m,wd,l1,C⟩:=L9 hq;refine⟨(s,a,d)::l,?_,?_,fun z hz=>?_⟩
   ·rw[dI,xx,e,e0];rfl
   ·simp only[dX,dI,List.sum_cons];omega
   ·simp only[dI,List.sum_cons];rcases dZ.1 hz with rfl|hz
    ·exact⟨m,wd,by simp only;omega,by simp only;omega⟩
    ·obtain⟨h1,h2,j,g⟩:=c z hz;exact⟨h1,h2,om,om⟩
 obtain⟨l,e,f,c⟩:=key es A;exact⟨l,by rw[e],Nat.le_succ_of_le f,fun p h=>by obtain⟨h1,h2,j,g⟩:=c p h;exact⟨h1,h2,Nat.le_succ_of_le j,Nat.le_succ_of_le g⟩⟩
end
section
open Go Go.ChangeShapes Go.WideShapes Go.ChangeAt Go.RowKit Ab
abbrev V3:List V→Nat→Prop:=QSt10 Ry Ry Ry QZ QZ (Vj .i64) (Vj .i64) (Vj .i64) QRats QStr
theorem OV{H:Type}{enc:TypeId×Value→H}{w:World}:mg enc Tryz.prog w 30 V3:=
 L8 Tryz.underlying30 rfl rfl rfl rfl rfl rfl rfl rfl rfl rfl kf kf kf kf kf kf kf kf kf kf kf
  Bi Bi Bi KZ KZ (AU Tryz.underlying3) (AU Tryz.underlying3) (AU Tryz.underlying3) Rz (KJ Tryz.underlying9)
structure QIs(a0 d0 a1 d1 a2 d2 a3 a4:List Nat)(n m k:Int)(l:List (Bool×List Nat×List Nat)):Prop where
 a0:Wd a0
 d0:Wd d0
 a1:Wd a1
 d1:Wd d1
 a2:Wd a2
 d2:Wd d2
 a3:Wd a3
 a4:Wd a4
 n1: -9223372036854775808≤n
 n2:n<9223372036854775808
 m1: -9223372036854775808≤m
 m2:m<9223372036854775808
 k1: -9223372036854775808≤k
 k2:k<9223372036854775808
 l:∀p,p∈l→Wd p.2.1∧Wd p.2.2
theorem QCase_L{xs:List V}{n:Nat}(h:V3 xs n):∃(s0 s1 s2 s3 s4:Bool) (a0 f a1 c j a a3 a4:List Nat) (i m k:Int) (l:List (Bool×List Nat×List Nat)) (st:List UInt8),
 V.g xs=Ff s0 s1 s2 s3 s4 a0 f a1 c j a a3 a4 i m k l st∧QIs a0 f a1 c j a a3 a4 i m k l:=by
 obtain⟨x1,x2,x3,x4,x5,x6,x7,Z,Y,P,n1,n2,n3,n4,n5,n6,n7,n8,n9,U,rfl,q1,q2,q3,q4,T,⟨i,rfl,z,_⟩,⟨m,rfl,u,_⟩,⟨k,rfl,y,_⟩,Q,⟨st,rfl,_⟩,_⟩:=h
 obtain⟨s0,a0,f,rfl,J,E,_⟩:=L9 q1
 obtain⟨s1,a1,c,rfl,I,C,_⟩:=L9 q2
 obtain⟨s2,j,a,rfl,H,A,_⟩:=L9 q3
 obtain⟨s3,a3,e3,G,_⟩:=QZ_L q4
 obtain⟨s4,a4,e4,F,_⟩:=QZ_L T
 obtain⟨l,rfl,_,hl⟩:=QRats_L Q
 injection e3 with e3
 injection e4 with e4
 subst e3 e4
 have O:=wf64 z
 have M:=wf64 u
 have N:=wf64 y
 exact⟨s0,s1,s2,s3,s4,a0,f,a1,c,j,a,a3,a4,i,m,k,l,st,rfl,J,E,I,C,H,A,G,F,O.1,O.2,M.1,M.2,N.1,N.2,fun p L=>⟨(hl p L).1,(hl p L).2.1⟩⟩
end
