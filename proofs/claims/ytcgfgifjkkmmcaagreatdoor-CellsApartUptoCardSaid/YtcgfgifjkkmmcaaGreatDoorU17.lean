import Derived.Laws.Rows
import Derived.Laws.ResultCell
import Derived.Test.YtcgfgifjkkmmcaaGreatDoorU16
set_option linter.all false
set_option maxHeartbeats 10000000
set_option maxRecDepth 2000000
namespace Go.Proofs.YtcgfgifjkkmmcaaGreatDoor
open Go Go.RowKit Go.Proofs Ab
theorem zA{a:Act}{w w':World}{A1 A2:List Nat}{f:Int}{v1 v2:Value}{n1 n2:Nat}(hd:a.defers=[])(h4:a.tmps.getD 4 undef=v1)(h5:a.tmps.getD 5 undef=v2)(h6:a.tmps.getD 6 undef= .int .i64 f)(hb:Below w.heap.size w w')(o1:w'.ownsRow w.heap.size 31 1 v1 n1 (Wv A1))(o2:w'.ownsRow w.heap.size 31 1 v2 n2 (Wv A2))(hs:∀q,v1.ownBlock=some q→v2.ownBlock≠some q):
 bodyPost Tryz.prog Tryz.f136 (Xp w A1 A2 f) .ret a w':=by
 refine⟨hd,_,aV (show bG Tryz.f136.results.toList=some [4,5,6]from rfl) _ _,v1,v2,n1,n2,?_,hb,o1,o2,hs⟩
 show Ending.returned (.tuple #[a.tmps.getD 4 undef,a.tmps.getD 5 undef,a.tmps.getD 6 undef])=_
 rw[h4,h5,h6]
theorem Ej{w:World}{va vb:Value}{a b:List Nat}{Ha:Nat→Prop}(gu:∀q,Ha q→q<w.heap.size)(hva:Rep0 w Ha va (.l 1 (W a)))(hvb:Rep0 w Ha vb (.l 1 (W b)))(ha:Wd a)(hb:Wd b)(la:a.length≤1000000000)(lb:b.length≤1000000000):
 Calls Tryz.prog 136 #[va,vb] w (Xp w (qQ (nv B a) (nv B b)) (qR (nv B a) (nv B b)) (qE (nv B b))):=by
 have hna:=mO a om
 have hnb:=mO b om
 have ta:(tz a).length≤1000000000:=Nat.le_trans (kZ a) la
 have tb:(tz b).length≤1000000000:=Nat.le_trans (kZ b) lb
 have wa:=oN ha
 have wb:=oN hb
 have va':nv B (tz a)=nv B a:=nT a
 have vb':nv B (tz b)=nv B b:=nT b
 have ea:=BQ a
 have eb:=BQ b
 rw[←va',←vb']
 generalize tz a=x at*
 generalize tz b=y at*
 clear va' vb'
 have hcm:=F6 x y wa wb om om
 have eDm:∀h1:nv B x<nv B y,dg B (nv B x%nv B y)=x:=fun h1=>by rw[Nat.mod_eq_of_lt h1,←yt B2 wa,ea]
 have eQ:∀h1:nv B x<nv B y,qQ (nv B x) (nv B y)=[]:=fun h1=>by unfold qQ;rw[Nat.div_eq_of_lt h1];rfl
 have wsp:=fun(hp:0<nv B y) (hlt:nv B y<18446744073709551616)=>wordO x (nv B y) wa hp hlt om
 have g1':y.length=1→y.getD 0 0=nv B y:=fun h=>WC (b:=y) h
 have yB:y.length=1→nv B y<18446744073709551616:=fun h=>by
  have:=bY wb;rw[h,Nat.pow_one]at this;exact this
 have tp:y≠[]→0<nv B y:=fun hy=>Nat.lt_of_lt_of_le (Nat.pow_pos dc) (qg (b:=B) eb hy)
 have kl:¬nv B x<nv B y→y≠[]→y.length≤x.length:=fun h1 hy=>by
  have htop:=qg (b:=B) eb hy;have:=bY wa;have h3:B^(y.length-1)<B^x.length:=om;have:=(Nat.pow_lt_pow_iff_right (by decide:1<B)).1 h3;omega
 have kt:y≠[]→2≤y.length→y.getD (y.length-1) 0≠0:=fun hy h2 h=>by
  have h4:=vJ y (y.length-1) om h;rw[show y.length-1+1=y.length from om,List.take_length,eb]at h4;have:=kZ (y.take (y.length-1));rw[←h4,List.length_take]at this;omega
 refine dm (vs:=[va,vb]) Tryz.func136 (c:=qf Tryz.f136) rfl (by show 2≤_;decide) fun a0 z0 e0 d0=>?_
 have i0:a0.tmps.getD 0 undef=va:=e0 0 (by show 0<2;decide)
 have i1:a0.tmps.getD 1 undef=vb:=e0 1 (by show 1<2;decide)
 change a0.tmps.size=51 at z0
 refine wp_seq ?_
 refine dq0 z0 fun a1 z1 s1 _ _ _ d1=>?_
 refine wp_seq ?_
 refine dq1 z1 ((s1 0 dc dc dc dc).trans i0) ((s1 1 dc dc dc dc).trans i1) (A1:=x) (A2:=y) (pO (vs:=[va]) hna gu (EM hva)) (fun w1 hB=>pO (vs:=[vb]) hnb (fun q h=>Nat.lt_of_lt_of_le (gu q h) hB.size) (EM (hvb.mono (fun _ h=>h) fun q h=>hB.block q (gu q h)))) fun a2 w1 w2 u0 u1 n0 n1 z2 s2 k0 k1 d2 B1 o0 m0 B2' o1 m1=>?_
 have B2:=bU B1 B2'
 have s1':=B1.size
 have s2':=B2'.size
 have o0':=aP o0 fun q hq=>B2'.block q (o0.lt q hq).2
 have o1':=dX o1 s1'
 have rx:∀w',Below w2.heap.size w2 w'→Rep0 w' (fun q=>q<w2.heap.size) u0 (.l 1 (W x)):=fun w' hB=>(wO o0' m0).mono (fun q h=>h) fun q h=>hB.block q h
 have ry:∀w',Below w2.heap.size w2 w'→Rep0 w' (fun q=>q<w2.heap.size) u1 (.l 1 (W y)):=fun w' hB=>(wO o1' m1).mono (fun q h=>h) fun q h=>hB.block q h
 have hs2:∀w',Below w2.heap.size w2 w'→∀q,q<w2.heap.size→q<w'.heap.size:=fun w' hB q hq=>Nat.lt_of_lt_of_le hq hB.size
 have hd2:a2.defers=[]:=d2.trans (d1.trans d0)
 have ln1:y.length=n1:=by have:=o1.1;simp only[Wv,List.length_map]at this;omega
 obtain⟨ua,uc,eu1⟩:=aT o1
 refine wp_seq ?_
 refine wp_block ?_
 refine wp_seq ?_
 by_cases hy:(n1:Int)=0
 ·have hy0:y=[]:=List.eq_nil_of_length_eq_zero om;refine dq2t z2 (k1.trans eu1) hy fun a3 z3 s3 k16 d3=>?_
  refine wp_cond_true k16 ?_;refine wp_seq ?_;refine dq3 z3 fun a4 z4 s4 h4 h5 h6 d4=>?_
  refine wp_ret ?_;rw[hy0,show nv B []=0 from rfl,qQ_0,qR_0,qE_0];exact zA (d4.trans (d3.trans hd2)) h4 h5 h6 B2 (mr _ _ _ _) (mr _ _ _ _) fun q hq=>by cases hq
 have hyn:y≠[]:=fun h=>hy (by rw[←ln1,h];rfl)
 have hp:=tp hyn
 rw[qE_p hp,qR_p hp]
 refine dq2f z2 (k1.trans eu1) hy fun a3 z3 s3 k16 d3=>?_
 refine wp_cond_false k16 ?_
 refine wp_seq ?_
 have hcc:=A8 (vs:=[u0,u1]) hcm (hs2 w2 (dE w2)) (NQ (rx w2 (dE w2)) (ry w2 (dE w2)))
 have k0':=(s3 0 dc).trans k0
 have k1':=(s3 1 dc).trans k1
 by_cases hlt:nv B x<nv B y
 ·have hs:sg (nv B x) (nv B y)<0:=by rw[YK];exact hlt
  refine dq4t z3 k0' k1' hcc hs fun a4 w4 z4 s4 k20 d4 B4=>?_
  refine wp_cond_true k20 ?_;refine wp_seq ?_;refine dq5 z4 ((s4 0 dc).trans k0') fun a5 z5 s5 h4 h5 h6 d5=>?_
  refine wp_ret ?_;rw[eQ hlt,eDm hlt];exact zA (d5.trans (d4.trans (d3.trans hd2))) h4 h5 h6 (bU B2 B4) (mr _ _ _ _) (aP o0' fun q hq=>B4.block q (o0'.lt q hq).2) fun q hq=>by cases hq
 have hs:¬sg (nv B x) (nv B y)<0:=fun h=>hlt (by rwa[YK]at h)
 refine dq4f z3 k0' k1' hcc hs fun a4 w4 z4 s4 k20 d4 B4=>?_
 refine wp_cond_false k20 ?_
 refine wp_seq ?_
 have k0'':=(s4 0 dc).trans k0'
 have SQ:=(s4 1 dc).trans k1'
 have s4':=B4.size
 by_cases h1:(n1:Int)=1
 ·obtain⟨p,c,ep⟩:=kT o1 om;have e1:n1=1:=om;subst e1;rw[ep]at SQ o1';refine dq6t z4 SQ h1 fun a5 z5 s5 k26 d5=>?_
  refine wp_cond_true k26 ?_;have o1w:=aP o1' fun q hq=>B4.block q (o1'.lt q hq).2
  have hx:w4.cell? ⟨p,0,none⟩=some (.int .u64 ((nv B y:Nat):Int)):=by
   rw[o1w.cellAt 0 dc,←g1' ln1];match y,ln1 with
   |[z],_=>rfl
  have hyB:=yB ln1;have hmod:nv B x%nv B y<18446744073709551616:=Nat.lt_trans (Nat.mod_lt _ hp) hyB;refine wp_seq ?_;refine dq7 z5 ((s5 0 dc).trans k0'') ((s5 1 dc).trans SQ) hx (XD (vs:=[u0,.int .u64 ((nv B y:Nat):Int)]) (wsp hp hyB) (fun w' H' v h=>(Rep.up (ov:=fun _=>none) h).bP) (fun w' H' v h=>(Rep.up (ov:=fun _=>none) h).bP) (hs2 w4 B4) (NQ (rx w4 B4) (.i _ _))) fun a6 w6 u7 n7 z6 s6 k7 k8 k9 d6 B6 o7 m7=>?_
  have s6':=B6.size;refine wp_seq ?_;refine dq8 z6 k7 k8 k9 (pO (vs:=[.int .u64 ((nv B x%nv B y:Nat):Int)]) (H:=fun _=>False) (nH (nv B x%nv B y) hmod) (fun _ h=>h.elim) (EM (.i _ _))) fun a7 w7 v8 n8 z7 s7 h4 h5 h6 d7 B7 o8 m8=>?_
  refine wp_ret ?_;have oF:=aP o7 fun q hq=>B7.block q (o7.lt q hq).2
  exact zA (d7.trans (d6.trans (d5.trans (d4.trans (d3.trans hd2))))) h4 h5 h6 (bU B2 (bU B4 (bU B6 B7))) (dX oF (by have:=B2.size;omega)) (dX o8 (by have:=B2.size;omega)) fun q hq hq2=>by
   have:=(o7.lt q hq).2;have:=(o8.lt q hq2).1;omega
 ·refine dq6f z4 (SQ.trans eu1) h1 fun a5 z5 s5 k26 d5=>?_
  refine wp_cond_false k26 ?_;refine wp_skip ?_;refine wp_seq ?_;have h2:2≤y.length:=om;refine dq9 z5 ((s5 0 dc).trans k0'') ((s5 1 dc).trans SQ) (NU (hs2 w4 B4) (rx w4 B4) (ry w4 B4) wa wb om h2 (kl hlt hyn) (kt hyn h2)) fun a6 w6 v1 v2 m1' m2' z6 s6 k10 k11 d6 B6 oA oB hs12=>?_
  refine wp_seq ?_;refine dq10 z6 k10 k11 fun a7 z7 s7 h4 h5 h6 d7=>?_
  refine wp_ret ?_;exact zA (d7.trans (d6.trans (d5.trans (d4.trans (d3.trans hd2))))) h4 h5 h6 (bU B2 (bU B4 B6)) (dX oA (by have:=B2.size;omega)) (dX oB (by have:=B2.size;omega)) hs12
section
variable {a:Act}{w:World}{R:Exit→Act→World→Prop}
theorem dm0(hz:a.tmps.size=18)
 (kk:∀(a':Act),kA a a' 18 4 []<|R .normal a' w):(q1 (qf Tryz.f146)).wp Tryz.prog R a w:=by
 replace kk:=pu kk
 refine rl fun gA=>?_
 go_wp2
 exact kk.down _ gZ gN rfl
theorem dm1{va vb:Value}{A1 A2:List Nat}{f:Int}(hz:a.tmps.size=18)(h0:a.tmps.getD 0 undef=va)(h1:a.tmps.getD 1 undef=vb)
 (c1:Calls Tryz.prog 136 #[va,vb] w (Xp w A1 A2 f))
 (kk:∀(a':Act) (w1:World) (v1 v2:Value) (n1 n2:Nat),kA a a' 18 4 [(6,v1),(7,v2),(8,.int .i64 f)]<|Below w.heap.size w w1→w1.ownsRow w.heap.size 31 1 v1 n1 (Wv A1)→w1.ownsRow w.heap.size 31 1 v2 n2 (Wv A2)→(∀q,v1.ownBlock=some q→v2.ownBlock≠some q)→R .normal a' w1):(q1 (qd 1 (qf Tryz.f146))).wp Tryz.prog R a w:=by
 replace kk:=pu kk
 refine rl fun gA=>?_
 go_wp2_with (go_at_call 136;refine(c1).mono ?_;rintro e w1 ⟨v1,v2,n1,n2,rfl,b1,o1,o2,s12⟩;obtain⟨ua,uc,rfl⟩:=aT o1;obtain⟨va,vc,rfl⟩:=aT o2)
 exact kk.down _ w1 _ _ n1 n2 gZ gN gS gS gS rfl b1 o1 o2 s12
theorem dx0(hz:a.tmps.size=25)
 (kk:∀(a':Act),kA a a' 25 4 []<|R .normal a' w):(q1 (qf Tryz.f109)).wp Tryz.prog R a w:=by
 replace kk:=pu kk
 refine rl fun gA=>?_
 go_wp2
 exact kk.down _ gZ gN rfl
theorem dx1{va vb:Value}{A1 A2:List Nat}{f:Int}(hz:a.tmps.size=25)(h0:a.tmps.getD 0 undef=va)(h1:a.tmps.getD 1 undef=vb)
 (c1:Calls Tryz.prog 136 #[va,vb] w (Xp w A1 A2 f))
 (kk:∀(a':Act) (w1:World) (v1 v2:Value) (n1 n2:Nat),kA a a' 25 4 [(6,v1),(7,v2),(8,.int .i64 f)]<|Below w.heap.size w w1→w1.ownsRow w.heap.size 31 1 v1 n1 (Wv A1)→w1.ownsRow w.heap.size 31 1 v2 n2 (Wv A2)→(∀q,v1.ownBlock=some q→v2.ownBlock≠some q)→R .normal a' w1):(q1 (qd 1 (qf Tryz.f109))).wp Tryz.prog R a w:=by
 replace kk:=pu kk
 refine rl fun gA=>?_
 go_wp2_with (go_at_call 136;refine(c1).mono ?_;rintro e w1 ⟨v1,v2,n1,n2,rfl,b1,o1,o2,s12⟩;obtain⟨ua,uc,rfl⟩:=aT o1;obtain⟨va,vc,rfl⟩:=aT o2)
 exact kk.down _ w1 _ _ n1 n2 gZ gN gS gS gS rfl b1 o1 o2 s12
theorem dm2{u:Value}{f:Int}(hz:a.tmps.size=18)(h7:a.tmps.getD 7 undef=u)(h8:a.tmps.getD 8 undef= .int .i64 f)
 (kk:∀(a':Act),kA a a' 18 4 [(4,u),(5,.int .i64 f)]<|R .normal a' w):(q1 (qd 2 (qf Tryz.f146))).wp Tryz.prog R a w:=rW2
theorem dx2f(hz:a.tmps.size=25)(h8:a.tmps.getD 8 undef= .int .i64 0)
 (kk:∀(a':Act),kA a a' 25 9 [(16,.bool false)]<|R .normal a' w):(q1 (qb (q1 (qd 2 (qf Tryz.f109))))).wp Tryz.prog R a w:=rD
theorem dx2t(hz:a.tmps.size=25)(h8:a.tmps.getD 8 undef= .int .i64 1)
 (kk:∀(a':Act),kA a a' 25 9 [(16,.bool true)]<|R .normal a' w):(q1 (qb (q1 (qd 2 (qf Tryz.f109))))).wp Tryz.prog R a w:=rD
theorem dx3(hz:a.tmps.size=25)(h8:a.tmps.getD 8 undef= .int .i64 1)
 (kk:∀(a':Act),kA a a' 25 4 [(4,.slice none 0 0),(5,.int .i64 1)]<|R .normal a' w):(q1 (qt (q2 (qb (q1 (qd 2 (qf Tryz.f109))))))).wp Tryz.prog R a w:=rW2
theorem dx4t{xa:Option Addr}{xn xc:Nat}(hz:a.tmps.size=25)(h7:a.tmps.getD 7 undef= .slice xa xn xc)
 (hl:0<(xn:Int))
 (kk:∀(a':Act),kA a a' 25 9 [(20,.bool true)]<|R .normal a' w):(q1 (qe (q2 (qb (q1 (qd 2 (qf Tryz.f109))))))).wp Tryz.prog R a w:=rD
theorem dx4f{xa:Option Addr}{xn xc:Nat}(hz:a.tmps.size=25)(h7:a.tmps.getD 7 undef= .slice xa xn xc)
 (hl:¬0<(xn:Int))
 (kk:∀(a':Act),kA a a' 25 9 [(20,.bool false)]<|R .normal a' w):(q1 (qe (q2 (qb (q1 (qd 2 (qf Tryz.f109))))))).wp Tryz.prog R a w:=rD
theorem dx5(hz:a.tmps.size=25)
 (kk:∀(a':Act),kA a a' 25 4 [(4,.slice none 0 0),(5,.int .i64 4)]<|R .normal a' w):(q1 (qt (q2 (qe (q2 (qb (q1 (qd 2 (qf Tryz.f109))))))))).wp Tryz.prog R a w:=rW2
theorem dx6{u:Value}(hz:a.tmps.size=25)(h6:a.tmps.getD 6 undef=u)
 (kk:∀(a':Act),kA a a' 25 4 [(4,u),(5,.int .i64 0)]<|R .normal a' w):(q1 (qd 3 (qf Tryz.f109))).wp Tryz.prog R a w:=rW2
end
section
theorem fin2{fn:Func}{a:Act}{w w':World}{A:List Nat}{f:Int}{v:Value}{n s t:Nat}(hr:bG fn.results.toList=some [s,t])(hd:a.defers=[])(h4:a.tmps.getD s undef=v)(h5:a.tmps.getD t undef= .int .i64 f)(hb:Below w.heap.size w w')(o1:w'.ownsRow w.heap.size 31 1 v n (Wv A)):
 bodyPost Tryz.prog fn (Gx w A (.int .i64 f)) .ret a w':=by
 refine⟨hd,_,aV hr _ _,v,n,?_,hb,o1,?_⟩
 ·show Ending.returned (.tuple #[a.tmps.getD s undef,a.tmps.getD t undef])=_;rw[h4,h5]
 ·rcases o1.2 with ⟨_,rfl⟩|⟨g,cap,cur,_,_,_,h3,h4,_⟩
  ·exact Nat.zero_le _
  ·exact Nat.le_trans h3 h4
theorem Em{w:World}{B n:Nat}{v:Value}{xs:List Value}(o1:w.ownsRow B 31 1 v n xs):n≤maxLen:=by
 rcases o1.2 with ⟨_,rfl⟩|⟨g,cap,cur,_,_,_,h3,h4,_⟩
 ·exact Nat.zero_le _
 ·exact Nat.le_trans h3 h4
theorem SS{w:World}{B n:Nat}{v:Value}{A:List Nat}(o1:w.ownsRow B 31 1 v n (Wv A)):n=A.length:=by
 have:=o1.1;simp only[Wv,List.length_map]at this;omega
section
variable {w:World} {va vb:Value} {a b:List Nat} {Ha:Nat→Prop} (gu:∀q,Ha q→q<w.heap.size) (hva:Rep0 w Ha va (.l 1 (W a))) (hvb:Rep0 w Ha vb (.l 1 (W b))) (ha:Wd a) (hb:Wd b) (la:a.length≤1000000000) (lb:b.length≤1000000000)
include gu hva hvb ha hb la lb
theorem XE:Calls Tryz.prog 146 #[va,vb] w (Gx w (qR (nv B a) (nv B b)) (.int .i64 (qE (nv B b)))):=by
 refine dm (vs:=[va,vb]) Tryz.func146 (c:=qf Tryz.f146) rfl (by show 2≤_;decide) fun a0 z0 e0 d0=>?_
 have i0:a0.tmps.getD 0 undef=va:=e0 0 (by show 0<2;decide);have i1:a0.tmps.getD 1 undef=vb:=e0 1 (by show 1<2;decide);change a0.tmps.size=18 at z0;refine wp_seq ?_;refine dm0 z0 fun a1 z1 s1 d1=>?_
 refine wp_seq ?_;refine dm1 z1 ((s1 0 dc).trans i0) ((s1 1 dc).trans i1) (Ej gu hva hvb ha hb la lb) fun a2 w2 v1 v2 n1 n2 z2 s2 k6 k7 k8 d2 B2 o1 o2 _=>?_
 refine wp_seq ?_;refine dm2 z2 k7 k8 fun a3 z3 s3 h4 h5 d3=>?_
 refine wp_ret ?_;exact fin2 rfl (d3.trans (d2.trans (d1.trans d0))) h4 h5 B2 o2
theorem NV:Calls Tryz.prog 109 #[va,vb] w (Gx w (exQ (nv B a) (nv B b)) (.int .i64 (exE (nv B a) (nv B b)))):=by
 have hq:=Ej gu hva hvb ha hb la lb;generalize nv B a=u at*
 generalize nv B b=v at*
 refine dm (vs:=[va,vb]) Tryz.func109 (c:=qf Tryz.f109) rfl (by show 2≤_;decide) fun a0 z0 e0 d0=>?_
 have i0:a0.tmps.getD 0 undef=va:=e0 0 (by show 0<2;decide);have i1:a0.tmps.getD 1 undef=vb:=e0 1 (by show 1<2;decide);change a0.tmps.size=25 at z0;refine wp_seq ?_;refine dx0 z0 fun a1 z1 s1 d1=>?_
 refine wp_seq ?_;refine dx1 z1 ((s1 0 dc).trans i0) ((s1 1 dc).trans i1) hq fun a2 w2 v1 v2 n1 n2 z2 s2 k6 k7 k8 d2 B2 o1 o2 _=>?_
 have dd:a2.defers=[]:=d2.trans (d1.trans d0);refine wp_seq ?_;refine wp_block ?_;refine wp_seq ?_;by_cases h0:v=0
 ·subst h0;rw[qE_0]at k8;rw[show exQ u 0=[]from if_pos rfl,show exE u 0=1 from if_pos rfl];refine dx2t z2 k8 fun a3 z3 s3 h16 d3=>?_
  refine wp_cond_true h16 ?_;refine wp_seq ?_;refine dx3 z3 ((s3 8 dc).trans k8) fun a4 z4 s4 h4 h5 d4=>?_
  refine wp_ret ?_;exact fin2 rfl (d4.trans (d3.trans dd)) h4 h5 B2 (mr _ _ _ _)
 rw[qE_p om]at k8;refine dx2f z2 k8 fun a3 z3 s3 h16 d3=>?_
 refine wp_cond_false h16 ?_;refine wp_seq ?_;obtain⟨ta,tc,e2⟩:=aT o2;have l2:=SS o2;by_cases h1:u%v=0
 ·rw[show exQ u v=qQ u v from(if_neg h0).trans (if_pos h1),show exE u v=0 from(if_neg h0).trans (if_pos h1)];have hl:((qR u v).length:Int)=0:=Q4.2 (.inr h1);refine dx4f z3 (((s3 7 dc).trans k7).trans e2) om fun a4 z4 s4 h20 d4=>?_
  refine wp_cond_false h20 ?_;refine wp_skip ?_;refine wp_seq ?_;refine dx6 z4 ((s4 6 dc).trans ((s3 6 dc).trans k6)) fun a5 z5 s5 h4 h5 d5=>?_
  refine wp_ret ?_;exact fin2 rfl (d5.trans (d4.trans (d3.trans dd))) h4 h5 B2 o1
 ·rw[show exQ u v=[]from(if_neg h0).trans (if_neg h1),show exE u v=4 from(if_neg h0).trans (if_neg h1)];have hl:(0:Int)<((qR u v).length:Int):=by
   have:¬((qR u v).length:Int)=0:=fun h=>by rcases Q4.1 h with h2|h2<;>omega
   omega
  refine dx4t z3 (((s3 7 dc).trans k7).trans e2) om fun a4 z4 s4 h20 d4=>?_
  refine wp_cond_true h20 ?_;refine wp_seq ?_;refine dx5 z4 fun a5 z5 s5 h4 h5 d5=>?_
  refine wp_ret ?_;exact fin2 rfl (d5.trans (d4.trans (d3.trans dd))) h4 h5 B2 (mr _ _ _ _)
end
end
theorem XF{fn:Func}{a:Act}{w':World}{R:Ending→World→Prop}{p g:Nat}{s:Bool}{u:Value}{fr:Nat×Nat}(h:fn.results=#[.cell p 25])(hd:a.defers=[])(hp:a.tmps.getD p undef= .pointer (some ⟨g,0,none⟩))(hg:w'.heap[g]? =some (.cells #[.bool s,u] 25 fr))(hR:R (.returned (.agg #[.bool s,u])) w'):bodyPost Tryz.prog fn R .ret a w':=
 ⟨hd,_,results_cell_row h _ _ g _ _ fr _ hp hg Tryz.underlying25 rfl kf,hR⟩
theorem JA{w:World}{s:Bool}{ua:Option Addr}{n c:Nat}:Calls Tryz.prog 67 #[.bool s,.slice ua n c] w (fun e w'=>e= .returned (.agg #[.bool (s&&decide (0<n)),.slice ua n c])∧Below w.heap.size w w'):=by
 refine dm (vs:=[.bool s,.slice ua n c]) Tryz.func67 (c:=qf Tryz.f67) rfl (by show 2≤_;decide) fun a0 z0 e0 d0=>?_
 have i0:a0.tmps.getD 0 undef= .bool s:=e0 0 (by show 0<2;decide);have i1:a0.tmps.getD 1 undef= .slice ua n c:=e0 1 (by show 1<2;decide);change a0.tmps.size=13 at z0;have g0:=gI z0 i0 dc;have g1:=gI z0 i1 dc;have key:∀(t:Array Value) (x:Bool),t.size=13→t.getD 4 undef= .pointer (some ⟨w.heap.size,0,none⟩)→x=(s&&decide (0<n))→bodyPost Tryz.prog Tryz.f67 (fun e w'=>e= .returned (.agg #[.bool (s&&decide (0<n)),.slice ua n c])∧Below w.heap.size w w') .ret {tmps:=t,defers:=[]} (w.alloc (.cells #[.bool x,.slice ua n c] 25)):=fun t x hz hp hx=>by
  subst hx;exact XF rfl rfl hp (heap_alloc_new w _) ⟨rfl,jG w _⟩
 cases s
 ·refine wp_seq_k fun K0 hK0=>?_
  have hk0:=PLift.up hK0;clear hK0;refine wp_region_lit ?_;go_wp2;refine hk0.down _ _ ?_;refine wp_seq_k fun K1 hK1=>?_
  have hk1:=PLift.up hK1;clear hK1;refine wp_region_lit ?_;go_wp2;refine hk1.down _ _ ?_;refine wp_ret ?_;refine key _ _ (by simp[z0]) ?_ rfl;repeat (first|rw[aA (by simp[z0])]|rw[ae dc])
 ·by_cases hn:0<n
  ·have hn':(0:Int)<(n:Int):=om;refine wp_seq_k fun K0 hK0=>?_
   have hk0:=PLift.up hK0;clear hK0;refine wp_region_lit ?_;go_wp2;refine hk0.down _ _ ?_;refine wp_seq_k fun K1 hK1=>?_
   have hk1:=PLift.up hK1;clear hK1;refine wp_region_lit ?_;go_wp2;refine hk1.down _ _ ?_;refine wp_ret ?_;refine key _ _ (by simp[z0]) ?_ (by simp[hn]);repeat (first|rw[aA (by simp[z0])]|rw[ae dc])
  ·have hn':¬(0:Int)<(n:Int):=om;refine wp_seq_k fun K0 hK0=>?_
   have hk0:=PLift.up hK0;clear hK0;refine wp_region_lit ?_;go_wp2;refine hk0.down _ _ ?_;refine wp_seq_k fun K1 hK1=>?_
   have hk1:=PLift.up hK1;clear hK1;refine wp_region_lit ?_;go_wp2;refine hk1.down _ _ ?_;refine wp_ret ?_;refine key _ _ (by simp[z0]) ?_ (by simp[hn]);repeat (first|rw[aA (by simp[z0])]|rw[ae dc])
def oldB(l:List Oper)(n t:Nat):Bool:=(List.range n).all fun j=>ig l j != t
theorem bH{l:List Oper}{n t:Nat}(h:oldB l n t=true):∀j,j<n→ig l j≠t:=fun j hj=>by
 have:=List.all_eq_true.1 h j (List.mem_range.2 hj);exact bne_iff_ne.1 this
def Own(w0:World)(A:List Nat)(v:Value)(w:World):Prop:=∃m,m≤maxLen∧w.ownsRow w0.heap.size 31 1 v m (Wv A)
theorem Own.up{w0 w w':World}{A:List Nat}{v:Value}(h:Own w0 A v w)(hb:Below w.heap.size w w'):Own w0 A v w':=by
 obtain⟨m,hm,ho⟩:=h;exact⟨m,hm,aP ho fun q hq=>hb.block q (ho.lt q hq).2⟩
theorem Own.base{w0 w1 w:World}{A:List Nat}{v:Value}(h:Own w1 A v w)(hs:w0.heap.size≤w1.heap.size):Own w0 A v w:=by
 obtain⟨m,hm,ho⟩:=h;exact⟨m,hm,dX ho hs⟩
def BI(w0:World)(s:Bool)(A:List Nat)(v:Value)(w:World):Prop:=∃u,v= .agg #[.bool s,u]∧Own w0 A u w
theorem BI.up{w0 w w':World}{s:Bool}{A:List Nat}{v:Value}(h:BI w0 s A v w)(hb:Below w.heap.size w w'):BI w0 s A v w':=by
 obtain⟨u,e,h⟩:=h;exact⟨u,e,h.up hb⟩
theorem of_own{w0 w:World}{s:Bool}{A:List Nat}{v:Value}(h:Own w0 A v w):Calls Tryz.prog 67 #[.bool s,v] w (fun e w'=>∃x,e= .returned x∧Below w.heap.size w w'∧BI w0 (s&&decide (0<A.length)) A x w'):=by
 obtain⟨m,hm,ho⟩:=h;obtain⟨ua,uc,rfl⟩:=aT ho;have lm:=ho.1;simp only[Wv,List.length_map]at lm;refine JA.mono ?_;rintro e w2 ⟨rfl,b⟩;refine⟨_,rfl,b,_,?_,Own.up ⟨m,hm,ho⟩ b⟩;rw[show A.length=m from om]
theorem C_(b:Bool)(a:Option Addr)(n c:Nat):(#[Value.bool b,Value.slice a n c]:Array Value).all (·.oneCell')=true:=by
 simp only[List.all_toArray,List.all_cons,List.all_nil,Bool.and_true];rfl
theorem SV{w:World}{q:Nat}{x y:Value}{old:Array Value}(hg:w.heap[q]? =some (.cells old 25 (0,0)))(hs:old.size=2):aI w (fun k=>k=q) (w.setRow q #[x,y])∧(w.setRow q #[x,y]).heap[q]? =some (.cells #[x,y] 25 (0,0)):=
 ⟨⟨rfl,rfl,rfl,sy,fun k _ hne=>setRow_other w q k _ hne⟩,setRow_heap w q old _ _ _ hg⟩
theorem Own.st{w0 w:World}{A:List Nat}{v:Value}{q:Nat}{x y:Value}{old:Array Value}(h:Own w0 A v w)(hg:w.heap[q]? =some (.cells old 25 (0,0))):Own w0 A v (w.setRow q #[x,y]):=by
 obtain⟨m,hm,ho⟩:=h;refine⟨m,hm,aP ho fun k hk=>setRow_other w q k _ fun e=>?_⟩;subst e;rcases ho.2 with ⟨rfl,_⟩|⟨g,cap,cur,rfl,_,h2,_⟩
 ·cases hk
 ·cases hk;rw[hg]at h2;cases h2
def SX(w:World)(s:Bool)(x:Value):World:=(w.alloc (.cells #[.bool s,x] 25)).alloc (.cells #[.bool false,.slice none 0 0] 25)
theorem bx1(w:World)(s:Bool)(x:Value):Below w.heap.size w (SX w s x)∧w.heap.size<(SX w s x).heap.size∧w.heap.size+1<(SX w s x).heap.size∧(SX w s x).cell? ⟨w.heap.size,0,none⟩=some (.bool s)∧(SX w s x).cell? ⟨w.heap.size,1,none⟩=some x∧(SX w s x).heap[w.heap.size+1]? =some (.cells #[.bool false,.slice none 0 0] 25 (0,0)):=by
 have h:=heap_alloc2_old w (.cells #[.bool s,x] 25) (.cells #[.bool false,.slice none 0 0] 25);refine⟨bU (jG w _) (jG _ _),by unfold SX;rw[World.size_alloc,World.size_alloc];omega,by unfold SX;rw[World.size_alloc,World.size_alloc];omega,cell_of_row _ _ 0 _ _ _ h,cell_of_row _ _ 1 _ _ _ h,heap_alloc2_new w _ _⟩
section
variable {a:Act}{w:World}{R:Exit→Act→World→Prop}
def ad1Φ(w0:World)(s:Bool)(x:Value)(t:Bool)(y:Value)(qx qy:Nat):Nat→Value→World→Prop
 |0,v,_=>v= .pointer (some ⟨qx,0,none⟩)
 |1,v,_=>v= .bool s
 |2,v,_=>v= .pointer (some ⟨qy,0,none⟩)
 |3,v,_=>v= .bool t
 |4,v,_=>v= .bool (s==t)
 |_,_,_=>False
theorem ad1{s t:Bool}{x y:Value}{qx qy:Nat}(hz:a.tmps.size=34)(h2:a.tmps.getD 2 undef= .pointer (some ⟨qx,0,none⟩))(h3:a.tmps.getD 3 undef= .pointer (some ⟨qy,0,none⟩))(A_:qx<w.heap.size)(Eo:qy<w.heap.size)(c0:w.cell? ⟨qx,0,none⟩=some (.bool s))(c1:w.cell? ⟨qx,1,none⟩=some (x))(c2:w.cell? ⟨qy,0,none⟩=some (.bool t))(c3:w.cell? ⟨qy,1,none⟩=some (y))
 (kk:∀(a':Act) (w':World),a'.tmps.size=34→a'.tmps.getD 2 undef=a.tmps.getD 2 undef→a'.tmps.getD 3 undef=a.tmps.getD 3 undef→a'.tmps.getD 4 undef=a.tmps.getD 4 undef→a'.tmps.getD 11 undef= .bool (s==t)→a'.defers=a.defers→Below w.heap.size w w'→R .normal a' w'):(q1 (q1 (qd 1 (qf Tryz.f37)))).wp Tryz.prog R a w:=by
 refine GH (n:=5) (N:=34) (ad1Φ w s x t y qx qy) (fun _ _=>none) aX kf hz kf (fun i v w1 w2 hi h hb=>?_) (fun i v w1 q hi h hq=>?_) (fun i o a1 w1 hi ho hsz hB hold iK K hK=>?_) (fun a1 w1 hsz hdf hB hold hval hsep=>?_)
 ·match i,hi with
  |0,_|1,_|2,_|3,_|4,_=>exact h
 ·cases hq
 ·match i,hi,ho with
  |0,_,ho=>
   obtain rfl:=Option.some.inj ho;have g2:=(hold 2 (bH gK)).trans h2;exact oT
  |1,_,ho=>
   obtain rfl:=Option.some.inj ho;have e0:a1.tmps.getD 7 undef= .pointer (some ⟨qx,0,none⟩):=iK ⟨0,.data⟩ gM rfl;have x0:=(aN (i:=0) (hB.block qx A_)).trans c0;have x1:=(aN (i:=1) (hB.block qx A_)).trans c1;exact oT
  |2,_,ho=>
   obtain rfl:=Option.some.inj ho;have g3:=(hold 3 (bH gK)).trans h3;exact oT
  |3,_,ho=>
   obtain rfl:=Option.some.inj ho;have e2:a1.tmps.getD 9 undef= .pointer (some ⟨qy,0,none⟩):=iK ⟨2,.data⟩ gM rfl;have x2:=(aN (i:=0) (hB.block qy Eo)).trans c2;have x3:=(aN (i:=1) (hB.block qy Eo)).trans c3;exact oT
  |4,_,ho=>
   obtain rfl:=Option.some.inj ho;have e1:a1.tmps.getD 8 undef= .bool s:=iK ⟨1,.data⟩ gM rfl;have e3:a1.tmps.getD 10 undef= .bool t:=iK ⟨3,.data⟩ gM rfl;exact oT
 ·exact kk a1 w1 hsz (hold 2 (bH kf)) (hold 3 (bH kf)) (hold 4 (bH kf)) (hval 4 dc) hdf hB
def YX(w0:World)(s:Bool)(x:Value)(t:Bool)(y:Value)(A:List Nat)(qx qy:Nat):Nat→Value→World→Prop
 |0,v,_=>v= .pointer (some ⟨qx,0,none⟩)
 |1,v,_=>v= .bool s
 |2,v,_=>v= .pointer (some ⟨qx,1,none⟩)
 |3,v,_=>v=x
 |4,v,_=>v= .pointer (some ⟨qy,1,none⟩)
 |5,v,_=>v=y
 |6,v,w=>Own w0 A v w
 |7,v,w=>BI w0 (s&&decide (0<A.length)) A v w
 |_,_,_=>False
theorem ad2{s t:Bool}{x y:Value}{qx qy qr:Nat}{A:List Nat}{old:Array Value}(hz:a.tmps.size=34)(h2:a.tmps.getD 2 undef= .pointer (some ⟨qx,0,none⟩))(h3:a.tmps.getD 3 undef= .pointer (some ⟨qy,0,none⟩))(h4:a.tmps.getD 4 undef= .pointer (some ⟨qr,0,none⟩))(A_:qx<w.heap.size)(Eo:qy<w.heap.size)(l_qr:qr<w.heap.size)(c0:w.cell? ⟨qx,0,none⟩=some (.bool s))(c1:w.cell? ⟨qx,1,none⟩=some (x))(c2:w.cell? ⟨qy,0,none⟩=some (.bool t))(c3:w.cell? ⟨qy,1,none⟩=some (y))
 (hbox:w.heap[qr]? =some (.cells old 25 (0,0))) (hb2:old.size=2) (cN:∀w1,Below w.heap.size w w1→Calls Tryz.prog 70 #[x,y] w1 (uV w1 A))
 (kk:∀(a':Act) (w':World) (u:Value),a'.tmps.size=34→a'.tmps.getD 4 undef= .pointer (some ⟨qr,0,none⟩)→a'.defers=a.defers→aI w (fun k=>k=qr) w'→w'.heap[qr]? =some (.cells #[.bool (s&&decide (0<A.length)),u] 25 (0,0))→Own w A u w'→R .normal a' w'):(q1 (qt (q2 (q1 (qd 1 (qf Tryz.f37)))))).wp Tryz.prog R a w:=by
 refine NT (n:=8) (N:=34) (YX w s x t y A qx qy) (fun _ _=>none) aX kf hz kf (fun i v w1 w2 hi h hb=>?_) (fun i v w1 q hi h hq=>?_) (fun i o a1 w1 hi ho hsz hB hold iK K hK=>?_) (fun a1 w1 hsz hdf hB hold hval hsep=>?_)
 ·match i,hi with
  |0,_|1,_|2,_|3,_|4,_|5,_=>exact h
  |6,_=>exact Own.up h hb
  |7,_=>exact BI.up h hb
 ·cases hq
 ·match i,hi,ho with
  |0,_,ho=>
   obtain rfl:=Option.some.inj ho;have g2:=(hold 2 (bH gK)).trans h2;exact oT
  |1,_,ho=>
   obtain rfl:=Option.some.inj ho;have e0:a1.tmps.getD 12 undef= .pointer (some ⟨qx,0,none⟩):=iK ⟨0,.data⟩ gM rfl;have x0:=(aN (i:=0) (hB.block qx A_)).trans c0;have x1:=(aN (i:=1) (hB.block qx A_)).trans c1;exact oT
  |2,_,ho=>
   obtain rfl:=Option.some.inj ho;have g2:=(hold 2 (bH gK)).trans h2;exact oT
  |3,_,ho=>
   obtain rfl:=Option.some.inj ho;have e2:a1.tmps.getD 14 undef= .pointer (some ⟨qx,1,none⟩):=iK ⟨2,.data⟩ gM rfl;have x0:=(aN (i:=0) (hB.block qx A_)).trans c0;have x1:=(aN (i:=1) (hB.block qx A_)).trans c1;exact oT
  |4,_,ho=>
   obtain rfl:=Option.some.inj ho;have g3:=(hold 3 (bH gK)).trans h3;exact oT
  |5,_,ho=>
   obtain rfl:=Option.some.inj ho;have e4:a1.tmps.getD 16 undef= .pointer (some ⟨qy,1,none⟩):=iK ⟨4,.data⟩ gM rfl;have x2:=(aN (i:=0) (hB.block qy Eo)).trans c2;have x3:=(aN (i:=1) (hB.block qy Eo)).trans c3;exact oT
  |6,_,ho=>
   obtain rfl:=Option.some.inj ho;have e3:a1.tmps.getD 15 undef=x:=iK ⟨3,.data⟩ gM rfl;have e5:a1.tmps.getD 17 undef=y:=iK ⟨5,.data⟩ gM rfl;have hc:=cN w1 hB;have hs:=hB.size;replace hK:=pu hK;go_tidy;have gA:=gJ a1;go_simp;refine hc.mono ?_;rintro e w2 ⟨u,m,rfl,b,o,hm⟩;exact hK.down u w2 ⟨m,hm,dX o hs⟩ b (fun q h=>by cases h)
  |7,_,ho=>
   obtain rfl:=Option.some.inj ho;have e1:a1.tmps.getD 13 undef= .bool s:=iK ⟨1,.data⟩ gM rfl;have e6:YX w s x t y A qx qy 6 (a1.tmps.getD 18 undef) w1:=iK ⟨6,.data⟩ gM rfl;obtain⟨m,hm,ho'⟩:=e6;obtain⟨ua,uc,eu⟩:=aT ho';have g18:=gI hsz eu dc;rw[eu]at ho';have hc:=of_own (s:=s) (w0:=w) (A:=A) ⟨m,hm,ho'⟩;replace hK:=pu hK;go_tidy;have gA:=gJ a1;go_simp;refine hc.mono ?_;rintro e w2 ⟨v,rfl,b,hv⟩;exact hK.down v w2 hv b (fun q h=>by cases h)
 ·have eR:BI w (s&&decide (0<A.length)) A (a1.tmps.getD 19 undef) w1:=hval 7 dc;obtain⟨u,eu,hu⟩:=eR;have eP:=(hold 4 (bH kf)).trans h4;have hb':=(hB.block qr l_qr).trans hbox;have hst:=SV (x:= .bool (s&&decide (0<A.length))) (y:=u) hb' hb2;refine wpList_store_row rfl 25 (.tmp 4) (.tmp 19) rfl qr #[.bool (s&&decide (0<A.length)),u] eP eu 25 old hb' kf hb2 ?_ ?_
  ·obtain⟨m,_,ho⟩:=hu;obtain⟨ua,uc,rfl⟩:=aT ho;exact C_ _ _ _ _
  ·refine kk _ _ u hsz eP hdf ?_ hst.2 (hu.st hb');exact⟨hst.1.os.trans hB.os,hst.1.tape.trans hB.tape,hst.1.output.trans hB.output,by have:=hB.size;have:=hst.1.size;omega,fun k hk hne=>(hst.1.block k (by have:=hB.size;omega) hne).trans (hB.block k hk)⟩
end
section
def IA(w:World)(Ha:Nat→Prop)(v:Value)(s:Bool)(a:List Nat):Prop:=∃x,v= .agg #[.bool s,x]∧Rep0 w Ha x (.l 1 (W a))
theorem IA.up{w w':World}{Ha:Nat→Prop}{v:Value}{s:Bool}{a:List Nat}(h:IA w Ha v s a)(hH:∀q,Ha q→q<w.heap.size)(hb:Below w.heap.size w w'):IA w' Ha v s a:=by
 obtain⟨x,e,h⟩:=h;exact⟨x,e,h.mono (fun _ h=>h) fun q hq=>hb.block q (hH q hq)⟩
theorem Own.rep{w0 w:World}{A:List Nat}{v:Value}(h:Own w0 A v w):Rep0 w (fun q=>q<w.heap.size) v (.l 1 (W A)):=by
 obtain⟨m,hm,ho⟩:=h;exact wO ho hm
theorem dgp{n:Nat}:decide (0<(dg B n).length)=decide (0<n):=by
 have h:=uN (n:=n);by_cases h0:0<n
 ·rw[decide_eq_true h0,decide_eq_true];have:=h.mpr h0;omega
 ·rw[decide_eq_false h0,decide_eq_false];intro h1;exact h0 (h.mp om)
section
variable {w:World} {vx:Value} {s:Bool} {a:List Nat} {Ha:Nat→Prop} (gu:∀q,Ha q→q<w.heap.size) (hx:IA w Ha vx s a) (ha:Wd a) (la:a.length≤100000000)
include gu hx ha la
variable {vy:Value} {t:Bool} {b:List Nat} (hy:IA w Ha vy t b) (hb':Wd b) (lb:b.length≤100000000)
include hy hb' lb
end
end
theorem NW{fn:Func}{a:Act}{w':World}{R:Ending→World→Prop}{p u g:Nat}{s:Bool}{x y:Value}{fr:Nat×Nat}(h:fn.results=#[.cell p 25,.tmp u])(hd:a.defers=[])(hp:a.tmps.getD p undef= .pointer (some ⟨g,0,none⟩))(hg:w'.heap[g]? =some (.cells #[.bool s,x] 25 fr))(hu:a.tmps.getD u undef=y)(hR:R (.returned (.tuple #[.agg #[.bool s,x],y])) w'):bodyPost Tryz.prog fn R .ret a w':=by
 refine⟨hd,_,?_,hR⟩;have hp':a.tmps[p]?.getD undef= .pointer (some ⟨g,0,none⟩):=by simpa using hp
 have hu':a.tmps[u]?.getD undef=y:=by simpa using hu
 simp[results,h,hp',hu',asAddr,run_loadVar_row w' g _ 25 _ fr _ hg Tryz.underlying25 rfl kf,Sem.run_bind,Result.andThen]
theorem oz{w:World}{q:Nat}{o:Obj}(h:w.heap[q]? =some o):q<w.heap.size:=(Array.getElem?_eq_some_iff.1 h).1
section
def NY(w:World)(s:Bool)(A:List Nat)(f:Int)(e:Ending)(w':World):Prop:=∃v,e= .returned (.tuple #[v,.int .i64 f])∧Below w.heap.size w w'∧BI w s A v w'
theorem Own.nil(w0 w:World):Own w0 [] (.slice none 0 0) w:=⟨0,Nat.zero_le _,mr _ _ _ _⟩
theorem NZ{w w1:World}{q:Nat}{cs:Array Value}(h:Below w.heap.size w w1)(hq:w.heap.size≤q):Below w.heap.size w (w1.setRow q cs):=
 ⟨h.os,h.tape,h.output,by have:=h.size;simpa using this,fun k hk=>(setRow_other w1 q k _ om).trans (h.block k hk)⟩
section
variable {w:World} {vx:Value} {s:Bool} {a:List Nat} {Ha:Nat→Prop} (gu:∀q,Ha q→q<w.heap.size) (hx:IA w Ha vx s a) (ha:Wd a) (la:a.length≤100000000)
variable {vy:Value} {t:Bool} {b:List Nat} (hy:IA w Ha vy t b) (hb':Wd b) (lb:b.length≤100000000)
include gu hx ha la hy hb' lb
end
end
section
variable {a:Act}{w:World}{R:Exit→Act→World→Prop}
def fl4tΦ(w0:World)(s t sr:Bool)(x y ur:Value)(qx qy qb:Nat)(z za zb:Int):Nat→Value→World→Prop
 |0,v,_=>v= .agg #[.bool sr,ur]
 |1,v,_=>v= .int .i64 z
 |2,v,_=>v= .bool true
 |3,v,_=>v= .bool true
 |4,v,_=>v= .agg #[.bool s,x]
 |5,v,_=>v= .int .i64 za
 |6,v,_=>v= .agg #[.bool t,y]
 |7,v,_=>v= .int .i64 zb
 |8,v,_=>v= .bool (za != zb)
 |_,_,_=>False
theorem fl4t{s t sr:Bool}{x y ur:Value}{qx qy qb:Nat}{z za zb:Int}(hz:a.tmps.size=34)(h2:a.tmps.getD 2 undef= .pointer (some ⟨qx,0,none⟩))(h3:a.tmps.getD 3 undef= .pointer (some ⟨qy,0,none⟩))(h7:a.tmps.getD 7 undef= .pointer (some ⟨qb,0,none⟩))(A_:qx<w.heap.size)(Eo:qy<w.heap.size)(SY:qb<w.heap.size)(c0:w.cell? ⟨qx,0,none⟩=some (.bool s))(c1:w.cell? ⟨qx,1,none⟩=some (x))(c2:w.cell? ⟨qy,0,none⟩=some (.bool t))(c3:w.cell? ⟨qy,1,none⟩=some (y))(c4:w.cell? ⟨qb,0,none⟩=some (.bool sr))(c5:w.cell? ⟨qb,1,none⟩=some (ur))
 (hl:¬z=0) (cR:∀w1,Below w.heap.size w w1→Calls Tryz.prog 79 #[.agg #[.bool sr,ur]] w1 (fun e w2=>e= .returned (.int .i64 z)∧Below w1.heap.size w1 w2)) (cX:∀w1,Below w.heap.size w w1→Calls Tryz.prog 79 #[.agg #[.bool s,x]] w1 (fun e w2=>e= .returned (.int .i64 za)∧Below w1.heap.size w1 w2)) (cY:∀w1,Below w.heap.size w w1→Calls Tryz.prog 79 #[.agg #[.bool t,y]] w1 (fun e w2=>e= .returned (.int .i64 zb)∧Below w1.heap.size w1 w2))
 (kk:∀(a':Act) (w':World),a'.tmps.size=34→a'.tmps.getD 2 undef=a.tmps.getD 2 undef→a'.tmps.getD 3 undef=a.tmps.getD 3 undef→a'.tmps.getD 4 undef=a.tmps.getD 4 undef→a'.tmps.getD 6 undef=a.tmps.getD 6 undef→a'.tmps.getD 7 undef=a.tmps.getD 7 undef→a'.tmps.getD 29 undef= .bool (za != zb)→a'.defers=a.defers→Below w.heap.size w w'→R .normal a' w'):(q1 (q1 (qd 3 (qf Tryz.f84)))).wp Tryz.prog R a w:=by
 refine uY (n:=9) (N:=34) (fl4tΦ w s t sr x y ur qx qy qb z za zb) (fun _ _=>none) aX kf hz kf (fun i v w1 w2 hi h hb=>?_) (fun i v w1 q hi h hq=>?_) (fun i o a1 w1 hi ho hsz hB hold iK K hK=>?_) (fun a1 w1 hsz hdf hB hold hval hsep=>?_)
 ·match i,hi with
  |0,_|1,_|2,_|3,_|4,_|5,_|6,_|7,_|8,_=>exact h
 ·cases hq
 ·match i,hi,ho with
  |0,_,ho=>
   obtain rfl:=Option.some.inj ho;refine ou rfl ?_;have g7:=(hold 7 (bH gK)).trans h7;have x4:=(aN (i:=0) (hB.block qb SY)).trans c4;have x5:=(aN (i:=1) (hB.block qb SY)).trans c5;exact oT
  |1,_,ho=>
   obtain rfl:=Option.some.inj ho;refine ou rfl ?_;have e0:a1.tmps.getD 20 undef= .agg #[.bool sr,ur]:=iK ⟨0,.data⟩ gM rfl;have hc:=cR w1 hB;replace hK:=pu hK;go_tidy;have gA:=gJ a1;go_simp;refine hc.mono ?_;rintro e w2 ⟨rfl,b⟩;exact hK.down _ w2 rfl b (fun q h=>by cases h)
  |2,_,ho=>
   obtain rfl:=Option.some.inj ho;refine ou rfl ?_;have e1:a1.tmps.getD 21 undef= .int .i64 z:=iK ⟨1,.data⟩ gM rfl;replace hK:=pu hK;go_tidy;have gA:=gJ a1;go_simp;first|exact hK.down _ _ rfl (dE _) (fun q h=>by cases h)|exact hK.down _ _ (congrArg Value.bool (by simp[hl])) (dE _) (fun q h=>by cases h)
  |3,_,ho=>
   obtain rfl:=Option.some.inj ho;refine ou rfl ?_;have e2:a1.tmps.getD 22 undef= .bool true:=iK ⟨2,.data⟩ gM rfl;exact oT
  |4,_,ho=>
   obtain rfl:=Option.some.inj ho;have eG:a1.tmps.getD 23 undef= .bool true:=iK ⟨3,.guard⟩ gM rfl;refine wP (d:=23) rfl kf hsz eG dc rfl ?_;have g2:=(hold 2 (bH gK)).trans h2;have x0:=(aN (i:=0) (hB.block qx A_)).trans c0;have x1:=(aN (i:=1) (hB.block qx A_)).trans c1;exact oT
  |5,_,ho=>
   obtain rfl:=Option.some.inj ho;have eG:a1.tmps.getD 23 undef= .bool true:=iK ⟨3,.guard⟩ gM rfl;refine wP (d:=23) rfl kf hsz eG dc rfl ?_;have e4:a1.tmps.getD 24 undef= .agg #[.bool s,x]:=iK ⟨4,.data⟩ gM rfl;have hc:=cX w1 hB;replace hK:=pu hK;go_tidy;have gA:=gJ a1;go_simp;refine hc.mono ?_;rintro e w2 ⟨rfl,b⟩;exact hK.down _ w2 rfl b (fun q h=>by cases h)
  |6,_,ho=>
   obtain rfl:=Option.some.inj ho;have eG:a1.tmps.getD 23 undef= .bool true:=iK ⟨3,.guard⟩ gM rfl;refine wP (d:=23) rfl kf hsz eG dc rfl ?_;have g3:=(hold 3 (bH gK)).trans h3;have x2:=(aN (i:=0) (hB.block qy Eo)).trans c2;have x3:=(aN (i:=1) (hB.block qy Eo)).trans c3;exact oT
  |7,_,ho=>
   obtain rfl:=Option.some.inj ho;have eG:a1.tmps.getD 23 undef= .bool true:=iK ⟨3,.guard⟩ gM rfl;refine wP (d:=23) rfl kf hsz eG dc rfl ?_;have e6:a1.tmps.getD 26 undef= .agg #[.bool t,y]:=iK ⟨6,.data⟩ gM rfl;have hc:=cY w1 hB;replace hK:=pu hK;go_tidy;have gA:=gJ a1;go_simp;refine hc.mono ?_;rintro e w2 ⟨rfl,b⟩;exact hK.down _ w2 rfl b (fun q h=>by cases h)
  |8,_,ho=>
   obtain rfl:=Option.some.inj ho;have eG:a1.tmps.getD 23 undef= .bool true:=iK ⟨3,.guard⟩ gM rfl;refine wP (d:=23) rfl kf hsz eG dc rfl ?_;have e5:a1.tmps.getD 25 undef= .int .i64 za:=iK ⟨5,.data⟩ gM rfl;have e7:a1.tmps.getD 27 undef= .int .i64 zb:=iK ⟨7,.data⟩ gM rfl;exact oT
 ·have e3:a1.tmps.getD 23 undef= .bool true:=hval 3 dc;have g23:=gI hsz e3 dc;have e8:a1.tmps.getD 28 undef= .bool (za != zb):=hval 8 dc;have g28:=gI hsz e8 dc;replace kk:=pu kk;clear cR cX cY;simp only[List.drop_succ_cons,List.drop_zero];go_wp2;refine kk.down _ w1 (by simp[hsz]) ((ae dc).trans (hold 2 (bH kf))) ((ae dc).trans (hold 3 (bH kf))) ((ae dc).trans (hold 4 (bH kf))) ((ae dc).trans (hold 6 (bH kf))) ((ae dc).trans (hold 7 (bH kf))) ?_ (by first|rfl|exact hdf) hB;exact aA (by simp[hsz])
def fl4fΦ(w0:World)(s t sr:Bool)(x y ur:Value)(qx qy qb:Nat)(z za zb:Int):Nat→Value→World→Prop
 |0,v,_=>v= .agg #[.bool sr,ur]
 |1,v,_=>v= .int .i64 z
 |2,v,_=>v= .bool false
 |3,v,_=>v= .bool false
 |4,v,_=>v=undef
 |5,v,_=>v=undef
 |6,v,_=>v=undef
 |7,v,_=>v=undef
 |8,v,_=>v=undef
 |_,_,_=>False
theorem fl4f{s t sr:Bool}{x y ur:Value}{qx qy qb:Nat}{z za zb:Int}(hz:a.tmps.size=34)(h2:a.tmps.getD 2 undef= .pointer (some ⟨qx,0,none⟩))(h3:a.tmps.getD 3 undef= .pointer (some ⟨qy,0,none⟩))(h7:a.tmps.getD 7 undef= .pointer (some ⟨qb,0,none⟩))(A_:qx<w.heap.size)(Eo:qy<w.heap.size)(SY:qb<w.heap.size)(c0:w.cell? ⟨qx,0,none⟩=some (.bool s))(c1:w.cell? ⟨qx,1,none⟩=some (x))(c2:w.cell? ⟨qy,0,none⟩=some (.bool t))(c3:w.cell? ⟨qy,1,none⟩=some (y))(c4:w.cell? ⟨qb,0,none⟩=some (.bool sr))(c5:w.cell? ⟨qb,1,none⟩=some (ur))
 (hl:z=0) (cR:∀w1,Below w.heap.size w w1→Calls Tryz.prog 79 #[.agg #[.bool sr,ur]] w1 (fun e w2=>e= .returned (.int .i64 z)∧Below w1.heap.size w1 w2)) (cX:∀w1,Below w.heap.size w w1→Calls Tryz.prog 79 #[.agg #[.bool s,x]] w1 (fun e w2=>e= .returned (.int .i64 za)∧Below w1.heap.size w1 w2)) (cY:∀w1,Below w.heap.size w w1→Calls Tryz.prog 79 #[.agg #[.bool t,y]] w1 (fun e w2=>e= .returned (.int .i64 zb)∧Below w1.heap.size w1 w2))
 (kk:∀(a':Act) (w':World),a'.tmps.size=34→a'.tmps.getD 2 undef=a.tmps.getD 2 undef→a'.tmps.getD 3 undef=a.tmps.getD 3 undef→a'.tmps.getD 4 undef=a.tmps.getD 4 undef→a'.tmps.getD 6 undef=a.tmps.getD 6 undef→a'.tmps.getD 7 undef=a.tmps.getD 7 undef→a'.tmps.getD 29 undef= .bool (false)→a'.defers=a.defers→Below w.heap.size w w'→R .normal a' w'):(q1 (q1 (qd 3 (qf Tryz.f84)))).wp Tryz.prog R a w:=by
 refine uY (n:=9) (N:=34) (fl4fΦ w s t sr x y ur qx qy qb z za zb) (fun _ _=>none) aX kf hz kf (fun i v w1 w2 hi h hb=>?_) (fun i v w1 q hi h hq=>?_) (fun i o a1 w1 hi ho hsz hB hold iK K hK=>?_) (fun a1 w1 hsz hdf hB hold hval hsep=>?_)
 ·match i,hi with
  |0,_|1,_|2,_|3,_|4,_|5,_|6,_|7,_|8,_=>exact h
 ·cases hq
 ·match i,hi,ho with
  |0,_,ho=>
   obtain rfl:=Option.some.inj ho;refine ou rfl ?_;have g7:=(hold 7 (bH gK)).trans h7;have x4:=(aN (i:=0) (hB.block qb SY)).trans c4;have x5:=(aN (i:=1) (hB.block qb SY)).trans c5;exact oT
  |1,_,ho=>
   obtain rfl:=Option.some.inj ho;refine ou rfl ?_;have e0:a1.tmps.getD 20 undef= .agg #[.bool sr,ur]:=iK ⟨0,.data⟩ gM rfl;have hc:=cR w1 hB;replace hK:=pu hK;go_tidy;have gA:=gJ a1;go_simp;refine hc.mono ?_;rintro e w2 ⟨rfl,b⟩;exact hK.down _ w2 rfl b (fun q h=>by cases h)
  |2,_,ho=>
   obtain rfl:=Option.some.inj ho;refine ou rfl ?_;have e1:a1.tmps.getD 21 undef= .int .i64 z:=iK ⟨1,.data⟩ gM rfl;replace hK:=pu hK;go_tidy;have gA:=gJ a1;go_simp;first|exact hK.down _ _ rfl (dE _) (fun q h=>by cases h)|exact hK.down _ _ (congrArg Value.bool (by simp[hl])) (dE _) (fun q h=>by cases h)
  |3,_,ho=>
   obtain rfl:=Option.some.inj ho;refine ou rfl ?_;have e2:a1.tmps.getD 22 undef= .bool false:=iK ⟨2,.data⟩ gM rfl;exact oT
  |4,_,ho=>
   obtain rfl:=Option.some.inj ho;have eG:a1.tmps.getD 23 undef= .bool false:=iK ⟨3,.guard⟩ gM rfl;exact wQ (d:=23) rfl kf hsz eG dc rfl (hK _ _ rfl (dE _) (fun q h=>by cases h))
  |5,_,ho=>
   obtain rfl:=Option.some.inj ho;have eG:a1.tmps.getD 23 undef= .bool false:=iK ⟨3,.guard⟩ gM rfl;exact wQ (d:=23) rfl kf hsz eG dc rfl (hK _ _ rfl (dE _) (fun q h=>by cases h))
  |6,_,ho=>
   obtain rfl:=Option.some.inj ho;have eG:a1.tmps.getD 23 undef= .bool false:=iK ⟨3,.guard⟩ gM rfl;exact wQ (d:=23) rfl kf hsz eG dc rfl (hK _ _ rfl (dE _) (fun q h=>by cases h))
  |7,_,ho=>
   obtain rfl:=Option.some.inj ho;have eG:a1.tmps.getD 23 undef= .bool false:=iK ⟨3,.guard⟩ gM rfl;exact wQ (d:=23) rfl kf hsz eG dc rfl (hK _ _ rfl (dE _) (fun q h=>by cases h))
  |8,_,ho=>
   obtain rfl:=Option.some.inj ho;have eG:a1.tmps.getD 23 undef= .bool false:=iK ⟨3,.guard⟩ gM rfl;exact wQ (d:=23) rfl kf hsz eG dc rfl (hK _ _ rfl (dE _) (fun q h=>by cases h))
 ·have e3:a1.tmps.getD 23 undef= .bool false:=hval 3 dc;have g23:=gI hsz e3 dc;replace kk:=pu kk;clear cR cX cY;simp only[List.drop_succ_cons,List.drop_zero];go_wp2;refine kk.down _ w1 (by simp[hsz]) ((ae dc).trans (hold 2 (bH kf))) ((ae dc).trans (hold 3 (bH kf))) ((ae dc).trans (hold 4 (bH kf))) ((ae dc).trans (hold 6 (bH kf))) ((ae dc).trans (hold 7 (bH kf))) ?_ (by first|rfl|exact hdf) hB;exact aA (by simp[hsz])
end
section
theorem IA.rep{w:World}{Ha:Nat→Prop}{v:Value}{s:Bool}{a:List Nat}(h:IA w Ha v s a):Rep0 w Ha v (zL s a):=by
 obtain⟨x,rfl,h⟩:=h;obtain⟨h1,h2⟩:=NQ (.b s) h;exact .g [.bool s,x] [.b s,.l 1 (W a)] h1 h2
theorem N7{w:World}{Ha:Nat→Prop}{v:Value}{s:Bool}{a:List Nat}(hH:∀q,Ha q→q<w.heap.size)(h:IA w Ha v s a)(ha:Wd a)(la:a.length≤1000000000):Calls Tryz.prog 79 #[v] w (fun e w2=>e= .returned (.int .i64 (iZ (zv s a)))∧Below w.heap.size w w2):=
 A8 (vs:=[v]) (qI s a ha la) hH (EM h.rep)
section
variable {w:World} {vx:Value} {s:Bool} {a:List Nat} {Ha:Nat→Prop} (gu:∀q,Ha q→q<w.heap.size) (hx:IA w Ha vx s a) (ha:Wd a) (la:a.length≤100000000)
variable {vy:Value} {t:Bool} {b:List Nat} (hy:IA w Ha vy t b) (hb':Wd b) (lb:b.length≤100000000)
include gu hx ha la hy hb' lb
end
end
def bq1(w:World)(s1:Bool)(u1:Value):World:=(w.alloc (.cells #[.bool false,.slice none 0 0] 25)).setRow w.heap.size #[.bool s1,u1]
theorem IA.shape{w:World}{Ha:Nat→Prop}{v:Value}{s:Bool}{a:List Nat}(h:IA w Ha v s a):∃ua un uc,v= .agg #[.bool s,.slice ua un uc]:=by
 obtain⟨x,rfl,h⟩:=h;obtain⟨ua,un,uc,rfl⟩:=mP h;exact⟨ua,un,uc,rfl⟩
def dv9Φ(w0:World)(sr sg:Bool)(ur y:Value)(qr qy:Nat)(A B2:List Nat):Nat→Value→World→Prop
 |0,v,_=>v= .agg #[.bool sr,ur]
 |1,v,_=>v= .pointer (some ⟨qy,1,none⟩)
 |2,v,_=>v=y
 |3,v,w=>Own w0 B2 v w
 |4,v,w=>BI w0 (false&&decide (0<B2.length)) B2 v w
 |5,v,w=>BI w0 sg A v w
 |_,_,_=>False
def LS(q:Nat)(cs:Array Value)(w w':World):Prop:=aI w (fun k=>k=q) w'∧(w'.heap[q]? =w.heap[q]? ∨w'.heap[q]? =some (.cells cs 25 (0,0)))
theorem LS.rf(q:Nat)(cs:Array Value)(w:World):LS q cs w w:=⟨aI.refl _ _,.inl rfl⟩
theorem LS.dr(q:Nat)(cs:Array Value)(w:World):LS q cs w {w with drawn:=w.drawn+1}:=⟨⟨rfl,rfl,rfl,Nat.le_refl _,fun _ _ _=>rfl⟩,.inl rfl⟩
theorem LS.tr(q:Nat)(cs:Array Value)(a b c:World)(h1:LS q cs a b)(h2:LS q cs b c):LS q cs a c:=
 ⟨⟨h2.1.os.trans h1.1.os,h2.1.tape.trans h1.1.tape,h2.1.output.trans h1.1.output,Nat.le_trans h1.1.size h2.1.size,fun k hk hn=>(h2.1.block k (Nat.lt_of_lt_of_le hk h1.1.size) hn).trans (h1.1.block k hk hn)⟩,by
   rcases h2.2 with h|h
   ·rcases h1.2 with h3|h3
    ·exact .inl (h.trans h3)
    ·exact .inr (h.trans h3)
   ·exact .inr h⟩
def dv10Φ(sq:Bool)(ua:Option Addr)(un uc:Nat)(ur:Value)(qr qb:Nat):Nat→Value→World→Prop
 |0,v,_=>v= .agg #[.bool sq,.slice ua un uc]
 |1,v,_=>v= .pointer (some ⟨qb,1,none⟩)
 |2,v,_=>v=ur
 |3,_,w=>w.heap[qr]? =some (.cells #[.bool sq,.slice ua un uc] 25 (0,0))
 |_,_,_=>False
theorem Own.bel{w0 w w':World}{A:List Nat}{v:Value}{q:Nat}{old:Array Value}(h:Own w0 A v w)(hb:aI w (fun k=>k=q) w')(hg:w.heap[q]? =some (.cells old 25 (0,0))):Own w0 A v w':=by
 obtain⟨m,hm,ho⟩:=h;refine⟨m,hm,aP ho fun k hk=>hb.block k (ho.lt k hk).2 fun e=>?_⟩;subst e;rcases ho.2 with ⟨rfl,_⟩|⟨g,cap,cur,rfl,_,h2,_⟩
 ·cases hk
 ·cases hk;rw[hg]at h2;cases h2
def IntD(w:World)(s1:Bool)(A1 A2:List Nat)(f:Int)(e:Ending)(w':World):Prop:=
 ∃u1 u2,e= .returned (.tuple #[.agg #[.bool s1,u1],u2,.int .i64 f])∧Below w.heap.size w w'∧Own w A1 u1 w'∧Own w A2 u2 w'∧∀q,u1.ownBlock=some q→u2.ownBlock≠some q
theorem int_fin_d{fn:Func}{a:Act}{w':World}{R:Ending→World→Prop}{p u u2 g:Nat}{s:Bool}{x y y2:Value}{fr:Nat×Nat}(h:fn.results=#[.cell p 25,.tmp u,.tmp u2])(hd:a.defers=[])(hp:a.tmps.getD p undef= .pointer (some ⟨g,0,none⟩))(hg:w'.heap[g]? =some (.cells #[.bool s,x] 25 fr))(hu:a.tmps.getD u undef=y)(hu2:a.tmps.getD u2 undef=y2)(hR:R (.returned (.tuple #[.agg #[.bool s,x],y,y2])) w'):bodyPost Tryz.prog fn R .ret a w':=by
 refine⟨hd,_,?_,hR⟩;have hp':a.tmps[p]?.getD undef= .pointer (some ⟨g,0,none⟩):=by simpa using hp
 have hu':a.tmps[u]?.getD undef=y:=by simpa using hu
 have hu2':a.tmps[u2]?.getD undef=y2:=by simpa using hu2
 simp[results,h,hp',hu',hu2',asAddr,run_loadVar_row w' g _ 25 _ fr _ hg Tryz.underlying25 rfl kf,Sem.run_bind,Result.andThen]
theorem YY{f:FuncId}{args:List V}{z:Int}{w:World}{vs:List Value}(c:ah Tryz.prog J0 f args (zN z))(hr:aj w (fun _=>False) vs args):Calls Tryz.prog f vs.toArray w (fun e w1=>∃v,e= .returned v∧Below w.heap.size w w1∧IA w1 (fun q=>w.heap.size≤q∧q<w1.heap.size) v (decide (z<0)) (dg B z.natAbs)):=by
 refine((c.Vf rfl) w _ vs trivial (NI _ _) (fun _ h=>h.elim) hr).mono ?_;rintro e w' ⟨v,rfl,hB,N,hN,h⟩;rcases h with h|⟨e,sz,cs,n,xs,he,_⟩|⟨r,h,_⟩
 ·obtain⟨vs,rfl,hv⟩:=(Rep.up (ov:=fun _=>none) h).B_;match vs,hv with
  |[],hv=>exact absurd hv.1 sy
  |[_],hv=>exact absurd hv.1 sy
  |_::_::_::_,hv=>exact absurd hv.1 sy
  |[p,q],hv=>
   have h1:=hv.2 0 p _ rfl rfl;have h2:=hv.2 1 q _ rfl rfl;have e1:=(Rep.up (ov:=fun _=>none) h1).lK;subst e1;exact⟨_,rfl,hB,q,rfl,h2.mono (fun q hq=>hq.elim (fun h=>h.elim) (fun h=>hN q h)) fun _ _=>rfl⟩
 ·cases he
 ·cases h
theorem zone_new{w:World}:Calls Tryz.prog 38 #[.int .i64 1] w (fun e w2=>∃v,e= .returned v∧Below w.heap.size w w2∧IA w2 (fun q=>w.heap.size≤q∧q<w2.heap.size) v false (dg B 1)):=
 YY (vs:=[.int .i64 1]) (z:=1) (tY 1 dc dc) (EM (.i _ _))
theorem zmone_new{w:World}:Calls Tryz.prog 38 #[.int .i64 (-1)] w (fun e w2=>∃v,e= .returned v∧Below w.heap.size w w2∧IA w2 (fun q=>w.heap.size≤q∧q<w2.heap.size) v true (dg B 1)):=
 YY (vs:=[.int .i64 (-1)]) (z:= -1) (tY (-1) dc dc) (EM (.i _ _))
section
section
variable {w:World} {vx:Value} {s:Bool} {a:List Nat} {Ha:Nat→Prop} (gu:∀q,Ha q→q<w.heap.size) (hx:IA w Ha vx s a) (ha:Wd a) (la:a.length≤100000000)
variable {vy:Value} {t:Bool} {b:List Nat} (hy:IA w Ha vy t b) (hb':Wd b) (lb:b.length≤100000000)
include gu hx ha la hy hb' lb
end
end
section
variable {a:Act}{w:World}{R:Exit→Act→World→Prop}
theorem gm0(hz:a.tmps.size=14)
 (kk:∀(a':Act),kA a a' 14 2 [(4,.slice none 0 0)]<|R .normal a' w):(q1 (qf Tryz.f135)).wp Tryz.prog R a w:=rD
theorem gm1{x y:Value}{A:List Nat}{f:Int}(hz:a.tmps.size=14)(h0:a.tmps.getD 0 undef=x)(h1:a.tmps.getD 1 undef=y)
 (cN:Calls Tryz.prog 146 #[x,y] w (Gx w A (.int .i64 f)))
 (kk:∀(a':Act) (w1:World) (u:Value),kA a a' 14 4 [(5,u)]<|Below w.heap.size w w1→Own w A u w1→R .normal a' w1):(q1 (qd 1 (qf Tryz.f135))).wp Tryz.prog R a w:=by
 replace kk:=pu kk
 refine rl fun gA=>?_
 go_wp2_with (go_at_call 146;refine(cN).mono ?_;rintro e w1 ⟨u,n,rfl,b1,o1,m1⟩;obtain⟨ua,uc,rfl⟩:=aT o1)
 exact kk.down _ w1 _ gZ gN gS rfl b1 ⟨n,m1,o1⟩
theorem gm2{u:Value}(hz:a.tmps.size=14)(h5:a.tmps.getD 5 undef=u)
 (kk:∀(a':Act),kA a a' 14 4 [(4,u)]<|R .normal a' w):(q1 (qd 2 (qf Tryz.f135))).wp Tryz.prog R a w:=rD
theorem gc0(hz:a.tmps.size=17)
 (kk:∀(a':Act),kA a a' 17 4 [(4,.slice none 0 0)]<|R .normal a' w):(q1 (qf Tryz.f108)).wp Tryz.prog R a w:=rD
theorem gc1{x y:Value}{A1 A2:List Nat}(hz:a.tmps.size=17)(h0:a.tmps.getD 0 undef=x)(h1:a.tmps.getD 1 undef=y)
 (cN:Calls Tryz.prog 68 #[x] w (uV w A1)) (cM:∀w1,Below w.heap.size w w1→Calls Tryz.prog 68 #[y] w1 (uV w1 A2))
 (kk:∀(a':Act) (w2:World) (u v:Value),kA a a' 17 0 [(0,u),(1,v)]<|Below w.heap.size w w2→Own w A1 u w2→Own w A2 v w2→R .normal a' w2):(q1 (qd 1 (qf Tryz.f108))).wp Tryz.prog R a w:=by
 replace kk:=pu kk
 refine rl fun gA=>?_
 go_wp2_with (first|(go_at_call 68;refine(cN).mono ?_;rintro e w1 ⟨u,n,rfl,b1,o1,m1⟩;obtain⟨ua,uc,rfl⟩:=aT o1;clear cN;have hM:=cM w1 b1;clear cM)|(go_at_call 68;refine(hM).mono ?_;rintro e w2 ⟨v,m,rfl,b2,o2,m2⟩;obtain⟨va,vc,rfl⟩:=aT o2))
 exact kk.down _ w2 _ _ gZ gN gS gS rfl (bU b1 b2) (Own.up ⟨n,m1,o1⟩ b2) (Own.base ⟨m,m2,o2⟩ b1.size)
theorem gc2t{va:Option Addr}{vn vc:Nat}(hz:a.tmps.size=17)(h1:a.tmps.getD 1 undef= .slice va vn vc)
 (hl:0<vn)
 (kk:∀(a':Act),kA a a' 17 9 [(11,.bool true)]<|R .normal a' w):(q1 (q1 (ql (qb (q1 (qd 2 (qf Tryz.f108))))))).wp Tryz.prog R a w:=rD
theorem gc2f{va:Option Addr}{vn vc:Nat}(hz:a.tmps.size=17)(h1:a.tmps.getD 1 undef= .slice va vn vc)
 (hl:¬0<vn)
 (kk:∀(a':Act),kA a a' 17 9 [(11,.bool false)]<|R .normal a' w):(q1 (q1 (ql (qb (q1 (qd 2 (qf Tryz.f108))))))).wp Tryz.prog R a w:=rD
theorem gc3{x y:Value}{A:List Nat}(hz:a.tmps.size=17)(h0:a.tmps.getD 0 undef=x)(h1:a.tmps.getD 1 undef=y)
 (cN:Calls Tryz.prog 135 #[x,y] w (uV w A))
 (kk:∀(a':Act) (w1:World) (u:Value),kA a a' 17 0 [(0,y),(1,u)]<|Below w.heap.size w w1→Own w A u w1→R .normal a' w1):(qb (q1 (q2 (ql (qb (q1 (qd 2 (qf Tryz.f108)))))))).wp Tryz.prog R a w:=by
 replace kk:=pu kk
 refine rl fun gA=>?_
 go_wp2_with (go_at_call 135;refine(cN).mono ?_;rintro e w1 ⟨u,n,rfl,b1,o1,m1⟩;obtain⟨ua,uc,rfl⟩:=aT o1)
 exact kk.down _ w1 _ gZ gN gS gS rfl b1 ⟨n,m1,o1⟩
theorem gc4{u:Value}(hz:a.tmps.size=17)(h0:a.tmps.getD 0 undef=u)
 (kk:∀(a':Act),kA a a' 17 4 [(4,u)]<|R .normal a' w):(q1 (qd 3 (qf Tryz.f108))).wp Tryz.prog R a w:=rD
end
section
theorem Own.shape{w0 w:World}{A:List Nat}{v:Value}(h:Own w0 A v w):∃ua uc,v= .slice ua A.length uc:=by
 obtain⟨m,hm,ho⟩:=h;obtain⟨ua,uc,e⟩:=aT ho;exact⟨ua,uc,by rw[e,SS ho]⟩
section
variable {w:World} {va vb:Value} {a b:List Nat} {Ha:Nat→Prop} (gu:∀q,Ha q→q<w.heap.size) (hva:Rep0 w Ha va (.l 1 (W a))) (hvb:Rep0 w Ha vb (.l 1 (W b))) (ha:Wd a) (hb:Wd b)
include gu hva hvb ha hb
theorem S_(la:a.length≤1000000000)(lb:b.length≤1000000000):Calls Tryz.prog 135 #[va,vb] w (uV w (qR (nv B a) (nv B b))):=by
 refine dm (vs:=[va,vb]) Tryz.func135 (c:=qf Tryz.f135) rfl (by show 2≤_;decide) fun a0 z0 e0 d0=>?_
 have i0:a0.tmps.getD 0 undef=va:=e0 0 (by show 0<2;decide);have i1:a0.tmps.getD 1 undef=vb:=e0 1 (by show 1<2;decide);change a0.tmps.size=14 at z0;refine wp_seq ?_;refine gm0 z0 fun a1 z1 s1 k4 d1=>?_
 refine wp_seq ?_;refine gm1 z1 ((s1 0 dc).trans i0) ((s1 1 dc).trans i1) (XE gu hva hvb ha hb la lb) fun a2 w2 u z2 s2 k5 d2 B2 o2=>?_
 refine wp_seq ?_;refine gm2 z2 k5 fun a3 z3 s3 k6 d3=>?_
 refine wp_ret ?_;obtain⟨m,hm,ho⟩:=o2;refine⟨d3.trans (d2.trans (d1.trans d0)),_,aV (show bG Tryz.f135.results.toList=some [4]from rfl) _ _,u,m,?_,B2,ho,hm⟩;show Ending.returned (a3.tmps.getD 4 undef)=_;rw[k6]
theorem Tc{m:Nat}(hm:m≤1000000000)(la:a.length≤m)(lb:b.length≤m):Calls Tryz.prog 108 #[va,vb] w (uV w (dg B (Nat.gcd (nv B a) (nv B b)))):=by
 refine dm (vs:=[va,vb]) Tryz.func108 (c:=qf Tryz.f108) rfl (by show 2≤_;decide) fun a0 z0 e0 d0=>?_
 have i0:a0.tmps.getD 0 undef=va:=e0 0 (by show 0<2;decide);have i1:a0.tmps.getD 1 undef=vb:=e0 1 (by show 1<2;decide);change a0.tmps.size=17 at z0;have l1:=fO ha la;have l2:=fO hb lb;refine wp_seq ?_;refine gc0 z0 fun a1 z1 s1 k4 d1=>?_
 refine wp_seq ?_;refine gc1 z1 ((s1 0 dc).trans i0) ((s1 1 dc).trans i1) (pO (vs:=[va]) (lV a ha om) gu (EM hva)) (fun w1 hB=>pO (vs:=[vb]) (lV b hb om) (fun q h=>Nat.lt_of_lt_of_le (gu q h) hB.size) (EM (hvb.mono (fun _ h=>h) fun q h=>hB.block q (gu q h)))) fun a2 w2 u v z2 s2 k0 k1 d2 B2 o1 o2=>?_
 generalize nv B a=N1 at*
 generalize nv B b=N2 at*
 refine wp_seq ?_;refine wp_block ?_;refine wp_loop_ghost (fun y a' w'=>∃(x:Nat) (u v:Value),a'.tmps.size=17∧a'.defers=[]∧a'.tmps.getD 0 undef=u∧a'.tmps.getD 1 undef=v∧Below w.heap.size w w'∧Own w (dg B x) u w'∧Own w (dg B y) v w'∧x<B^m∧y<B^m∧Nat.gcd x y=Nat.gcd N1 N2) N2 ⟨N1,u,v,z2,d2.trans (d1.trans d0),k0,k1,B2,o1,o2,l1,l2,rfl⟩ ?_;rintro y a' w' ⟨x,u,v,z,d,h0,h1,hB,o1,o2,hx,hy,hg⟩;obtain⟨ua,uc,eu⟩:=o2.shape;rw[eu]at h1 o2;have hp2:=uN (n:=y);refine wp_seq ?_;refine wp_seq ?_;by_cases hy0:0<y
 ·refine gc2t z h1 (by have:=hp2.mpr hy0;omega) fun a3 z3 s3 h11 d3=>?_
  refine wp_cond_true (by rw[ak,h11]) ?_;refine wp_skip ?_;refine wp_block ?_;have hc:=S_ (w:=w') (fun q h=>h) o1.rep o2.rep (az _) (az _) (Nat.le_trans (bC hx) hm) (Nat.le_trans (bC hy) hm);rw[aS,aS,qR_p hy0]at hc;refine gc3 z3 ((s3 0 dc).trans h0) ((s3 1 dc).trans h1) hc fun a4 w4 u4 z4 s4 k0 k1 d4 B4 o4=>?_
  have hlt:=Nat.mod_lt x hy0;refine⟨x%y,hlt,y,_,u4,z4,d4.trans (d3.trans d),k0,k1,bU hB B4,o2.up B4,o4.base hB.size,hy,Nat.lt_trans hlt hy,?_⟩;rw[←hg,Nat.gcd_comm x y,Nat.gcd_rec y x,Nat.gcd_comm]
 ·obtain rfl:y=0:=om;rw[Nat.gcd_zero_right]at hg;refine gc2f z h1 (by rw[nP];decide) fun a3 z3 s3 h11 d3=>?_
  refine wp_cond_false (by rw[ak,h11]) ?_;refine wp_exit ?_;refine wp_seq ?_;refine gc4 z3 ((s3 0 dc).trans h0) fun a4 z4 s4 k4 d4=>?_
  refine wp_ret ?_;obtain⟨m1,hm1,ho⟩:=o1;rw[←hg];refine⟨d4.trans (d3.trans d),_,aV (show bG Tryz.f108.results.toList=some [4]from rfl) _ _,u,m1,?_,hB,ho,hm1⟩;show Ending.returned (a4.tmps.getD 4 undef)=_;rw[k4]
end
def RowI(w:World)(p:Nat)(H:Nat→Prop)(l:List (Bool×List Nat)):Prop:=∀i s a,l[i]? =some (s,a)→∃x,w.cell? ⟨p,i*2,none⟩=some (.bool s)∧w.cell? ⟨p,i*2+1,none⟩=some x∧Rep0 w H x (.l 1 (W a))
theorem RowI.up{w w':World}{p:Nat}{H:Nat→Prop}{l:List (Bool×List Nat)}(h:RowI w p H l)(hp:p<w.heap.size)(hH:∀q,H q→q<w.heap.size)(hb:Below w.heap.size w w'):RowI w' p H l:=fun i s a hi=>by
 obtain⟨x,h1,h2,h3⟩:=h i s a hi;exact⟨x,(aN (hb.block p hp)).trans h1,(aN (hb.block p hp)).trans h2,h3.mono (fun _ h=>h) fun q hq=>hb.block q (hH q hq)⟩
end
section
variable {a:Act}{w:World}{R:Exit→Act→World→Prop}
theorem tz0(hz:a.tmps.size=14)
 (kk:∀(a':Act),kA a a' 14 2 [(2,.int .i64 0)]<|R .normal a' w):(q1 (qf Tryz.f141)).wp Tryz.prog R a w:=rD
theorem tz1{x:Int}(hz:a.tmps.size=14)(h0:a.tmps.getD 0 undef= .int .u64 x)
 (hl:¬x=0)
 (kk:∀(a':Act),kA a a' 14 3 [(4,.bool false)]<|R .normal a' w):(q1 (q1 (qd 1 (qf Tryz.f141)))).wp Tryz.prog R a w:=rD
theorem tz3{x y1 y2 y3:Int}{z k:Nat}(hz:a.tmps.size=14)(h0:a.tmps.getD 0 undef= .int .u64 x)
 (hn:IntKind.u64.wrap (-x)=y1) (ha:bits .and .u64 x y1=y2) (hm:IntKind.u64.wrap (y2*285870213051353865)=y3) (hs:y3/288230376151711744=(z:Int)) (hz64:z<64) (hk:IntKind.i64.wrap (k:Int)=(k:Int)) (hc:w.cell? ⟨1,z,none⟩=some (.int .u8 (k:Int)))
 (kk:∀(a':Act),kA a a' 14 2 [(2,.int .i64 (k:Int))]<|R .normal a' w):(q1 (qd 2 (qf Tryz.f141))).wp Tryz.prog R a w:=rD
theorem lz0(hz:a.tmps.size=20)
 (kk:∀(a':Act),kA a a' 20 2 [(2,.int .i64 0)]<|R .normal a' w):(q1 (qf Tryz.f116)).wp Tryz.prog R a w:=rD
theorem lz1{la:Option Addr}{ln lc:Nat}(hz:a.tmps.size=20)(h0:a.tmps.getD 0 undef= .slice la ln lc)
 (kk:∀(a':Act),kA a a' 20 3 [(5,.slice la ln lc),(6,.int .i64 (ln:Int)),(7,.int .i64 0)]<|R .normal a' w):(q1 (q1 (qd 1 (qf Tryz.f116)))).wp Tryz.prog R a w:=ZC
theorem lz2t{i n:Nat}(hz:a.tmps.size=20)(h6:a.tmps.getD 6 undef= .int .i64 (n:Int))(h7:a.tmps.getD 7 undef= .int .i64 (i:Int))
 (hl:i<n)
 (kk:∀(a':Act),kA a a' 20 8 [(8,.bool true)]<|R .normal a' w):(q1 (ql (qb (q2 (q1 (qd 1 (qf Tryz.f116))))))).wp Tryz.prog R a w:=rD
theorem lz2f{i n:Nat}(hz:a.tmps.size=20)(h6:a.tmps.getD 6 undef= .int .i64 (n:Int))(h7:a.tmps.getD 7 undef= .int .i64 (i:Int))
 (hl:¬i<n)
 (kk:∀(a':Act),kA a a' 20 8 [(8,.bool false)]<|R .normal a' w):(q1 (ql (qb (q2 (q1 (qd 1 (qf Tryz.f116))))))).wp Tryz.prog R a w:=rD
theorem lz3{p of ln lc i:Nat}{x:Int}(hz:a.tmps.size=20)(h5:a.tmps.getD 5 undef= .slice (some ⟨p,of,none⟩) ln lc)(h7:a.tmps.getD 7 undef= .int .i64 (i:Int))
 (hl:i<ln) (c0:w.cell? ⟨p,of+i,none⟩=some (.int .u64 x))
 (kk:∀(a':Act),a'.tmps.size=20→(∀t,t<8→t≠3→t≠4→a'.tmps.getD t undef=a.tmps.getD t undef)→a'.tmps.getD 3 undef= .int .i64 (i:Int)→a'.tmps.getD 4 undef= .int .u64 x→a'.defers=a.defers→R .normal a' w):(q1 (qb (q1 (qd 2 (ql (qb (q2 (q1 (qd 1 (qf Tryz.f116)))))))))).wp Tryz.prog R a w:=rW2
theorem lz4t{x:Int}(hz:a.tmps.size=20)(h4:a.tmps.getD 4 undef= .int .u64 x)
 (hl:¬x=0)
 (kk:∀(a':Act),kA a a' 20 8 [(13,.bool true)]<|R .normal a' w):(q1 (qd 1 (qb (q1 (qd 2 (ql (qb (q2 (q1 (qd 1 (qf Tryz.f116))))))))))).wp Tryz.prog R a w:=rD
theorem lz4f{x:Int}(hz:a.tmps.size=20)(h4:a.tmps.getD 4 undef= .int .u64 x)
 (hl:x=0)
 (kk:∀(a':Act),kA a a' 20 8 [(13,.bool false)]<|R .normal a' w):(q1 (qd 1 (qb (q1 (qd 2 (ql (qb (q2 (q1 (qd 1 (qf Tryz.f116))))))))))).wp Tryz.prog R a w:=rD
theorem lz5{i:Nat}{x k y r:Int}(hz:a.tmps.size=20)(h3:a.tmps.getD 3 undef= .int .i64 (i:Int))(h4:a.tmps.getD 4 undef= .int .u64 x)
 (h1:IntKind.i64.wrap ((i:Int)*64)=y) (h2:IntKind.i64.wrap (y+k)=r) (cN:Calls Tryz.prog 141 #[.int .u64 x] w (fun e w1=>e= .returned (.int .i64 k)∧Below w.heap.size w w1))
 (kk:∀(a':Act) (w1:World),kA a a' 20 2 [(2,.int .i64 r)]<|Below w.heap.size w w1→R .normal a' w1):(q1 (qt (qd 2 (qb (q1 (qd 2 (ql (qb (q2 (q1 (qd 1 (qf Tryz.f116)))))))))))).wp Tryz.prog R a w:=by
 replace kk:=pu kk
 refine rl fun gA=>?_
 go_wp2_with (go_at_call 141;refine(cN).mono ?_;rintro e w1 ⟨rfl,b1⟩)
 exact kk.down _ w1 gZ gN gS rfl b1
theorem lz6{i:Nat}(hz:a.tmps.size=20)(h7:a.tmps.getD 7 undef= .int .i64 (i:Int))
 (hi:i≤1000000000000)
 (kk:∀(a':Act),kA a a' 20 7 [(7,.int .i64 ((i:Int)+1))]<|R .normal a' w):(q2 (qd 2 (ql (qb (q2 (q1 (qd 1 (qf Tryz.f116)))))))).wp Tryz.prog R a w:=rD
theorem lz7(hz:a.tmps.size=20)
 (kk:∀(a':Act),kA a a' 20 2 [(2,.int .i64 0)]<|R .normal a' w):(q1 (qd 2 (qf Tryz.f116))).wp Tryz.prog R a w:=rD
theorem tw0(hz:a.tmps.size=5)
 (kk:∀(a':Act),kA a a' 5 2 [(2,.int .i64 0)]<|R .normal a' w):(q1 (qf Tryz.f80)).wp Tryz.prog R a w:=rD
theorem tw1{x:Value}{k:Int}(hz:a.tmps.size=5)(h0:a.tmps.getD 0 undef=x)
 (cN:Calls Tryz.prog 116 #[x] w (fun e w1=>e= .returned (.int .i64 k)∧Below w.heap.size w w1))
 (kk:∀(a':Act) (w1:World),kA a a' 5 2 [(2,.int .i64 k)]<|Below w.heap.size w w1→R .normal a' w1):(q1 (qd 1 (qf Tryz.f80))).wp Tryz.prog R a w:=by
 replace kk:=pu kk
 refine rl fun gA=>?_
 go_wp2_with (go_at_call 116;refine(cN).mono ?_;rintro e w1 ⟨rfl,b1⟩)
 exact kk.down _ w1 gZ gN gS rfl b1
theorem sr0{s:Bool}{xa:Option Addr}{xn xc:Nat}(hz:a.tmps.size=43)(h0:a.tmps.getD 0 undef= .agg #[.bool s,.slice xa xn xc])
 (kk:∀(a':Act),kA a a' 43 2 [(2,.pointer (some ⟨w.heap.size,0,none⟩)),(4,.pointer (some ⟨w.heap.size+1,0,none⟩)),(5,.int .i64 0)]<|R .normal a' (SX w s (.slice xa xn xc))):(q1 (qf Tryz.f42)).wp Tryz.prog R a w:=ZC
theorem sr1{n:Int}(hz:a.tmps.size=43)(h1:a.tmps.getD 1 undef= .int .i64 n)
 (hl:¬n<0)
 (kk:∀(a':Act),kA a a' 43 8 [(9,.bool false)]<|R .normal a' w):(q1 (q1 (qd 1 (qf Tryz.f42)))).wp Tryz.prog R a w:=rD
theorem sr3{s:Bool}{xa:Option Addr}{xn xc qx:Nat}{n k y:Int}(hz:a.tmps.size=43)(h1:a.tmps.getD 1 undef= .int .i64 n)(h2:a.tmps.getD 2 undef= .pointer (some ⟨qx,0,none⟩))
 (hw:IntKind.i64.wrap (k+1)=y) (hx:w.heap[qx]? =some (.cells #[.bool s,.slice xa xn xc] 25 (0,0))) (cN:Calls Tryz.prog 77 #[.agg #[.bool s,.slice xa xn xc]] w (fun e w1=>e= .returned (.int .i64 k)∧Below w.heap.size w w1))
 (kk:∀(a':Act) (w1:World),a'.tmps.size=43→(∀t,t<6→t≠1→a'.tmps.getD t undef=a.tmps.getD t undef)→a'.tmps.getD 1 undef= .int .i64 (min n y)→a'.defers=a.defers→Below w.heap.size w w1→R .normal a' w1):(q1 (qd 2 (qf Tryz.f42))).wp Tryz.prog R a w:=by
 have c0:=cell_of_row _ _ 0 _ _ _ hx
 have c1:=cell_of_row _ _ 1 _ _ _ hx
 replace kk:=pu kk
 refine rl fun gA=>?_
 go_wp2_with (go_at_call 77;refine(cN).mono ?_;rintro e w1 ⟨rfl,b1⟩)
 exact kk.down _ w1 gZ gN gS rfl b1
theorem sr4{x:Value}{qx:Nat}{n:Int}{A:List Nat}{f:Int}(hz:a.tmps.size=43)(h2:a.tmps.getD 2 undef= .pointer (some ⟨qx,0,none⟩))(h1:a.tmps.getD 1 undef= .int .i64 n)
 (c1:w.cell? ⟨qx,1,none⟩=some x) (cN:Calls Tryz.prog 78 #[x,.int .i64 n] w (Gx w A (.int .i64 f)))
 (kk:∀(a':Act) (w1:World) (u:Value),kA a a' 43 6 [(6,u),(7,.int .i64 f)]<|Below w.heap.size w w1→Own w A u w1→R .normal a' w1):(q1 (qd 3 (qf Tryz.f42))).wp Tryz.prog R a w:=by
 replace kk:=pu kk
 refine rl fun gA=>?_
 go_wp2_with (go_at_call 78;refine(cN).mono ?_;rintro e w1 ⟨u,n,rfl,b1,o1,m1⟩;obtain⟨ua,uc,rfl⟩:=aT o1)
 exact kk.down _ w1 _ gZ gN gS gS rfl b1 ⟨_,m1,o1⟩
theorem sr5f{f:Int}(hz:a.tmps.size=43)(h7:a.tmps.getD 7 undef= .int .i64 f)
 (hl:f=0)
 (kk:∀(a':Act),kA a a' 43 8 [(24,.bool false)]<|R .normal a' w):(q1 (q1 (qd 4 (qf Tryz.f42)))).wp Tryz.prog R a w:=rD
theorem sr7f{s:Bool}{xa:Option Addr}{xn xc qx:Nat}{z:Int}(hz:a.tmps.size=43)(h2:a.tmps.getD 2 undef= .pointer (some ⟨qx,0,none⟩))
 (hl:¬z<0) (hx:w.heap[qx]? =some (.cells #[.bool s,.slice xa xn xc] 25 (0,0))) (cS:Calls Tryz.prog 79 #[.agg #[.bool s,.slice xa xn xc]] w (fun e w1=>e= .returned (.int .i64 z)∧Below w.heap.size w w1))
 (kk:∀(a':Act) (w1:World),kA a a' 43 8 [(35,.bool false)]<|Below w.heap.size w w1→R .normal a' w1):(q1 (q1 (qd 5 (qf Tryz.f42)))).wp Tryz.prog R a w:=by
 have c0:=cell_of_row _ _ 0 _ _ _ hx
 have c1:=cell_of_row _ _ 1 _ _ _ hx
 replace kk:=pu kk
 refine rl fun gA=>?_
 go_wp2_with (go_at_call 79;refine(cS).mono ?_;rintro e w1 ⟨rfl,b1⟩)
 exact kk.down _ w1 gZ gN gS rfl b1
theorem sr7t{s:Bool}{xa:Option Addr}{xn xc qx:Nat}{z n t:Int}(hz:a.tmps.size=43)(h2:a.tmps.getD 2 undef= .pointer (some ⟨qx,0,none⟩))(h1:a.tmps.getD 1 undef= .int .i64 n)
 (hl:z<0) (hx:w.heap[qx]? =some (.cells #[.bool s,.slice xa xn xc] 25 (0,0))) (cS:Calls Tryz.prog 79 #[.agg #[.bool s,.slice xa xn xc]] w (fun e w1=>e= .returned (.int .i64 z)∧Below w.heap.size w w1)) (cT:∀w1,Below w.heap.size w w1→Calls Tryz.prog 80 #[.slice xa xn xc] w1 (fun e w2=>e= .returned (.int .i64 t)∧Below w1.heap.size w1 w2))
 (kk:∀(a':Act) (w2:World),kA a a' 43 8 [(35,.bool (decide (t<n)))]<|Below w.heap.size w w2→R .normal a' w2):(q1 (q1 (qd 5 (qf Tryz.f42)))).wp Tryz.prog R a w:=by
 have c0:=cell_of_row _ _ 0 _ _ _ hx
 have c1:=cell_of_row _ _ 1 _ _ _ hx
 replace kk:=pu kk
 refine rl fun gA=>?_
 go_wp2_with (first|(go_at_call 79;refine(cS).mono ?_;rintro e w1 ⟨rfl,b1⟩;clear cS;have hx1:=(b1.block qx (oz hx)).trans hx;have c2:=cell_of_row _ _ 0 _ _ _ hx1;have c3:=cell_of_row _ _ 1 _ _ _ hx1;have hT:=cT w1 b1;clear cT)|(go_at_call 80;refine(hT).mono ?_;rintro e w2 ⟨rfl,b2⟩))
 exact kk.down _ w2 gZ gN gS rfl (bU b1 b2)
theorem sr8{u:Value}{A1 A:List Nat}(hz:a.tmps.size=43)(h6:a.tmps.getD 6 undef=u)
 (cO:Calls Tryz.prog 72 #[.int .u64 1] w (uV w A1)) (cA:∀w1 v,Below w.heap.size w w1→Own w A1 v w1→Calls Tryz.prog 70 #[u,v] w1 (uV w1 A))
 (kk:∀(a':Act) (w2:World) (v:Value),kA a a' 43 6 [(6,v)]<|Below w.heap.size w w2→Own w A v w2→R .normal a' w2):(qt (q2 (q1 (qd 5 (qf Tryz.f42))))).wp Tryz.prog R a w:=by
 replace kk:=pu kk
 refine rl fun gA=>?_
 go_wp2_with (first|(go_at_call 72;refine(cO).mono ?_;rintro e w1 ⟨o,n,rfl,b1,o1,m1⟩;obtain⟨ua,uc,rfl⟩:=aT o1;clear cO;have hA:=cA w1 _ b1 ⟨n,m1,o1⟩;clear cA)|(go_at_call 70;refine(hA).mono ?_;rintro e w2 ⟨v,m,rfl,b2,o2,m2⟩;obtain⟨va,vc,rfl⟩:=aT o2))
 exact kk.down _ w2 _ gZ gN gS rfl (bU b1 b2) (Own.base ⟨m,m2,o2⟩ b1.size)
theorem sr9{s:Bool}{qx qr:Nat}{old:Array Value}{ua:Option Addr}{un uc:Nat}(hz:a.tmps.size=43)(h2:a.tmps.getD 2 undef= .pointer (some ⟨qx,0,none⟩))(h4:a.tmps.getD 4 undef= .pointer (some ⟨qr,0,none⟩))(h6:a.tmps.getD 6 undef= .slice ua un uc)
 (c0:w.cell? ⟨qx,0,none⟩=some (.bool s)) (hbox:w.heap[qr]? =some (.cells old 25 (0,0))) (hb2:old.size=2)
 (kk:∀(a':Act) (w1:World),kA a a' 43 5 [(5,.int .i64 0)]<|Below w.heap.size w w1→R .normal a' (w1.setRow qr #[.bool (s&&decide (0<un)),.slice ua un uc])):(q1 (qd 6 (qf Tryz.f42))).wp Tryz.prog R a w:=by
 replace kk:=pu kk
 refine rl fun gA=>?_
 go_wp2_with (first|(refine wpList_store_row rfl 25 _ _ rfl qr #[.bool (s&&decide (0<un)),.slice ua un uc] gS gS 25 old hbox1 kf hb2 (C_ _ _ _ _) ?_)|(go_at_call 67;refine(JA (w:=w) (s:=s) (ua:=ua) (n:=un) (c:=uc)).mono ?_;rintro e w1 ⟨rfl,b1⟩;have hbox1:=(b1.block qr (oz hbox)).trans hbox))
 exact kk.down _ w1 gZ gN gS rfl b1
end
section
def Tb(w:World):Prop:=1<w.heap.size∧∀k:Nat,k<64→w.cell? ⟨1,2^k*285870213051353865%18446744073709551616/2^58,none⟩=some (.int .u8 (k:Int))
theorem Tb.up{w w':World}(h:Tb w)(hb:Below w.heap.size w w'):Tb w':=⟨Nat.lt_of_lt_of_le h.1 hb.size,fun k hk=>(aN (hb.block _ h.1)).trans (h.2 k hk)⟩
theorem N8{w:World}(hT:Tb w){x:Nat}(hx:x<18446744073709551616)(h0:x≠0):Calls Tryz.prog 141 #[.int .u64 (x:Int)] w (fun e w1=>e= .returned (.int .i64 ((ct x:Nat):Int))∧Below w.heap.size w w1):=by
 have hl:=KU (n:=64) hx h0;have ht:=hT.2 (ct x) hl;have hn:IntKind.u64.wrap (-(x:Int))=((18446744073709551616-x:Nat):Int):=by rw[IntKind.wrap_u64];omega
 have ha:bits .and .u64 (x:Int) ((18446744073709551616-x:Nat):Int)=((2^ct x:Nat):Int):=by rw[QH _ _ hx om,Xu h0 hx]
 have hm:IntKind.u64.wrap (((2^ct x:Nat):Int)*285870213051353865)=((2^ct x*285870213051353865%18446744073709551616:Nat):Int):=by
  rw[IntKind.wrap_u64];omega
 have hs2:2^ct x*285870213051353865%18446744073709551616/2^58<64:=(Nat.div_lt_iff_lt_mul dc).2 (Nat.mod_lt _ dc);have hc:IntKind.i64.wrap ((ct x:Nat):Int)=((ct x:Nat):Int):=wi ⟨om,om⟩;have hs:((2^ct x*285870213051353865%18446744073709551616:Nat):Int)/288230376151711744=((2^ct x*285870213051353865%18446744073709551616/2^58:Nat):Int):=om;generalize 2^ct x*285870213051353865%18446744073709551616=y at*
 generalize y/2^58=z at*
 refine dm (vs:=[.int .u64 (x:Int)]) Tryz.func141 (c:=qf Tryz.f141) rfl (by show 1≤_;decide) fun a0 z0 e0 d0=>?_
 have i0:a0.tmps.getD 0 undef= .int .u64 (x:Int):=e0 0 (by show 0<1;decide);change a0.tmps.size=14 at z0;refine wp_seq ?_;refine tz0 z0 fun a1 z1 s1 _ d1=>?_
 have i1:=(s1 0 dc).trans i0;refine wp_seq ?_;refine wp_seq ?_;refine tz1 z1 i1 om fun a2 z2 s2 h4 d2=>?_
 refine wp_cond_false (by rw[ak,h4]) ?_;refine wp_skip ?_;refine wp_seq ?_;refine tz3 z2 ((s2 0 dc).trans i1) hn ha hm hs hs2 hc ht fun a3 z3 s3 h2 d3=>?_
 refine wp_ret ?_;refine⟨d3.trans (d2.trans (d1.trans d0)),_,aV (show bG Tryz.f141.results.toList=some [2]from rfl) _ _,?_,dE _⟩;show Ending.returned (a3.tmps.getD 2 undef)=_;rw[h2]
section
variable {w:World} (hT:Tb w) {va:Value} {a:List Nat} {Ha:Nat→Prop} (gu:∀q,Ha q→q<w.heap.size) (hr:Rep0 w Ha va (.l 1 (W a))) (ha:Wd a) (la:a.length≤1000000000)
include hT gu hr ha la
theorem N9:Calls Tryz.prog 116 #[va] w (fun e w1=>e= .returned (.int .i64 ((ct (nv B a):Nat):Int))∧Below w.heap.size w w1):=by
 obtain⟨v,hv⟩:∃v,v=nv B a:=⟨_,rfl⟩;rw[←hv];obtain⟨ad,n,cap,f,p,o,rfl,_,hn,hnm,hcp,had,hc,hrr⟩:=hr.nZ;rw[aH,Nat.mul_one]at hn;subst hn;rw[aH]at hc;have cl:∀i,i<a.length→ad=some ⟨p,o,none⟩∧p<w.heap.size∧w.cell? ⟨p,o+i,none⟩=some (.int .u64 ((a.getD i 0:Nat):Int)):=fun i hi=>by
  have h1:=hrr i (.i .u64 ((a.getD i 0:Nat):Int)) (by simp only[W,List.getElem?_map,List.getD_eq_getElem?_getD,List.getElem?_eq_getElem hi];rfl);have h2:=(Rep.up (ov:=fun _=>none) h1).bP;rcases had with h|⟨h,h3⟩
  ·have:=aH a;rw[h]at this;simp at this;omega
  ·exact⟨h,gu _ h3,by rw[hc i hi,h2]⟩
 refine dm (vs:=[.slice ad a.length cap]) Tryz.func116 (c:=qf Tryz.f116) rfl (by show 1≤_;decide) fun a0 z0 e0 d0=>?_
 have i0:a0.tmps.getD 0 undef= .slice ad a.length cap:=e0 0 (by show 0<1;decide);change a0.tmps.size=20 at z0;have fin:∀(a':Act) (w':World) (k:Nat),a'.tmps.getD 2 undef= .int .i64 (k:Int)→a'.defers=[]→Below w.heap.size w w'→k=ct v→bodyPost Tryz.prog Tryz.f116 (fun e w1=>e= .returned (.int .i64 ((ct v:Nat):Int))∧Below w.heap.size w w1) .ret a' w':=fun a' w' k h2 d hB hk=>by
  refine⟨d,_,aV (show bG Tryz.f116.results.toList=some [2]from rfl) _ _,?_,hB⟩;show Ending.returned (a'.tmps.getD 2 undef)=_;rw[h2,hk]
 refine wp_seq ?_;refine lz0 z0 fun a1 z1 s1 _ d1=>?_
 refine wp_seq ?_;refine wp_seq ?_;refine lz1 z1 ((s1 0 dc).trans i0) fun a2 z2 s2 k5 k6 k7 d2=>?_
 refine wp_block ?_;refine wp_loop_ghost (fun j a' w'=>∃(i:Nat),i+j=a.length∧a'.tmps.size=20∧a'.defers=[]∧a'.tmps.getD 5 undef= .slice ad a.length cap∧a'.tmps.getD 6 undef= .int .i64 (a.length:Int)∧a'.tmps.getD 7 undef= .int .i64 (i:Int)∧Below w.heap.size w w'∧nv B (a.take i)=0) a.length ⟨0,Nat.zero_add _,z2,d2.trans (d1.trans d0),k5,k6,k7,dE _,by rw[List.take_zero];rfl⟩ ?_;rintro j a' w' ⟨i,hij,z,d,h5,h6,h7,hB,hj⟩;refine wp_seq ?_;by_cases hi:i<a.length
 ·refine lz2t z h6 h7 hi fun a3 z3 s3 h8 d3=>?_
  refine wp_seq ?_;refine wp_cond_true (by rw[ak,h8]) ?_;refine wp_skip ?_;refine wp_seq ?_;refine wp_block ?_;obtain⟨e1,e2,e3⟩:=cl i hi;rw[e1]at h5;have hw:=dA ha i;refine wp_seq ?_;refine lz3 z3 ((s3 5 dc).trans h5) ((s3 7 dc).trans h7) hi ((aN (hB.block p e2)).trans e3) fun a4 z4 s4 k3 k4 d4=>?_
  refine wp_seq ?_;by_cases h1:a.getD i 0=0
  ·refine lz4f z4 k4 (by rw[h1];rfl) fun a5 z5 s5 h13 d5=>?_
   refine wp_cond_false (by rw[ak,h13]) ?_;refine wp_skip ?_;refine lz6 (i:=i) z5 ((s5 7 dc).trans ((s4 7 dc dc dc).trans ((s3 7 dc).trans h7))) om fun a6 z6 s6 k7 d6=>?_
   refine⟨j-1,om,i+1,om,z6,d6.trans (d5.trans (d4.trans (d3.trans d))),?_,(s6 6 dc).trans ((s5 6 dc).trans ((s4 6 dc dc dc).trans ((s3 6 dc).trans h6))),k7,hB,by rw[af,hj,h1];simp⟩;rw[e1];exact(s6 5 dc).trans ((s5 5 dc).trans ((s4 5 dc dc dc).trans ((s3 5 dc).trans h5)))
  ·refine lz4t z4 k4 om fun a5 z5 s5 h13 d5=>?_
   refine wp_cond_true (by rw[ak,h13]) ?_;have hl:=KU (n:=64) hw h1;have e:ct v=64*i+ct (a.getD i 0):=by
    have h4:v=B^i*nv B (a.drop i):=by
     have h5:=qj (b:=B) (a.take i) (a.drop i);rw[List.take_append_drop,hj,List.length_take,Nat.min_eq_left om,Nat.zero_add,←hv]at h5;exact h5
    have h6:nv B (a.drop i)=a.getD i 0+2^64*nv B (a.drop (i+1)):=by
     rw[List.drop_eq_getElem_cons (by omega:i<a.length)];show a[i]+B*_=_;rw[List.getD_eq_getElem?_getD,List.getElem?_eq_getElem om];rfl
    have h7:B^i=2^(64*i):=by rw[YJ,←Nat.pow_mul]
    rw[h4,h7,SE (by rw[h6];omega),h6,ct_add h1 hw]
   refine wp_seq ?_;refine lz5 (i:=i) (y:=(i:Int)*64) (r:=((64*i+ct (a.getD i 0):Nat):Int)) z5 ((s5 3 dc).trans k3) ((s5 4 dc).trans k4) (wi ⟨om,om⟩) (by rw[wi ⟨om,om⟩];omega) (N8 (hT.up hB) hw h1) fun a6 w6 z6 s6 h2 d6 B6=>?_
   refine wp_ret ?_;exact fin a6 w6 _ h2 (d6.trans (d5.trans (d4.trans (d3.trans d)))) (bU hB B6) e.symm
 ·obtain rfl:i=a.length:=om;rw[List.take_length,←hv]at hj;refine lz2f z h6 h7 hi fun a3 z3 s3 h8 d3=>?_
  refine wp_seq ?_;refine wp_cond_false (by rw[ak,h8]) ?_;refine wp_exit ?_;refine wp_seq ?_;refine lz7 z3 fun a4 z4 s4 h2 d4=>?_
  refine wp_ret ?_;exact fin a4 w' 0 h2 (d4.trans (d3.trans d)) hB (by rw[hj,ct_0])
theorem Td:Calls Tryz.prog 80 #[va] w (fun e w1=>e= .returned (.int .i64 ((ct (nv B a):Nat):Int))∧Below w.heap.size w w1):=by
 have hc:=N9 hT gu hr ha la;refine dm (vs:=[va]) Tryz.func80 (c:=qf Tryz.f80) rfl (by show 1≤_;decide) fun a0 z0 e0 d0=>?_
 have i0:a0.tmps.getD 0 undef=va:=e0 0 (by show 0<1;decide);change a0.tmps.size=5 at z0;refine wp_seq ?_;refine tw0 z0 fun a1 z1 s1 _ d1=>?_
 refine wp_seq ?_;refine tw1 z1 ((s1 0 dc).trans i0) hc fun a2 w2 z2 s2 h2 d2 B2=>?_
 refine wp_ret ?_;refine⟨d2.trans (d1.trans d0),_,aV (show bG Tryz.f80.results.toList=some [2]from rfl) _ _,?_,B2⟩;show Ending.returned (a2.tmps.getD 2 undef)=_;rw[h2]
end
end
section
theorem ie_of{w:World}{s:Bool}{n:Nat}{f:Int}{e:Ending}{w':World}(h:NY w (s&&decide (0<(dg B n).length)) (dg B n) f e w'):NY w (decide (zI s n<0)) (dg B (zI s n).natAbs) f e w':=by
 rw[Jq,AZ];rw[dgp]at h;exact h
section
variable {w:World} (hT:Tb w) {vx:Value} {s:Bool} {a:List Nat} {Ha:Nat→Prop} (gu:∀q,Ha q→q<w.heap.size) (hx:IA w Ha vx s a) (ha:Wd a) (la:a.length≤100000000)
include hT gu hx ha la
theorem Tf{k:Nat}(hk:k≤127):Calls Tryz.prog 42 #[vx,.int .i64 (k:Int)] w (NY w (decide ((zv s a).fdiv (2^k)<0)) (dg B ((zv s a).fdiv (2^k)).natAbs) 0):=by
 have hx0:=hx;obtain⟨x,rfl,hr⟩:=hx;obtain⟨xa,xn,xc,rfl⟩:=mP hr;have hHw:∀w1,Below w.heap.size w w1→∀q,Ha q→q<w1.heap.size:=fun w1 hB q h=>Nat.lt_of_lt_of_le (gu q h) hB.size
 have hrw:∀w1,Below w.heap.size w w1→Rep0 w1 Ha (.slice xa xn xc) (.l 1 (W a)):=fun w1 hB=>hr.mono (fun _ h=>h) fun q h=>hB.block q (gu q h)
 have hbl:=bl_len ha;have hu:=bY ha;rw[show zv s a=zI s (nv B a)from rfl,←Xy s (nv B a) k,Eg];obtain⟨m,hm⟩:∃m,m=min k (bl (nv B a)+1):=⟨_,rfl⟩;have hm2:min (k:Int) ((bl (nv B a)+1:Nat):Int)=(m:Int):=om;rw[←hm];have hlen:=bC (Nat.lt_of_le_of_lt (Nat.div_le_self (nv B a) (2^m)) hu);have hS:=shrO a (m:Int) ha om om;rw[Xw]at hS;refine(dm (R:=NY w (s&&decide (0<(dg B (nv B a/2^m+if s=true∧nv B a%2^m≠0 then 1 else 0)).length)) (dg B (nv B a/2^m+if s=true∧nv B a%2^m≠0 then 1 else 0)) 0) (vs:=[.agg #[.bool s,.slice xa xn xc],.int .i64 (k:Int)]) Tryz.func42 (c:=qf Tryz.f42) rfl (by show 2≤_;decide) fun a0 z0 e0 d0=>?_).mono fun e w' h=>ie_of h
 have i0:a0.tmps.getD 0 undef= .agg #[.bool s,.slice xa xn xc]:=e0 0 (by show 0<2;decide);have i1:a0.tmps.getD 1 undef= .int .i64 (k:Int):=e0 1 (by show 1<2;decide);change a0.tmps.size=43 at z0;obtain⟨B1,l1,l2,c0,c1,hb⟩:=bx1 w s (.slice xa xn xc);have hbx:=heap_alloc2_old w (.cells #[.bool s,.slice xa xn xc] 25) (.cells #[.bool false,.slice none 0 0] 25);change(SX w s (.slice xa xn xc)).heap[w.heap.size]? =_ at hbx;refine wp_seq ?_;refine sr0 z0 i0 fun a1 z1 s1 k2 k4 k5 d1=>?_
 generalize SX w s (.slice xa xn xc)=w1 at*
 have k1:=(s1 1 dc).trans i1;refine wp_seq ?_;refine wp_seq ?_;refine sr1 z1 k1 om fun a2 z2 s2 h9 d2=>?_
 refine wp_cond_false (by rw[ak,h9]) ?_;refine wp_skip ?_;refine wp_seq ?_;refine sr3 z2 ((s2 1 dc).trans k1) ((s2 2 dc).trans k2) (wi om) hbx (A8 (vs:=[.agg #[.bool s,.slice xa xn xc]]) (Js s a ha om) (hHw w1 B1) (EM (hx0.up gu B1).rep)) fun a3 w3 z3 s3 k1 d3 B3=>?_
 rw[show((bl (nv B a):Nat):Int)+1=((bl (nv B a)+1:Nat):Int)from rfl,hm2]at k1;have B13:=bU B1 B3;have j2:=(s3 2 dc dc).trans ((s2 2 dc).trans k2);have j4:=(s3 4 dc dc).trans ((s2 4 dc).trans k4);have hbx3:=(B3.block _ l1).trans hbx;have hb3:=(B3.block _ l2).trans hb;have d3':=d3.trans (d2.trans (d1.trans d0));clear c0 c1 s1 s2 s3 k2 k4;refine wp_seq ?_;refine sr4 z3 j2 k1 (cell_of_row _ _ 1 _ _ _ hbx3) (Eh (vs:=[.slice xa xn xc,.int .i64 (m:Int)]) hS (fun w' H' z hz=>(Rep.up (ov:=fun _=>none) hz).bP) (hHw w3 B13) (NQ (hrw w3 B13) (.i _ _))) fun a4 w4 u z4 s4 k6 k7 d4 B4 o4=>?_
 refine wp_seq ?_;refine wp_seq ?_;refine sr5f z4 k7 rfl fun a5 z5 s5 h24 d5=>?_
 refine wp_cond_false (by rw[ak,h24]) ?_;refine wp_skip ?_;have B14:=bU B13 B4;have o4':Own w (dg B (nv B a/2^m)) u w4:=o4.base B13.size;have XG:=(B4.block _ (oz hbx3)).trans hbx3;have hb4:=(B4.block _ (oz hb3)).trans hb3;have m1:=(s5 1 dc).trans ((s4 1 dc).trans k1);have m2:=(s5 2 dc).trans ((s4 2 dc).trans j2);have m4:=(s5 4 dc).trans ((s4 4 dc).trans j4);have m6:=(s5 6 dc).trans k6;have d5':=d5.trans (d4.trans d3');clear s4 s5 j2 j4 k6 k7;have fin:∀(a':Act) (w':World) (v:Value) (N:Nat),a'.tmps.size=43→a'.tmps.getD 2 undef= .pointer (some ⟨w.heap.size,0,none⟩)→a'.tmps.getD 4 undef= .pointer (some ⟨w.heap.size+1,0,none⟩)→a'.tmps.getD 6 undef=v→a'.defers=[]→Below w4.heap.size w4 w'→Own w (dg B N) v w'→N=(nv B a/2^m+if s=true∧nv B a%2^m≠0 then 1 else 0)→(qd 6 (qf Tryz.f42)).wp Tryz.prog (bodyPost Tryz.prog Tryz.f42 (NY w (s&&decide (0<(dg B (nv B a/2^m+if s=true∧nv B a%2^m≠0 then 1 else 0)).length)) (dg B (nv B a/2^m+if s=true∧nv B a%2^m≠0 then 1 else 0)) 0)) a' w':=fun a' w' v N z h2 h4 h6 d hB ho hN=>by
  rw[←hN];obtain⟨ua,uc,rfl⟩:=ho.shape;have hb5:=(hB.block _ (oz hb4)).trans hb4;refine wp_seq ?_;refine sr9 z h2 h4 h6 (cell_of_row _ _ 0 _ _ _ ((hB.block _ (oz XG)).trans XG)) hb5 rfl fun a6 w6 z6 s6 h5 d6 B6=>?_
  refine wp_ret ?_;have hb6:=(B6.block _ (oz hb5)).trans hb5;exact NW rfl (d6.trans d) ((s6 4 dc).trans h4) (SV hb6 rfl).2 h5 ⟨_,rfl,NZ (bU (bU B14 hB) B6) om,_,rfl,(ho.up B6).st hb6⟩
 have hsg:=N7 (hHw w4 B14) (hx0.up gu B14) ha om;refine wp_seq ?_;refine wp_seq ?_;by_cases hs:s=true∧nv B a≠0
 ·obtain⟨rfl,hu0⟩:=hs;have hsn:iZ (zv true a)<0:=by rw[show zv true a=zI true (nv B a)from rfl,show iZ (zI true (nv B a))= -1 from if_pos (by show -(nv B a:Int)<0;omega)];decide
  have key:=mod_ct (n:=m) hu0;refine sr7t (t:=((ct (nv B a):Nat):Int)) z5 m2 m1 hsn XG hsg (fun w1 hB=>Td (hT.up (bU B14 hB)) (hHw w1 (bU B14 hB)) (hrw w1 (bU B14 hB)) ha om) fun a6 w6 z6 s6 h35 d6 B6=>?_
  by_cases hc:((ct (nv B a):Nat):Int)<(m:Int)
  ·refine wp_cond_true (by rw[ak,h35,decide_eq_true hc]) ?_;have o6:=o4'.up B6;refine sr8 z6 ((s6 6 dc).trans m6) (pO (vs:=[.int .u64 1]) (H:=fun _=>False) (nH 1 dc) (fun _ h=>h.elim) (EM (.i _ _))) (fun w1 v hB ho=>pO (vs:=[u,v]) (kP (dg B (nv B a/2^m)) (dg B 1) (az _) (az _) om (by have:=bC (show 1<B^1 by decide);omega)) (fun q h=>h) (NQ (o6.up hB).rep ho.rep)) fun a7 w7 v z7 s7 h6 d7 B7 o7=>?_
   rw[aS,aS]at o7;exact fin a7 w7 v _ z7 ((s7 2 dc).trans ((s6 2 dc).trans m2)) ((s7 4 dc).trans ((s6 4 dc).trans m4)) h6 (d7.trans (d6.trans d5')) (bU B6 B7) (o7.base (bU B14 B6).size) (by rw[if_pos ⟨rfl,key.2 om⟩])
  ·refine wp_cond_false (by rw[ak,h35,decide_eq_false hc]) ?_;refine wp_skip ?_;exact fin a6 w6 u _ z6 ((s6 2 dc).trans m2) ((s6 4 dc).trans m4) ((s6 6 dc).trans m6) (d6.trans d5') B6 (o4'.up B6) (by rw[if_neg (fun h=>hc (by have:=key.1 h.2;omega))];rfl)
 ·have hsn:¬iZ (zv s a)<0:=by
   rw[show zv s a=zI s (nv B a)from rfl,Xt];intro h;unfold zI at h;cases s
   ·simp at h;omega
   ·simp only[if_true]at h;exact hs ⟨rfl,om⟩
  refine sr7f z5 m2 hsn XG hsg fun a6 w6 z6 s6 h35 d6 B6=>?_
  refine wp_cond_false (by rw[ak,h35]) ?_;refine wp_skip ?_;exact fin a6 w6 u _ z6 ((s6 2 dc).trans m2) ((s6 4 dc).trans m4) ((s6 6 dc).trans m6) (d6.trans d5') B6 (o4'.up B6) (by rw[if_neg (fun h=>hs ⟨h.1,fun h0=>h.2 (by rw[h0];exact Nat.zero_mod _)⟩)];rfl)
end
end
def N_(w0:World)(s:Bool)(A D:List Nat)(v:Value)(w:World):Prop:=∃u x,v= .agg #[.bool s,u,x]∧Own w0 A u w∧Own w0 D x w∧∀q,u.ownBlock=some q→x.ownBlock≠some q
theorem N_.up{w0 w w':World}{s:Bool}{A D:List Nat}{v:Value}(h:N_ w0 s A D v w)(hb:Below w.heap.size w w'):N_ w0 s A D v w':=by
 obtain⟨u,x,e,h1,h2,h3⟩:=h;exact⟨u,x,e,Own.up h1 hb,Own.up h2 hb,h3⟩
theorem N_.base{w0 w1 w:World}{s:Bool}{A D:List Nat}{v:Value}(h:N_ w1 s A D v w)(hs:w0.heap.size≤w1.heap.size):N_ w0 s A D v w:=by
 obtain⟨u,x,e,h1,h2,h3⟩:=h;exact⟨u,x,e,Own.base h1 hs,Own.base h2 hs,h3⟩
def RA(w:World)(Ha:Nat→Prop)(v:Value)(s:Bool)(a d:List Nat):Prop:=∃x y,v= .agg #[.bool s,x,y]∧Rep0 w Ha x (.l 1 (W a))∧Rep0 w Ha y (.l 1 (W d))
section
variable {a:Act}{w:World}{R:Exit→Act→World→Prop}
theorem qtw0(hz:a.tmps.size=12)
 (kk:∀(a':Act),kA a a' 12 2 []<|R .normal a' w):(q1 (qf Tryz.f74)).wp Tryz.prog R a w:=by
 replace kk:=pu kk
 refine rl fun gA=>?_
 go_wp2
 exact kk.down _ gZ gN rfl
theorem qtw1{n:Int}{A1 A:List Nat}{f:Int}(hz:a.tmps.size=12)(h0:a.tmps.getD 0 undef= .int .i64 n)
 (c1:Calls Tryz.prog 72 #[.int .u64 1] w (uV w A1)) (c2:∀v m w1,Below w.heap.size w w1→w1.ownsRow w.heap.size 31 1 v m (Wv A1)→m≤maxLen→Calls Tryz.prog 104 #[v,.int .i64 n] w1 (Gx w1 A (.int .i64 f)))
 (kk:∀(a':Act) (w1 w2:World) (u:Value) (n2:Nat),kA a a' 12 2 [(3,u)]<|Below w.heap.size w w1→Below w1.heap.size w1 w2→w2.ownsRow w1.heap.size 31 1 u n2 (Wv A)→n2≤maxLen→R .normal a' w2):(q1 (qd 1 (qf Tryz.f74))).wp Tryz.prog R a w:=by
 replace kk:=pu kk
 refine rl fun gA=>?_
 go_wp2_with (first|(go_at_call 72;refine(c1).mono ?_;rintro e w1 ⟨v,m,rfl,b1,o1,m1⟩;have c3:=c2 v m w1 b1 o1 m1;obtain⟨ua,uc,rfl⟩:=aT o1)|(go_at_call 104;refine(c3).mono ?_;rintro e w2 ⟨u,n2,rfl,b2,o2,m2⟩;obtain⟨ta,tc,rfl⟩:=aT o2))
 exact kk.down _ w1 w2 _ n2 gZ gN gS rfl b1 b2 o2 m2
theorem qtw2{u:Value}(hz:a.tmps.size=12)(h3:a.tmps.getD 3 undef=u)
 (kk:∀(a':Act),kA a a' 12 2 [(2,u)]<|R .normal a' w):(q1 (qd 2 (qf Tryz.f74))).wp Tryz.prog R a w:=rD
end
theorem XH{w:World}{n:Nat}(hn:n≤1048576):Calls Tryz.prog 74 #[.int .i64 (n:Int)] w (uV w (dg B (2^n))):=by
 have hS:=shlO [1] (n:Int) (fun z hz=>by rw[List.mem_singleton.1 hz];decide) dc;have hf:uo (nv B [1]) (n:Int)=(dg B (2^n),0):=by
  unfold uo;rw[if_neg om];simp[nv]
 rw[hf]at hS;have hof:=nH 1 dc;have e1:dg B 1=[1]:=by decide+kernel
 refine dm (vs:=[.int .i64 (n:Int)]) Tryz.func74 (c:=qf Tryz.f74) rfl (by show 1≤_;decide) fun a0 z0 e0 d0=>?_
 have i0:a0.tmps.getD 0 undef= .int .i64 (n:Int):=e0 0 (by show 0<1;decide);change a0.tmps.size=12 at z0;refine wp_seq ?_;refine qtw0 z0 fun a1 z1 s1 d1=>?_
 refine wp_seq ?_;refine qtw1 (A1:=[1]) z1 ((s1 0 dc).trans i0) (pO (vs:=[.int .u64 1]) hof (H:=fun _=>False) (fun _ h=>h.elim) (EM (.i _ _))) (fun v m w1 b o hm=>Eh (vs:=[v,.int .i64 (n:Int)]) hS (fun w' H' z hz=>(Rep.up (ov:=fun _=>none) hz).bP) (H:=fun q=>q<w1.heap.size) (fun q h=>h) (NQ (wO o hm) (.i _ _))) fun a2 w2 w3 u m z2 s2 k3 d2 B1 B2 o2 m2=>?_
 refine wp_seq ?_;refine qtw2 z2 k3 fun a3 z3 s3 k2 d3=>?_
 refine wp_ret ?_;refine⟨d3.trans (d2.trans (d1.trans d0)),_,aV (show bG Tryz.f74.results.toList=some [2]from rfl) _ _,u,m,?_,bU B1 B2,dX o2 B1.size,m2⟩;show Ending.returned (a3.tmps.getD 2 undef)=_;rw[k2]
