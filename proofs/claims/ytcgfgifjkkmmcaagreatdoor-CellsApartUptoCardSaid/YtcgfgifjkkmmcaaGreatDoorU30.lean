import Derived.Test.YtcgfgifjkkmmcaaGreatDoorU29
set_option linter.all false
set_option maxHeartbeats 10000000
set_option maxRecDepth 2000000
namespace Go.Proofs.YtcgfgifjkkmmcaaGreatDoor
section
open Go Go.RowKit Go.Proofs Ab
theorem l0.c{w0 w:World}{γ:Gh}{d:Δ}{ds:List Δ}{xs:List Value}(h:l0 w0 γ w (d::ds) xs):∃v r,xs=v::r∧s0 w0 γ w d v∧l0 w0 γ w ds r:=by
 cases xs with
 |nil=>exact h.elim
 |cons v r=>exact⟨v,r,rfl,h.1,h.2⟩
theorem l0.n{w0 w:World}{γ:Gh}{xs:List Value}(h:l0 w0 γ w [] xs):xs=[]:=by
 cases xs with
 |nil=>rfl
 |cons v r=>exact h.elim
theorem k_b{w0 w:World}{γ:Gh}{i:Nat}{ty:TypeId}:∀{xs:List Value},bx w0 γ w i (ty,xs.map .k)→∃q,γ.β i=some q∧w.heap[q]? =some (.cells xs.toArray ty (0,0)):=fun {xs} h=>by
 obtain⟨q,ys,h1,h2,h3⟩:=h;have:∀{xs ys:List Value},l0 w0 γ w (xs.map .k) ys→ys=xs:=fun {xs}=>by
  induction xs with
  |nil=>exact fun h=>h.n
  |cons v r ih=>
   intro ys h;obtain⟨v',r',rfl,h1,h2⟩:=h.c;rw[ih h2,show v'=v from h1]
 rw[this h3]at h2;exact⟨q,h1,h2⟩
theorem Di{wb w:World}{γ:Gh}{i t u:Nat}{ty:TypeId}{s:Value}{A D:List Nat}(h:bx wb γ w i (ty,[.k s,.ow A t,.ow D u])):∃q v1 v2,γ.β i=some q∧w.heap[q]? =some (.cells #[s,v1,v2] ty (0,0))∧(Own wb A v1 w∧γ.κ t=some v1.ownBlock)∧(Own wb D v2 w∧γ.κ u=some v2.ownBlock):=by
 obtain⟨q,xs,h1,h2,h3⟩:=h;obtain⟨a0,r0,e0,k0,h3⟩:=h3.c;obtain⟨a1,r1,e1,k1,h3⟩:=h3.c;obtain⟨a2,r2,e2,k2,h3⟩:=h3.c;rw[h3.n]at e2;subst e2 e1 e0;have e:a0=s:=k0;subst e;exact⟨q,a1,a2,h1,h2,k1,k2⟩
theorem six_x{wb w:World}{γ:Gh}{i t0 t1 t2 t3 t4 t5:Nat}{ty:TypeId}{s0 s1 s2 s3 s4 s5:Value}{A0 A1 A2 A3 A4 A5:List Nat}(h:bx wb γ w i (ty,[.k s0,.ow A0 t0,.k s1,.ow A1 t1,.k s2,.ow A2 t2,.k s3,.ow A3 t3,.k s4,.ow A4 t4,.k s5,.ow A5 t5])):∃q v0 v1 v2 v3 v4 v5,γ.β i=some q∧w.heap[q]? =some (.cells #[s0,v0,s1,v1,s2,v2,s3,v3,s4,v4,s5,v5] ty (0,0))∧(Own wb A0 v0 w∧γ.κ t0=some v0.ownBlock)∧(Own wb A1 v1 w∧γ.κ t1=some v1.ownBlock)∧(Own wb A2 v2 w∧γ.κ t2=some v2.ownBlock)∧(Own wb A3 v3 w∧γ.κ t3=some v3.ownBlock)∧(Own wb A4 v4 w∧γ.κ t4=some v4.ownBlock)∧(Own wb A5 v5 w∧γ.κ t5=some v5.ownBlock):=by
 obtain⟨q,xs,h1,h2,h3⟩:=h;obtain⟨a0,r0,j0,k0,h3⟩:=h3.c;obtain⟨a1,r1,j1,k1,h3⟩:=h3.c;obtain⟨a2,r2,j2,k2,h3⟩:=h3.c;obtain⟨a3,r3,j3,k3,h3⟩:=h3.c;obtain⟨a4,r4,j4,k4,h3⟩:=h3.c;obtain⟨a5,r5,j5,k5,h3⟩:=h3.c;obtain⟨a6,r6,j6,k6,h3⟩:=h3.c;obtain⟨a7,r7,j7,k7,h3⟩:=h3.c;obtain⟨a8,r8,j8,k8,h3⟩:=h3.c;obtain⟨a9,r9,j9,k9,h3⟩:=h3.c;obtain⟨a10,r10,j10,k10,h3⟩:=h3.c;obtain⟨a11,r11,j11,k11,h3⟩:=h3.c;rw[h3.n]at j11;subst j11 j10 j9 j8 j7 j6 j5 j4 j3 j2 j1 j0;have e0:a0=s0:=k0;subst e0;have e1:a2=s1:=k2;subst e1;have e2:a4=s2:=k4;subst e2;have e3:a6=s3:=k6;subst e3;have e4:a8=s4:=k8;subst e4;have e5:a10=s5:=k10;subst e5;exact⟨q,a1,a3,a5,a7,a9,a11,h1,h2,k1,k3,k5,k7,k9,k11⟩
theorem RL.tag{wb w:World}{γ:Gh}{F:Nat→Prop}(hW:Wi wb γ w F)(T:List (Nat×List Nat×Value))(h:∀p,p∈T→Own wb p.2.1 p.2.2 w∧γ.κ p.1=some p.2.2.ownBlock)(hn:(T.map fun p=>p.1).Nodup)(hl:∀p,p∈T→p.2.1.length≤1000000000):RL wb.heap.size w.heap.size w (T.map fun p=>p.2.2):=by
 refine⟨fun i j vi vj q hij hi hj hq hq'=>?_,fun v hv=>?_⟩
 ·rw[List.getElem?_map,Option.map_eq_some_iff]at hi hj;obtain⟨p,hp,rfl⟩:=hi;obtain⟨r,hr,rfl⟩:=hj;have h1:=(h p (List.mem_of_getElem? hp)).2;have h2:=(h r (List.mem_of_getElem? hr)).2;rw[hq]at h1;rw[hq']at h2;have ht:=hW.ki _ _ _ h1 h2;have e1:(T.map fun p=>p.1)[i]? =some p.1:=by rw[List.getElem?_map,hp];rfl
  have e2:(T.map fun p=>p.1)[j]? =some p.1:=by rw[List.getElem?_map,hr,ht];rfl
  obtain⟨h3,h4⟩:=List.getElem?_eq_some_iff.1 e1;obtain⟨h5,h6⟩:=List.getElem?_eq_some_iff.1 e2;exact hij ((List.getElem_inj hn).1 (h4.trans h6.symm))
 ·obtain⟨p,hp,rfl⟩:=List.mem_map.1 hv;obtain⟨m,_,ho⟩:=(h p hp).1;have hm:p.2.1.length=m:=by have:=ho.1;simp only[Wv,List.length_map]at this;omega
  subst hm;exact⟨_,hl p hp,ho,fun q hq=>(ho.lt q hq).2⟩
theorem Bn.nrow{w:World}{b B n q:Nat}{rs:Rs}{vl vf vu v:Value}{Lv Fv Uv xs:List Value}(h:Bn w b rs vl vf vu Lv Fv Uv)(ho:w.ownsRow B 31 1 v n xs)(hq:v.ownBlock=some q):¬Bq b vl vf vu q:=fun hB=>by
 obtain⟨cap,hbox⟩:=h.box;rcases hB with rfl|hB|hB|hB
 ·exact sG hbox ho dc rfl hq
 ·exact sG h.rl ho dc hB hq
 ·exact sG h.rf ho dc hB hq
 ·exact sG h.ru ho dc hB hq
theorem RL.bq{lo hi b:Nat}{w w':World}{rs:Rs}{vl vf vu:Value}{L Lv Fv Uv:List Value}(h:RL lo hi w L)(hb:Bn w b rs vl vf vu Lv Fv Uv)(hbe:aI w (Bq b vl vf vu) w'):RL lo hi w' L:=
 ⟨h.1,fun v hv=>by
   obtain⟨A,h1,h2,h3⟩:=h.2 v hv;exact⟨A,h1,aP h2 fun q hq=>hbe.block q (h2.lt q hq).2 (hb.nrow h2 hq),h3⟩⟩
variable {q2 q3 qb k n:Nat} {x y:Int} {D0:Nat} {vl vf vu:Value} {Lv Fv Uv:List Value}
def Yh(x:Int)(k:Nat)(y:Int)(D0:Nat):List (List Nat):=[dg B (x).natAbs,dg B (x*2).natAbs,dg B (x*2+1).natAbs,dg B (x*2+1).natAbs,dg B (x.fdiv 2).natAbs,dg B (EG y D0 7).natAbs,dg B (aU x k).num.natAbs,dg B (aU x k).den,dg B (aU (x+1) k).num.natAbs,dg B (aU (x+1) k).den,dg B (((aU x k+aU (x+1) k)/2)).num.natAbs,dg B (((aU x k+aU (x+1) k)/2)).den,dg B (aU x k).num.natAbs,dg B (aU x k).den,dg B (aU x k).num.natAbs,dg B (aU x k).den]
theorem law_3{fP wb w:World}{γ:Gh}{ac:Act}(S:PS wb 230 169 (Oj q2 q3 qb) (Oi x k y D0) γ ac w)
 (hb:Bn wb qb (iy,iy,iy,iy) vl vf vu Lv Fv Uv) (l1:Lv.length=n) (l2:Fv.length=n) (l3:Uv.length=n) (cl:∀v,v∈Lv→v.oneCell'=true) (cf:∀v,v∈Fv→v.oneCell'=true) (cu:∀v,v∈Uv→v.oneCell'=true) (hn:n≤700) (hpos:0<n)
 (hL:RL fP.heap.size wb.heap.size wb Lv) (hj:Jw fP) (hB:Below fP.heap.size fP wb) (hq0:∀q,Bq qb vl vf vu q→fP.heap.size≤q) (hA:∀A,A∈Yh x k y D0→A.length≤1000000000):
 (qd 20 (qf Tryz.f3)).wp Tryz.prog (bodyPost Tryz.prog Tryz.f3 (fun e w'=>e= .returned (.bool true)∧Below fP.heap.size fP w')) ac w:=by
 unfold Oj Oi at S
 have one0:∀{v:Value},(∃a c,v=Value.slice a 0 c)→v.oneCell'=true:=fun h=>by obtain⟨a,c,rfl⟩:=h;rfl
 have one1:∀{v:Value},(∃a n c,v=Value.slice a n c)→v.oneCell'=true:=fun h=>by obtain⟨a,n,c,rfl⟩:=h;rfl
 refine bK ?_
 clear S
 intro _ _ _ S
 (refine ax S (ok_i6 rfl rfl rfl rfl rfl rfl rfl rfl rfl rfl rfl rfl) ?_;clear S;intro _ _ _ S)
 (refine ax S (Zl rfl rfl) ?_;clear S;intro _ _ _ S)
 obtain⟨la,hla0,ela⟩:=S.env 217 _ rfl
 obtain⟨la',xs1,hla1,hla,hl1⟩:=S.box 183 _ rfl
 obtain rfl:la=la':=Option.some.inj (hla0.symm.trans hla1)
 obtain⟨z0,_,rfl,⟨i6,UA,rfl⟩,hl2⟩:=hl1.c
 obtain rfl:=hl2.n
 clear hl1 hl2
 obtain⟨i6',v0,v1,v2,v3,v4,v5,hi61,hi6,f0,f1,f2,f3,f4,f5⟩:=six_x (S.box 182 _ rfl)
 obtain rfl:i6=i6':=Option.some.inj (UA.symm.trans hi61)
 obtain⟨p0,hp00,ep0⟩:=S.env 14 _ rfl
 obtain⟨p0',u0,u1,hp01,hp0,m0,m1⟩:=Di (S.box 24 _ rfl)
 obtain rfl:p0=p0':=Option.some.inj (hp00.symm.trans hp01)
 obtain⟨p1,hp10,ep1⟩:=S.env 15 _ rfl
 obtain⟨p1',u2,u3,hp11,hp1,m2,m3⟩:=Di (S.box 25 _ rfl)
 obtain rfl:p1=p1':=Option.some.inj (hp10.symm.trans hp11)
 obtain⟨p2,hp20,ep2⟩:=S.env 17 _ rfl
 obtain⟨p2',u4,u5,hp21,hp2,m4,m5⟩:=Di (S.box 32 _ rfl)
 obtain rfl:p2=p2':=Option.some.inj (hp20.symm.trans hp21)
 obtain⟨p3,hp30,ep3⟩:=S.env 23 _ rfl
 obtain⟨p3',u6,u7,hp31,hp3,m6,m7⟩:=Di (S.box 63 _ rfl)
 obtain rfl:p3=p3':=Option.some.inj (hp30.symm.trans hp31)
 obtain⟨p4,hp40,ep4⟩:=S.env 24 _ rfl
 obtain⟨p4',u8,u9,hp41,hp4,m8,m9⟩:=Di (S.box 64 _ rfl)
 obtain rfl:p4=p4':=Option.some.inj (hp40.symm.trans hp41)
 have hR0:=RL.tag S.W [(4,dg B (x).natAbs,v0),(32,dg B (x*2).natAbs,v1),(33,dg B (x*2+1).natAbs,v2),(34,dg B (x*2+1).natAbs,v3),(160,dg B (x.fdiv 2).natAbs,v4),(188,dg B (EG y D0 7).natAbs,v5),(76,dg B (aU x k).num.natAbs,u0),(77,dg B (aU x k).den,u1),(78,dg B (aU (x+1) k).num.natAbs,u2),(79,dg B (aU (x+1) k).den,u3),(112,dg B (((aU x k+aU (x+1) k)/2)).num.natAbs,u4),(113,dg B (((aU x k+aU (x+1) k)/2)).den,u5),(232,dg B (aU x k).num.natAbs,u6),(233,dg B (aU x k).den,u7),(234,dg B (aU x k).num.natAbs,u8),(235,dg B (aU x k).den,u9)] (fun p hp=>by
  simp only[List.mem_cons,List.not_mem_nil,or_false]at hp;rcases hp with rfl|rfl|rfl|rfl|rfl|rfl|rfl|rfl|rfl|rfl|rfl|rfl|rfl|rfl|rfl|rfl
  ·exact f0
  ·exact f1
  ·exact f2
  ·exact f3
  ·exact f4
  ·exact f5
  ·exact m0
  ·exact m1
  ·exact m2
  ·exact m3
  ·exact m4
  ·exact m5
  ·exact m6
  ·exact m7
  ·exact m8
  ·exact m9) (by show List.Nodup [4,32,33,34,160,188,76,77,78,79,112,113,232,233,234,235];decide) (fun p hp=>hA _ (by
  simp only[List.mem_cons,List.not_mem_nil,or_false]at hp;rcases hp with rfl|rfl|rfl|rfl|rfl|rfl|rfl|rfl|rfl|rfl|rfl|rfl|rfl|rfl|rfl|rfl<;>simp[Yh]))
 have gv0:=f0.1.shape
 have gv1:=f1.1.shape
 have gv2:=f2.1.shape
 have gv3:=f3.1.shape
 have gv4:=f4.1.shape
 have gv5:=f5.1.shape
 have gu0:=m0.1.shape
 have gu1:=m1.1.shape
 have gu2:=m2.1.shape
 have gu3:=m3.1.shape
 have gu4:=m4.1.shape
 have gu5:=m5.1.shape
 have gu6:=m6.1.shape
 have gu7:=m7.1.shape
 have gu8:=m8.1.shape
 have gu9:=m9.1.shape
 have hbA:=hb.below S.W.bel
 have bq1:∀q,Bq qb vl vf vu q→q<wb.heap.size:=hb.lt
 have RA:=(hL.below S.W.bel).app hR0 hB.size S.W.bel.size
 have G8:Below fP.heap.size fP _:=⟨S.W.bel.os.trans hB.os,S.W.bel.tape.trans hB.tape,S.W.bel.output.trans hB.output,Nat.le_trans hB.size S.W.bel.size,fun q hq=>(S.W.bel.block q (Nat.lt_of_lt_of_le hq hB.size)).trans (hB.block q hq)⟩
 have jA:=hj.up G8
 have nb:∀{i q:Nat},_→¬Bq qb vl vf vu q:=fun {i q} (h:_=some q) h2=>by have:=(S.W.bn i q h).1;have:=bq1 q h2;omega
 have ex:∀z,z∈[v0,v1,v2,v3,v4,v5]→∃a n c,z=Value.slice a n c:=fun z hz=>by
  simp only[List.mem_cons,List.not_mem_nil,or_false]at hz;rcases hz with rfl|rfl|rfl|rfl|rfl|rfl
  ·obtain⟨ua,uc,e⟩:=gv0;exact⟨_,_,_,e⟩
  ·obtain⟨ua,uc,e⟩:=gv1;exact⟨_,_,_,e⟩
  ·obtain⟨ua,uc,e⟩:=gv2;exact⟨_,_,_,e⟩
  ·obtain⟨ua,uc,e⟩:=gv3;exact⟨_,_,_,e⟩
  ·obtain⟨ua,uc,e⟩:=gv4;exact⟨_,_,_,e⟩
  ·obtain⟨ua,uc,e⟩:=gv5;exact⟨_,_,_,e⟩
 have hz:=Uo hbA rfl l1 l2 l3 cl cf cu om hla hi6 (nb hla0) (nb UA) ex jA (fun h=>by have:=hq0 _ h;have:=hj.1.1;omega) (fun h=>by have:=hq0 _ h;have:=hj.2.1;omega)
 have szA:=S.W.bel.size
 have li6:=(S.W.bn _ _ UA).1
 have lti6:=(Array.getElem?_eq_some_iff.1 hi6).1
 refine nN [(5,.k (.pointer (some ⟨qb,0,none⟩)))] S hz (by simp only[List.map_cons,List.map_nil,ak,ela];rw[show _=Value.pointer (some ⟨qb,0,none⟩)from S.env 203 _ rfl]) ⟨rfl,rfl,trivial⟩ fun w1 hO mk=>?_
 obtain⟨ni,c1,g1,WL,WM,WN,Fs1,Us1,Yi,hb1,lf1,lu1,ff1,fu1,bq2,n0,nq,hni⟩:=hO
 have j1:Jw w1:=jA.bel Yi (fun h=>by have:=hq0 _ h;have:=hj.1.1;omega) (fun h=>by have:=hq0 _ h;have:=hj.2.1;omega)
 have R1:=RA.bq hbA Yi
 have kp1:∀{q:Nat} {o:Obj},_→¬Bq qb vl vf vu q→w1.heap[q]? =some o:=fun {q o} (h:_=some o) hq=>(Yi.block q (Array.getElem?_eq_some_iff.1 h).1 hq).trans h
 have hi6':=kp1 hi6 (nb UA)
 have hp0':=kp1 hp0 (nb hp00)
 have hp1':=kp1 hp1 (nb hp10)
 have hp2':=kp1 hp2 (nb hp20)
 have hp3':=kp1 hp3 (nb hp30)
 have hp4':=kp1 hp4 (nb hp40)
 have iY:Below fP.heap.size fP w1:=⟨Yi.os.trans G8.os,Yi.tape.trans G8.tape,Yi.output.trans G8.output,Nat.le_trans G8.size Yi.size,fun q hq=>(Yi.block q (Nat.lt_of_lt_of_le hq G8.size) (fun h=>by have:=hq0 q h;omega)).trans (G8.block q hq)⟩
 have nb6:¬Bq qb WL WM WN i6:=fun h=>(bq2 i6 h).elim (nb UA) fun h=>om
 have S':=sU (w:=w1) (a:=Act.put _ (some 218) (.tuple #[])) (E:=[(5,.k (.pointer (some ⟨qb,0,none⟩))),(14,.k (.pointer (some ⟨p0,0,none⟩))),(15,.k (.pointer (some ⟨p1,0,none⟩))),(17,.k (.pointer (some ⟨p2,0,none⟩))),(23,.k (.pointer (some ⟨p3,0,none⟩))),(24,.k (.pointer (some ⟨p4,0,none⟩)))]) j1 (mk j1).sz (mk j1).df ⟨(mk j1).env 5 _ rfl,(gG dc).trans ep0,(gG dc).trans ep1,(gG dc).trans ep2,(gG dc).trans ep3,(gG dc).trans ep4,trivial⟩
 have szA1:=Yi.size
 have bq3:∀q,Bq qb WL WM WN q→fP.heap.size≤q:=fun q hq=>(bq2 q hq).elim (hq0 q) fun h=>by have:=G8.size;omega
 clear S mk hz nb kp1
 have S:=S'
 clear S'
 obtain⟨a0,c10,rfl⟩:=gu0
 obtain⟨a1,c11,rfl⟩:=gu1
 obtain⟨a2,c12,rfl⟩:=gu2
 obtain⟨a3,c13,rfl⟩:=gu3
 obtain⟨a4,c14,rfl⟩:=gu4
 obtain⟨a5,c15,rfl⟩:=gu5
 obtain⟨a6,c16,rfl⟩:=gu6
 obtain⟨a7,c17,rfl⟩:=gu7
 obtain⟨a8,c18,rfl⟩:=gu8
 obtain⟨a9,c19,rfl⟩:=gu9
 have ho0:=bW (xs:=[(.bool (decide ((aU x k).num<0))),.slice a0 (dg B (aU x k).num.natAbs).length c10,.slice a1 (dg B (aU x k).den).length c11]) hp0'
 have ho1:=bW (xs:=[(.bool (decide ((aU (x+1) k).num<0))),.slice a2 (dg B (aU (x+1) k).num.natAbs).length c12,.slice a3 (dg B (aU (x+1) k).den).length c13]) hp1'
 have ho2:=bW (xs:=[(.bool (decide ((((aU x k+aU (x+1) k)/2)).num<0))),.slice a4 (dg B (((aU x k+aU (x+1) k)/2)).num.natAbs).length c14,.slice a5 (dg B (((aU x k+aU (x+1) k)/2)).den).length c15]) hp2'
 have ho3:=bW (xs:=[(.bool (decide ((aU x k).num<0))),.slice a6 (dg B (aU x k).num.natAbs).length c16,.slice a7 (dg B (aU x k).den).length c17]) hp3'
 have ho4:=bW (xs:=[(.bool (decide ((aU x k).num<0))),.slice a8 (dg B (aU x k).num.natAbs).length c18,.slice a9 (dg B (aU x k).den).length c19]) hp4'
 refine b_ ?_
 refine wp_seq (wp_region_lit ?_)
 (refine ax S (aY) ?_;clear S;intro _ _ _ S)
 (refine ax S (GY rfl ho0 rfl) ?_;clear S;intro _ _ _ S)
 (refine ax S (GY rfl ho1 rfl) ?_;clear S;intro _ _ _ S)
 (refine ax S (GY rfl ho2 rfl) ?_;clear S;intro _ _ _ S)
 (refine ax S (GY rfl ho3 rfl) ?_;clear S;intro _ _ _ S)
 (refine ax S (GY rfl ho4 rfl) ?_;clear S;intro _ _ _ S)
 (refine ax S (ok_q5 rfl rfl rfl rfl rfl rfl rfl rfl rfl rfl rfl rfl rfl rfl rfl) ?_;clear S;intro _ _ _ S)
 (refine ax S (Zm rfl rfl) ?_;clear S;intro _ _ _ S)
 obtain⟨lb,hlb0,elb⟩:=S.env 226 _ rfl
 obtain⟨lb',xs1,hlb1,hlb,hl1⟩:=S.box 7 _ rfl
 obtain rfl:lb=lb':=Option.some.inj (hlb0.symm.trans hlb1)
 obtain⟨z0,_,rfl,⟨i5,Yj,rfl⟩,hl2⟩:=hl1.c
 obtain rfl:=hl2.n
 clear hl1 hl2
 obtain⟨i5',hi51,hi5⟩:=k_b (xs:=[(.bool (decide ((aU x k).num<0))),.slice a0 (dg B (aU x k).num.natAbs).length c10,.slice a1 (dg B (aU x k).den).length c11,(.bool (decide ((aU (x+1) k).num<0))),.slice a2 (dg B (aU (x+1) k).num.natAbs).length c12,.slice a3 (dg B (aU (x+1) k).den).length c13,(.bool (decide ((((aU x k+aU (x+1) k)/2)).num<0))),.slice a4 (dg B (((aU x k+aU (x+1) k)/2)).num.natAbs).length c14,.slice a5 (dg B (((aU x k+aU (x+1) k)/2)).den).length c15,(.bool (decide ((aU x k).num<0))),.slice a6 (dg B (aU x k).num.natAbs).length c16,.slice a7 (dg B (aU x k).den).length c17,(.bool (decide ((aU x k).num<0))),.slice a8 (dg B (aU x k).num.natAbs).length c18,.slice a9 (dg B (aU x k).den).length c19]) (S.box 6 _ rfl)
 obtain rfl:i5=i5':=Option.some.inj (Yj.symm.trans hi51)
 have hbC:=hb1.below S.W.bel
 have szC:=S.W.bel.size
 have nb:∀{i q:Nat},_→¬Bq qb WL WM WN q:=fun {i q} (h:_=some q) h2=>by have:=(S.W.bn i q h).1;have:=hb1.lt q h2;omega
 have jC:=j1.up S.W.bel
 have RC:=R1.below S.W.bel
 have sl6:∀v,v∈[v0,v1,v2,v3,v4,v5]→v.oneCell'=true:=fun v hv=>one1 (ex v hv)
 have hz:=Uy hbC rfl (n:=n+6) (by rw[List.length_append,l1];rfl) (by rw[List.length_append,l2,lf1];rfl) (by rw[List.length_append,l3,lu1];rfl) (fun v hv=>(List.mem_append.1 hv).elim (cl v) (sl6 v)) (fun v hv=>(List.mem_append.1 hv).elim (cf v) fun h=>one0 (ff1 v h)) (fun v hv=>(List.mem_append.1 hv).elim (cu v) fun h=>one0 (fu1 v h)) om hlb hi5 (nb hlb0) (nb Yj) (fun z hz=>by
  simp only[List.mem_cons,List.not_mem_nil,or_false]at hz;rcases hz with rfl|rfl|rfl|rfl|rfl|rfl|rfl|rfl|rfl|rfl<;>exact⟨_,_,_,rfl⟩) jC (fun h=>by have:=bq3 _ h;have:=hj.1.1;omega) (fun h=>by have:=bq3 _ h;have:=hj.2.1;omega)
 refine nN [(5,.k (.pointer (some ⟨qb,0,none⟩)))] S hz (by simp only[List.map_cons,List.map_nil,ak,elb];rw[show _=Value.pointer (some ⟨qb,0,none⟩)from S.env 219 _ rfl]) ⟨rfl,rfl,trivial⟩ fun w2 hO mk=>?_
 obtain⟨nr,c2,g2,vl2,vf2,vu2,Fs2,Us2,be2,hb2,lf2,lu2,ff2,fu2,bq4,nr0,nrq,hnr⟩:=hO
 have j2:Jw w2:=jC.bel be2 (fun h=>by have:=bq3 _ h;have:=hj.1.1;omega) (fun h=>by have:=bq3 _ h;have:=hj.2.1;omega)
 have R2:=RC.bq hbC be2
 have kp2:∀{q:Nat} {o:Obj},w1.heap[q]? =some o→¬Bq qb WL WM WN q→w2.heap[q]? =some o:=fun {q o} h hq=>by
  have h1:=(Array.getElem?_eq_some_iff.1 h).1;exact(be2.block q om hq).trans ((S.W.bel.block q h1).trans h)
 have hni2:=kp2 hni nq
 have hi62:=kp2 hi6' nb6
 have hi52:=(be2.block i5 (Array.getElem?_eq_some_iff.1 hi5).1 (nb Yj)).trans hi5
 have bel2:Below fP.heap.size fP w2:=⟨be2.os.trans (S.W.bel.os.trans iY.os),be2.tape.trans (S.W.bel.tape.trans iY.tape),be2.output.trans (S.W.bel.output.trans iY.output),Nat.le_trans iY.size (Nat.le_trans szC be2.size),fun q hq=>(be2.block q (Nat.lt_of_lt_of_le hq (Nat.le_trans iY.size szC)) (fun h=>by have:=bq3 q h;omega)).trans ((S.W.bel.block q (Nat.lt_of_lt_of_le hq iY.size)).trans (iY.block q hq))⟩
 have li5:=(S.W.bn _ _ Yj).1
 have lw:=hB.size
 have lw1:=iY.size
 have lnr:fP.heap.size≤nr:=om
 have S':=mk j2
 clear S mk hz nb
 have S:=S'
 clear S'
 refine b_ ?_
 refine wp_seq (wp_region_lit ?_)
 (refine ax S (aY) ?_;clear S;intro _ _ _ S)
 have tot:(Lv++[v0,v1,v2,v3,v4,v5]++[Value.slice a0 (dg B (aU x k).num.natAbs).length c10,Value.slice a1 (dg B (aU x k).den).length c11,Value.slice a2 (dg B (aU (x+1) k).num.natAbs).length c12,Value.slice a3 (dg B (aU (x+1) k).den).length c13,Value.slice a4 (dg B (((aU x k+aU (x+1) k)/2)).num.natAbs).length c14,Value.slice a5 (dg B (((aU x k+aU (x+1) k)/2)).den).length c15,Value.slice a6 (dg B (aU x k).num.natAbs).length c16,Value.slice a7 (dg B (aU x k).den).length c17,Value.slice a8 (dg B (aU x k).num.natAbs).length c18,Value.slice a9 (dg B (aU x k).den).length c19]).length=n+16:=by rw[List.length_append,List.length_append,l1];rfl
 have up:∀{q:Nat} {o:Obj},w2.heap[q]? =some o→_=some o:=fun {q o} h=>(S.W.bel.block q (Array.getElem?_eq_some_iff.1 h).1).trans h
 have hl:=Oq (w0:=fP) (hb2.below S.W.bel) (by rw[tot];omega) (by rw[tot];omega) (by rw[List.append_assoc];exact R2.below S.W.bel) hj ⟨S.W.bel.os.trans bel2.os,S.W.bel.tape.trans bel2.tape,S.W.bel.output.trans bel2.output,Nat.le_trans bel2.size S.W.bel.size,fun q hq=>(S.W.bel.block q (Nat.lt_of_lt_of_le hq bel2.size)).trans (bel2.block q hq)⟩ (hq0 qb (.inl rfl)) (up hni2) (up hnr) (up hi62) (up hi52) om lnr om om
 refine nN [] S hl (by simp only[List.map_cons,List.map_nil,ak];rw[show _=Value.pointer (some ⟨qb,0,none⟩)from S.env 228 _ rfl]) trivial fun w3 hw3 mk=>?_
 have S':=mk (hj.up hw3)
 clear S mk
 have S:=S'
 clear S'
 (refine ax S (aY) ?_;clear S;intro _ _ _ S)
 refine b_ ?_
 refine wp_ret ?_
 have e4:=S.env 4 _ rfl
 have e5:=S.W.bel
 exact⟨S.df,_,results_tmp rfl _ _ _,congrArg Ending.returned e4,e5.os.trans hw3.os,e5.tape.trans hw3.tape,e5.output.trans hw3.output,Nat.le_trans hw3.size e5.size,fun q hq=>(e5.block q (Nat.lt_of_lt_of_le hq hw3.size)).trans (hw3.block q hq)⟩
end
section
open Go Go.RowKit Go.Proofs Ab
variable {w0 w w' fP wE:World} {γ γ':Gh} {b:Nat} {rs:Rs} {vl vf vu:Value} {es:List Ro} {Us:List Value} {X X' Z:Nat→Prop}
theorem NB.st(h:NB w0 w b rs vl vf vu es Us X)(hs:w.heap.size≤w'.heap.size)(hb:∀q,q<w.heap.size→¬X q→w'.heap[q]? =w.heap[q]?)(hX:∀q,X' q→X q∨w.heap.size≤q):NB w0 w' b rs vl vf vu es Us X':=
 ⟨h.bn.keep fun q hq=>hb q (h.bn.lt q hq) fun hx=>(h.nx q hx).1 hq,h.lu,fun e he=>aP (h.own e he) fun q hq=>(by cases hq;exact hb _ (h.lt he).2 fun hx=>(h.nx _ hx).2 e he rfl),h.nq,h.ds,fun j u e h1 h2=>by
   obtain⟨Hu,h3,h4⟩:=h.un j u e h1 h2;exact⟨Hu,fun q hq=>⟨⟨Nat.lt_of_lt_of_le (h3 q hq).1.1 hs,(h3 q hq).1.2⟩,fun hx=>(hX q hx).elim (h3 q hq).2 fun h=>by have:=(h3 q hq).1.1;omega⟩,h4.mono (fun _ h=>h) fun q hq=>hb q (h3 q hq).1.1 (h3 q hq).2⟩,h.uc,h.hq,fun q hx=>(hX q hx).elim (h.nx q) fun hq=>⟨fun hB=>by have:=h.bn.lt q hB;omega,fun e he=>by have:=(h.lt he).2;omega⟩⟩
def RT(γ:Gh)(B:Nat):List (Nat×List Nat)→List Ro→Prop
 |[],[]=>True
 |p::ts,e::es=>e.2.2=p.2∧γ.κ p.1=some (some e.1)∧B≤e.1∧RT γ B ts es
 |_,_=>False
theorem RT.up{B:Nat}(h:∀t x,γ.κ t=some x→γ'.κ t=some x):∀{ts:List (Nat×List Nat)} {es:List Ro},RT γ B ts es→RT γ' B ts es
 |[],[],_=>trivial
 |_::_,_::_,⟨h1,h2,h3,h4⟩=>⟨h1,h _ _ h2,h3,RT.up h h4⟩
 |[],_::_,h=>h.elim
 |_::_,[],h=>h.elim
theorem RT.app{B:Nat}:∀{ts ts':List (Nat×List Nat)} {es es':List Ro},RT γ B ts es→RT γ B ts' es'→RT γ B (ts++ts') (es++es')
 |[],_,[],_,_,h=>h
 |_::_,_,_::_,_,⟨h1,h2,h3,h4⟩,h=>⟨h1,h2,h3,RT.app h4 h⟩
 |[],_,_::_,_,h,_=>h.elim
 |_::_,_,[],_,h,_=>h.elim
theorem RT.len{B:Nat}:∀{ts:List (Nat×List Nat)} {es:List Ro},RT γ B ts es→es.length=ts.length
 |[],[],_=>rfl
 |_::_,_::_,⟨_,_,_,h⟩=>by simp[RT.len h]
 |[],_::_,h=>h.elim
 |_::_,[],h=>h.elim
theorem RT.get{B:Nat}:∀{ts:List (Nat×List Nat)} {es:List Ro} {p:Nat×List Nat},RT γ B ts es→p∈ts→∃e,e∈es∧γ.κ p.1=some (some e.1)
 |_::_,e::_,p,⟨_,h2,_,h4⟩,hp=>by
  rcases List.mem_cons.1 hp with rfl|hp
  ·exact⟨e,List.mem_cons_self,h2⟩
  ·obtain⟨e',h5,h6⟩:=RT.get h4 hp;exact⟨e',List.mem_cons_of_mem _ h5,h6⟩
 |[],_,_,_,hp=>by simp at hp
 |_::_,[],_,h,_=>h.elim
theorem RT.rn{B B' i:Nat}{κ:Nat→Option (Option Nat)}(hB:B'≤B):∀{ts:List (Nat×List Nat)} {es:List Ro},RT ⟨fun _=>none,κ⟩ B ts es→(∀p,p∈ts→p.1<4)→RT (γ.cal i κ) B' (ts.map fun p=>(4*i+p.1,p.2)) es
 |[],[],_,_=>trivial
 |p::_,_::_,⟨h1,h2,h3,h4⟩,h=>⟨h1,by
   have:=h p List.mem_cons_self;show(if 4*i≤4*i+p.1∧4*i+p.1<4*i+4 then κ (4*i+p.1-4*i)else γ.κ _)=_;rw[if_pos ⟨om,om⟩,show 4*i+p.1-4*i=p.1 from om];exact h2,Nat.le_trans hB h3,RT.rn hB h4 fun q hq=>h q (List.mem_cons_of_mem _ hq)⟩
 |[],_::_,h,_=>h.elim
 |_::_,[],h,_=>h.elim
def ΘB(fP wE:World)(b:Nat)(rs:Rs)(es:List Ro)(Z X:Nat→Prop)(ts:List (Nat×List Nat))(γ:Gh)(w:World):Prop:=
 ∃es' vl vf vu Us,wE.heap.size≤w.heap.size∧NB fP w b rs vl vf vu (es++es') Us (fun q=>X q∨∃i,γ.β i=some q)∧RT γ wE.heap.size ts es'∧∀q,Bq b vl vf vu q→Z q∨wE.heap.size≤q
theorem ΘB.up{ts:List (Nat×List Nat)}(hs:St γ w γ' w')(h:ΘB fP wE b rs es Z X ts γ w):ΘB fP wE b rs es Z X ts γ' w':=by
 obtain⟨es',vl,vf,vu,Us,h1,h2,h3,h4⟩:=h;exact⟨es',vl,vf,vu,Us,Nat.le_trans h1 hs.sz,h2.st hs.sz (fun q hq hx=>hs.np q hq fun i hi=>hx (.inr ⟨i,hi⟩)) fun q hx=>hx.elim (fun h=> .inl (.inl h)) fun⟨i,hi⟩=>(hs.nb i q hi).elim (fun h=> .inl (.inr ⟨i,h⟩)) .inr,h3.up hs.ek,h4⟩
def InA(fP w:World)(b:Nat)(rs:Rs)(es:List Ro)(ts:List (Nat×List Nat))(d:Δ)(vl vf vu:Value)(X:Nat→Prop)(e:Ending)(w':World):Prop:=
 ∃κ v es' oI oJ oK Us',e= .returned v∧aI w (Bq b vl vf vu) w'∧(∀t q,κ t=some (some q)→w.heap.size≤q∧q<w'.heap.size)∧(∀t u q,κ t=some (some q)→κ u=some (some q)→t=u)∧s2 w (gO w κ) w' d v∧RT ⟨fun _=>none,κ⟩ w.heap.size ts es'∧NB fP w' b rs oI oJ oK (es++es') Us' X∧∀q,Bq b oI oJ oK q→Bq b vl vf vu q∨w.heap.size≤q
structure InC(fP:World)(b:Nat)(rs:Rs)(f:FuncId)(u:Value)(ts:List (Nat×List Nat))(d:Δ):Prop where
 h:∀w es Us vl vf vu X,Below fP.heap.size fP w→NB fP w b rs vl vf vu es Us X→(∀q,X q→fP.heap.size≤q∧q<w.heap.size)→es.length+ts.length≤900→Calls Tryz.prog f #[.pointer (some ⟨b,0,none⟩),u] w (InA fP w b rs es ts d vl vf vu X)
theorem in_c{va:Value}{a:List Nat}{H:Nat→Prop}(hH:∀q,H q→q<fP.heap.size)(hva:Rep0 fP H va (.l 1 (W a)))(la:a.length≤1000000000):InC fP b rs 33 va [(0,a)] (.ow a 0):=⟨fun w es Us vl vf vu X hB hnb hX hl=>by
 simp only[List.length_cons,List.length_nil]at hl;have hs:=hB.size;refine(X8 hnb hB.size (fun q hq=>Nat.lt_of_lt_of_le (hH q hq) hs) (fun q hq h=>by have:=hnb.hq q hq;have:=hH q h;omega) (fun q hq=>⟨(hX q hq).2,fun h=>by have:=(hX q hq).1;have:=hH q h;omega⟩) (hva.mono (fun _ h=>h) fun q hq=>hB.block q (hH q hq)) om la).mono ?_;rintro e w' ⟨g,c,oI,oJ,oK,u,rfl,hg,bel,hq,nb⟩;have hm:((g,c,a):Ro)∈es++[(g,c,a)]:=List.mem_append.2 (.inr (List.mem_singleton.2 rfl));have ho:=nb.own _ hm;have hc:=KW (n:=a.length) (k:=5) ho;have e1:(Wv (a++List.replicate 5 0)).take a.length=Wv a:=by
  rw[Wv,Wv,List.map_append,List.take_append_of_le_length sy,List.take_of_length_le sy]
 rw[e1]at hc;refine⟨fun t=>if t=0 then some (some g)else none,_,[(g,c,a)],oI,oJ,oK,_,rfl,bel,fun t q h=>?_,fun t u q h1 h2=>?_,⟨⟨a.length,by unfold maxLen;omega,ownB (dX hc (Nat.zero_le _)) fun q hq=>by cases hq;exact hg⟩,rfl⟩,⟨rfl,rfl,hg,trivial⟩,nb,hq⟩
 ·dsimp only at h;split at h
  ·cases h;exact⟨hg,(nb.lt hm).2⟩
  ·cases h
 ·dsimp only at h1 h2;split at h1<;>split at h2
  ·omega
  ·cases h2
  ·cases h1
  ·cases h1⟩
theorem BA{wb:World}{N i s1 s2':Nat}{R:Nat→Option Δ}{T:List Nat}{ts0 ts:List (Nat×List Nat)}{d d2:Δ}{f:FuncId}{u:Value}{dst:Option Tmp}{BC:Array TypeId}{t:TypeId}{p:String}{e:Array Edge}{gd:Option (Nat×Bool)}(hC:InC fP b rs f u ts d)(hj0:Jw fP)(hw:Below fP.heap.size fP wb)(hE:wb.heap.size=wE.heap.size)(hX:∀q,X q→fP.heap.size≤q∧q<wE.heap.size)(hl:es.length+ts0.length+ts.length≤900)(hu:∀(γ:Gh) (w:World) (x:Value),s2 wb γ w d2 x→x=u)
 (hT:∀t,t∈T→∃a,(t,a)∈ts0) (hts:∀p,p∈ts→p.1<4) (h1:R s1=some (.k (.pointer (some ⟨b,0,none⟩))):=by rfl) (h2:R s2'=some d2:=by rfl) (hd:d.r2=true:=by rfl) (hf:Oz Tryz.prog f=true:=by kernel_rfl):OkF Tryz.prog wb N ⟨dst,.call ⟨.value (.func f),#[.tmp s1,.tmp s2'],BC⟩,t,p,e,gd⟩ i R Z T (ΘB fP wE b rs es Z X ts0) (ΘB fP wE b rs es Z X (ts0++ts.map fun p=>(4*i+p.1,p.2))) (d.rn i):=⟨fun Q γ a w F K hz hW Tt hR hΘ hK=>by
 obtain⟨es',vl,vf,vu,Us,hEw,hnb,hrt,hbq⟩:=hΘ
 have hbw:=hW.bel.size
 have hw0:=hw.size
 have hB:Below fP.heap.size fP w:=⟨hW.bel.os.trans hw.os,hW.bel.tape.trans hw.tape,hW.bel.output.trans hw.output,om,fun q hq=>(hW.bel.block q om).trans (hw.block q hq)⟩
 have hc:=hC.h w (es++es') Us vl vf vu _ hB hnb (fun q hq=>hq.elim (fun h=>⟨(hX q h).1,by have:=(hX q h).2;omega⟩) fun⟨i,hi⟩=>⟨by have:=(hW.bn i q hi).1;omega,(hW.bn i q hi).2⟩) (by rw[List.length_append,hrt.len];omega)
 have e1:a.eval (.tmp s1)= .pointer (some ⟨b,0,none⟩):=(ak _ _).trans (hR s1 _ h1)
 have e2:a.eval (.tmp s2')=u:=(ak _ _).trans (hu γ w _ (hR s2' _ h2))
 unfold Oper.wp
 rw[kX hf,Oper.upon_enter]
 simp only[List.map_cons,List.map_nil,e1,e2]
 refine hc.mono ?_
 rintro e w' ⟨κ,v,es2,oI,oJ,oK,Us',rfl,bel,k1,k2,hv,hrt2,hnb',hbq'⟩
 have hsz:=bel.size
 have hle:wb.heap.size≤w'.heap.size:=om
 have fr:=(hW.fr i Tt).2
 have hek:∀t x,γ.κ t=some x→(γ.cal i κ).κ t=some x:=fun t x h=>by
  show(if 4*i≤t∧t<4*i+4 then κ (t-4*i)else γ.κ t)=_;rw[if_neg fun hh=>by
   have:=fr (t-4*i) om;rw[show 4*i+(t-4*i)=t from om,h]at this;cases this]
  exact h
 have nbx:∀i q,γ.β i=some q→¬Bq b vl vf vu q:=fun i q hi=>(hnb.nx q (.inr ⟨i,hi⟩)).1
 have hbs:∀q,q<wb.heap.size→¬Z q→(JR wb w').heap[q]? =wb.heap[q]? :=fun q hq hn=>(qJ hq).trans ((bel.block q om fun h=>(hbq q h).elim hn fun h=>om).trans (hW.bel.block q hq))
 have hg:∀g,g<fP.heap.size→(JR wb w').heap[g]? =wb.heap[g]? :=fun g hg=>(qJ om).trans ((bel.block g om fun h=>by have:=hnb.hq g h;omega).trans (hW.bel.block g om))
 refine hK (γ.cal i κ) v w' (JR wb w') ⟨oL hle,hsz,fun _ _ h=>h,hek,fun j q hq=>bel.block q (hW.bn j q hq).2 (nbx j q hq),fun t q ht hq=>?_⟩ ⟨bel.os.trans hW.bel.os,bel.tape.trans hW.bel.tape,bel.output.trans hW.bel.output,Nat.le_of_eq (oL hle).symm,hbs⟩ ⟨hW.j.eq (hg _ hj0.1.1) (hg _ hj0.2.1),Ll hle,fun j q hq=>⟨by rw[oL hle];exact(hW.bn j q hq).1,Nat.lt_of_lt_of_le (hW.bn j q hq).2 hsz⟩,hW.bi,fun t q h=>?_,fun t u q h1 h2=>?_,fun j hj=>⟨(hW.fr j hj.1).1,fun r hr=>?_⟩⟩ (s2.rn (by rw[oL hle];exact hbw) (fun j q h=>(hW.bn j q h).2) hv hd) ⟨es'++es2,oI,oJ,oK,Us',om,by rw[←List.append_assoc];exact hnb',(hrt.up hek).app (hrt2.rn om hts),fun q hq=>(hbq' q hq).elim (hbq q) fun h=> .inr om⟩
 ·obtain⟨a,ha⟩:=hT t ht;obtain⟨e,he,hk⟩:=hrt.get ha;rw[hq]at hk;cases hk;have hm:e∈es++es':=List.mem_append.2 (.inr he);exact bel.block e.1 (hnb.lt hm).2 (hnb.nq e hm)
 ·replace h:(if 4*i≤t∧t<4*i+4 then κ (t-4*i)else γ.κ t)=some (some q):=h;rw[oL hle];split at h
  ·have:=k1 _ _ h;exact⟨om,this.2,fun j hj=>by have:=(hW.bn j q hj).2;omega⟩
  ·have:=hW.kn t q h;exact⟨this.1,om,this.2.2⟩
 ·replace h1:(if 4*i≤t∧t<4*i+4 then κ (t-4*i)else γ.κ t)=some (some q):=h1;replace h2:(if 4*i≤u∧u<4*i+4 then κ (u-4*i)else γ.κ u)=some (some q):=h2;split at h1<;>split at h2
  ·have:=k2 _ _ _ h1 h2;omega
  ·have:=(k1 _ _ h1).1;have:=(hW.kn u q h2).2.1;omega
  ·have:=(k1 _ _ h2).1;have:=(hW.kn t q h1).2.1;omega
  ·exact hW.ki t u q h1 h2
 ·show(if 4*i≤4*j+r∧4*j+r<4*i+4 then κ (4*j+r-4*i)else γ.κ _)=none;rw[if_neg fun hh=>hj.2 om];exact(hW.fr j hj.1).2 r hr⟩
theorem InA.fin{wb:World}{N c:Nat}{E:En}{Bx:Bs}{a:Act}{tg:List Nat}{tin tout:List (Nat×List Nat)}{d:Δ}{v:Value}(S:PS wb N c E Bx γ a w')(hsz:wb.heap.size=w.heap.size)(hbz:aI w (Bq b vl vf vu) wb)(hθ:ΘB fP w b rs es (Bq b vl vf vu) X tin γ w')(hv:s2 wb γ w' (d.tg tg) v)(hX:∀q,X q→q<w.heap.size)(hrt:∀es',RT γ w.heap.size tin es'→RT ⟨fun _=>none,fun u=>if u<tg.length then γ.κ (tg.getD u 0)else none⟩ w.heap.size tout es')(hn:d.n2 tg.length=true:=by rfl)(hd:FO tg=true:=by rfl):InA fP w b rs es tout d vl vf vu X (.returned v) w':=by
 obtain⟨es',oI,oJ,oK,Us,_,hnb,hr,hbq⟩:=hθ;have hbl:=S.W.bel;have hbs:=hbl.size;refine⟨fun u=>if u<tg.length then γ.κ (tg.getD u 0)else none,v,es',oI,oJ,oK,Us,rfl,⟨hbl.os.trans hbz.os,hbl.tape.trans hbz.tape,hbl.output.trans hbz.output,om,fun q hq hq2=>(hbl.block q om).trans (hbz.block q hq hq2)⟩,fun t q h=>?_,fun t u q h1 h2=>?_,s2.rb om (s2.tg (γ':=gO w _) (fun u hu=>if_pos hu) hv hn),hrt es' hr,hnb.st (Nat.le_refl _) (fun _ _ _=>rfl) fun q hq=> .inl (.inl hq),hbq⟩
 ·dsimp only at h;split at h
  ·rw[←hsz];exact⟨(S.W.kn _ q h).1,(S.W.kn _ q h).2.1⟩
  ·cases h
 ·dsimp only at h1 h2;split at h1
  ·split at h2
   ·exact Eu hd t u ‹_› ‹_› (S.W.ki _ _ q h1 h2)
   ·cases h2
  ·cases h1
end
section
open Go Go.RowKit Go.Proofs Ab
variable {w0 w w' fP wE:World} {γ γ':Gh} {b:Nat} {rs:Rs} {vl vf vu:Value} {es:List Ro} {Us:List Value} {X X' Z:Nat→Prop}
theorem UB{f:FuncId}{fn:Func}{code:Code}{ds:List Δ}{vs:List Value}{R:Ending→World→Prop}(hf:Tryz.prog.funcs[f]? =some fn)(hb:fn.body=some code)(hn:Nat.ble ds.length fn.ntmps=true)(hj:Jw w)(h:l1 w g0 w ds vs)(k:∀a:Act,PS w fn.ntmps 0 ((ds.zipIdx).map (fun p=>(p.2,p.1))) [] g0 a w→code.wp Tryz.prog (bodyPost Tryz.prog fn R) a w):Calls Tryz.prog f vs.toArray w R:=by
 have hl:=h.len;refine dm hf hb (by rw[hl];exact Nat.le_of_ble_eq_true hn) fun a z e dd=>?_
 refine k a ⟨wi_0 hj,z,dd,fun t d ht=>?_,fun i b h=>by cases h⟩;have:=Tu (E:=[]) (k:=0) h (fun j hj=>by rw[Nat.zero_add];exact e j hj) (fun t d h=>by cases h) t d (by rw[List.append_nil];exact ht);exact this
theorem res1{P:Program}{fn:Func}{r:ResultVar}{tmps:Array Value}{v:Value}(hr:fn.results.toList=[r])(h1:(Y1 tmps r).run P w= .ok v w):(results fn tmps).run P w= .ok v w:=by
 have:(fn.results.toList.mapM (Y1 tmps)).run P w= .ok [v] w:=by rw[hr];simp only[List.mapM_cons,List.mapM_nil,Sem.run_bind,Sem.run_pure,h1,Result.andThen_ok]
 rw[Ey this];rfl
theorem gk2{x y v:Value}(h:s2 w0 γ w (.g [.k x,.k y]) v):v= .agg #[x,y]:=by
 obtain⟨xs,e,h⟩:=h;match xs,h with
 |[_,_],⟨h1,h2,_⟩=>cases h1;cases h2;exact e
theorem gk3{x y z v:Value}(h:s2 w0 γ w (.g [.k x,.k y,.k z]) v):v= .agg #[x,y,z]:=by
 obtain⟨xs,e,h⟩:=h;match xs,h with
 |[_,_,_],⟨h1,h2,h3,_⟩=>cases h1;cases h2;cases h3;exact e
theorem θ_0{F:Nat→Prop}(hnb:NB fP w b rs vl vf vu es Us X)(hW:Wi w γ w' F):ΘB fP w b rs es (Bq b vl vf vu) X [] γ w':=
 ⟨[],vl,vf,vu,Us,hW.bel.size,by rw[List.append_nil];exact hnb.st hW.bel.size (fun q hq _=>hW.bel.block q hq) (fun q hq=>hq.elim .inl fun⟨i,hi⟩=> .inr (hW.bn i q hi).1),trivial,fun q h=> .inl h⟩
theorem kH{wb:World}(hB:Below fP.heap.size fP w)(hb:aI w Z wb)(hZ:∀q,Z q→fP.heap.size≤q):Below fP.heap.size fP wb:=
 ⟨hb.os.trans hB.os,hb.tape.trans hB.tape,hb.output.trans hB.output,Nat.le_trans hB.size hb.size,fun q hq=>(hb.block q (Nat.lt_of_lt_of_le hq hB.size) fun h=>by have:=hZ q h;omega).trans (hB.block q hq)⟩
variable {H:Nat→Prop} {va vd:Value} {s:Bool} {a d:List Nat}
theorem Zw(hH:∀q,H q→q<fP.heap.size)(hva:Rep0 fP H va (.l 1 (W a)))(la:a.length≤1000000000)(hj0:Jw fP):InC fP b rs 7 (.agg #[.bool s,va]) [(0,a)] (.g [.k (.bool s),.ow a 0]):=⟨fun w es Us vl vf vu X hB hnb hX hl=>by
 simp only[List.length_cons,List.length_nil]at hl;refine UB Tryz.func7 (code:=qf Tryz.f7) rfl rfl (hj0.up hB) (ds:=[.k (.pointer (some ⟨b,0,none⟩)),.g [.k (.bool s),.k va]]) (vs:=[.pointer (some ⟨b,0,none⟩),.agg #[.bool s,va]]) ⟨rfl,⟨[.bool s,va],rfl,rfl,rfl,trivial⟩,trivial⟩ fun ac S=>?_
 have Zx:=hnb.hq;refine wp_seq (wp_region_lit ?_);(refine ax S (px) ?_;clear S;intro _ _ _ S);(refine ax S (px) ?_;clear S;intro _ _ _ S);refine b_ ?_;have h0:=θ_0 hnb S.W;refine wp_seq (Uz (Z0:=Bq b vl vf vu) 9 [_,_,_,_,_,_,_,_,_] [_,_,_,_,_,_,_,_,_] [none,none,none,none,none,none,none,some 0,none] [[(3,none)],[(5,some 0)],[(0,none)],[(7,some 2)],[(8,some 3)],[(3,none)],[(10,some 5)],[(9,some 4),(11,some 6)],[(6,some 1),(12,some 7)]] [[36]] (fun k=>ΘB fP w b rs es (Bq b vl vf vu) X ([(36,a)].take k)) (fun _=>ΘB.up) rfl S h0 aX kf kf kf kf ⟨fun w1 h1 h2=>px,fun w1 h1 h2=>px,fun w1 h1 h2=>px,fun w1 h1 h2=>aY,fun w1 h1 h2=>aY,fun w1 h1 h2=>px,fun w1 h1 h2=>px,⟨rfl,fun w1 h1 h2=>BA (d2:= .k va) (in_c hH hva la) hj0 (kH hB h2 Zx) h1 hX (by simp;omega) (fun _ _ _ h=>h) (fun t h=>by simp at h) (fun p h=>by simp at h;subst h;show 0<4;decide)⟩,fun w1 h1 h2=>px,trivial⟩ ?_);intro w1 γ' a' w' hsz hbz S';clear S h0;have S:=S';clear S';refine Dc S rfl rfl rfl kf rfl rfl rfl ?_;clear S;intro _ _ S;refine b_ ?_;refine wp_ret ?_;obtain⟨v,hv1,hv2⟩:=Ew S (r:= .cell 4 25) (d:= .g [.k (.bool s),.ow a 36]) ⟨_,_,_,rfl,rfl,rfl⟩ kf;exact⟨S.df,v,res1 rfl hv1,InA.fin (tg:=[36]) S hsz hbz (S.env 9999 _ rfl) hv2 (fun q h=>(hX q h).2) fun es' h=>match es',h with|[_],⟨h1,h2,h3,_⟩=>⟨h1,h2,h3,trivial⟩⟩⟩
variable {Hd:Nat→Prop}
theorem rat_c(hH:∀q,H q→q<fP.heap.size)(hva:Rep0 fP H va (.l 1 (W a)))(la:a.length≤1000000000)(hHd:∀q,Hd q→q<fP.heap.size)(hvd:Rep0 fP Hd vd (.l 1 (W d)))(ld:d.length≤1000000000)(hj0:Jw fP):InC fP b rs 8 (.agg #[.bool s,va,vd]) [(0,a),(1,d)] (.g [.k (.bool s),.ow a 0,.ow d 1]):=⟨fun w es Us vl vf vu X hB hnb hX hl=>by
 simp only[List.length_cons,List.length_nil]at hl;refine UB Tryz.func8 (code:=qf Tryz.f8) rfl rfl (hj0.up hB) (ds:=[.k (.pointer (some ⟨b,0,none⟩)),.g [.k (.bool s),.k va,.k vd]]) (vs:=[.pointer (some ⟨b,0,none⟩),.agg #[.bool s,va,vd]]) ⟨rfl,⟨[.bool s,va,vd],rfl,rfl,rfl,rfl,trivial⟩,trivial⟩ fun ac S=>?_
 have Zx:=hnb.hq;refine wp_seq (wp_region_lit ?_);(refine ax S (px) ?_;clear S;intro _ _ _ S);(refine ax S (px) ?_;clear S;intro _ _ _ S);refine b_ ?_;have h0:=θ_0 hnb S.W;refine wp_seq (Uz (Z0:=Bq b vl vf vu) 11 [_,_,_,_,_,_,_,_,_,_,_] [_,_,_,_,_,_,_,_,_,_,_] [none,none,none,some 0,none,none,none,none,none,some 1,none] [[(0,none)],[(3,none)],[(6,some 1)],[(5,some 0),(7,some 2)],[(0,none)],[(9,some 4)],[(10,some 5)],[(3,none)],[(12,some 7)],[(11,some 6),(13,some 8)],[(8,some 3),(14,some 9)]] [[20],[44]] (fun k=>ΘB fP w b rs es (Bq b vl vf vu) X ([(20,a),(44,d)].take k)) (fun _=>ΘB.up) rfl S h0 aX kf kf kf kf ⟨fun w1 h1 h2=>px,fun w1 h1 h2=>px,fun w1 h1 h2=>px,⟨rfl,fun w1 h1 h2=>BA (d2:= .g [.k (.bool s),.k va]) (Zw hH hva la hj0) hj0 (kH hB h2 Zx) h1 hX (by simp;omega) (fun _ _ _ h=>gk2 h) (fun t h=>by simp at h) (fun p h=>by simp at h;subst h;show 0<4;decide)⟩,fun w1 h1 h2=>px,fun w1 h1 h2=>aY,fun w1 h1 h2=>aY,fun w1 h1 h2=>px,fun w1 h1 h2=>px,⟨rfl,fun w1 h1 h2=>BA (d2:= .k vd) (in_c hHd hvd ld) hj0 (kH hB h2 Zx) h1 hX (by simp;omega) (fun _ _ _ h=>h) (fun t h=>by simp at h;subst h;exact⟨a,sy⟩) (fun p h=>by simp at h;subst h;show 0<4;decide)⟩,fun w1 h1 h2=>px,trivial⟩ ?_);intro w1 γ' a' w' hsz hbz S';clear S h0;have S:=S';clear S';refine Dc S rfl rfl rfl kf rfl rfl rfl ?_;clear S;intro _ _ S;refine b_ ?_;refine wp_ret ?_;obtain⟨v,hv1,hv2⟩:=Ew S (r:= .cell 4 29) (d:= .g [.k (.bool s),.ow a 20,.ow d 44]) ⟨_,_,_,rfl,rfl,rfl⟩ kf;exact⟨S.df,v,res1 rfl hv1,InA.fin (tg:=[20,44]) S hsz hbz (S.env 9999 _ rfl) hv2 (fun q h=>(hX q h).2) fun es' h=>match es',h with|[_,_],⟨h1,h2,h3,h4,h5,h6,_⟩=>⟨h1,h2,h3,h4,h5,h6,trivial⟩⟩⟩
end
section
open Go Go.RowKit Go.Proofs Ab
theorem Yk{s t:Bool}{a1 a2:List Nat}{x y:Int}{k D0:Nat}(hk:k<100)(hx:zv s a1=x)(ha:Wd a1)(la:a1.length≤1048576)(hy:zv t a2=y)(hb:Wd a2)(lb:a2.length≤1048576):∀A,A∈Yh x k y D0→A.length≤1000000000:=by
 have hk1:k≤1048576:=om;obtain⟨M,hM⟩:∃M:Nat,M=1048576:=⟨_,rfl⟩;have gx:x.natAbs<B^M:=by rw[←hx];exact dD ha om
 have gy:y.natAbs<B^M:=by rw[←hy];exact dD hb om
 obtain⟨_,g2⟩:=t_ s a1 k 1048576 false hk1 ha la dc dc;obtain⟨_,g3⟩:=u_ s a1 k 1048576 false hk1 ha la dc dc;obtain⟨_,g5⟩:=wV s a1 k 1048576 false hk1 ha la dc dc;rw[hx]at g2 g3 g5;rw[show hiN x false=x+1 from rfl]at g3 g5;obtain⟨n2,d2⟩:=EC g2;obtain⟨n3,d3⟩:=EC g3;obtain⟨n5,d5⟩:=EC g5;have f:∀{m v:Nat},v<B^m→m≤1000000000→(dg B v).length≤1000000000:=fun h hm=>Nat.le_trans (bC h) hm
 have b2:(2:Nat)≤B:=B2;have e1:(x*2).natAbs<B^(M+1):=by
  rw[Nat.pow_succ,Int.natAbs_mul];exact Nat.mul_lt_mul_of_lt_of_le gx b2 dc
 have e2:(x*2+1).natAbs<B^(M+1):=by
  have h1:(x*2+1).natAbs≤x.natAbs*2+1:=om;have h2:(x.natAbs+1)*2≤B^M*B:=Nat.mul_le_mul gx b2;rw[Nat.pow_succ];omega
 have e3:(x.fdiv 2).natAbs<B^(M+1):=EE (v:=2) gx;have e4:(EG y D0 7).natAbs<B^(M+16384+1):=EE (Og gy dc);intro A hA;simp only[Yh,List.mem_cons,List.not_mem_nil,or_false]at hA;rcases hA with rfl|rfl|rfl|rfl|rfl|rfl|rfl|rfl|rfl|rfl|rfl|rfl|rfl|rfl|rfl|rfl
 ·exact f gx om
 ·exact f e1 om
 ·exact f e2 om
 ·exact f e2 om
 ·exact f e3 om
 ·exact f e4 om
 ·exact f n2 dc
 ·exact f d2 dc
 ·exact f n3 dc
 ·exact f d3 dc
 ·exact f n5 dc
 ·exact f d5 dc
 ·exact f n2 dc
 ·exact f d2 dc
 ·exact f n2 dc
 ·exact f d2 dc
theorem cell_x{wb w:World}{γ:Gh}{i t:Nat}{ty:TypeId}{s k p:Value}{A:List Nat}(h:bx wb γ w i (ty,[.k s,.ow A t,.k k,.k p])):∃q v,γ.β i=some q∧w.heap[q]? =some (.cells #[s,v,k,p] ty (0,0))∧(Own wb A v w∧γ.κ t=some v.ownBlock):=by
 obtain⟨q,xs,h1,h2,h3⟩:=h;obtain⟨a0,r0,e0,k0,h3⟩:=h3.c;obtain⟨a1,r1,e1,k1,h3⟩:=h3.c;obtain⟨a2,r2,e2,k2,h3⟩:=h3.c;obtain⟨a3,r3,e3,k3,h3⟩:=h3.c;rw[h3.n]at e3;subst e3 e2 e1 e0;have j0:a0=s:=k0;have j2:a2=k:=k2;have j3:a3=p:=k3;subst j0 j2 j3;exact⟨q,a1,h1,h2,k1⟩
theorem ok_bp{w0:World}{N i:Nat}{R:Nat→Option Δ}{Bx:Bs}{dst:Option Tmp}{t:TypeId}{p:String}{e:Array Edge}{gd:Option (Nat×Bool)}:Ok Tryz.prog w0 N ⟨dst,.build 41 #[],t,p,e,gd⟩ i R Bx (.g [.k iy,.k iy,.k iy,.k iy,.k iy,.k iy,.k iy]) none:=
 yF fun γ w a hR=>⟨#[iy,iy,iy,iy,iy,iy,iy],by kernel_rfl,[iy,iy,iy,iy,iy,iy,iy],rfl,l0.k [iy,iy,iy,iy,iy,iy,iy]⟩
theorem UC{w:World}{lo b:Nat}{A:List Nat}{n c:Nat}(h:w.ownsRow 0 31 1 (.slice (some ⟨b,0,none⟩) (n+5) c) (n+5) (Wv (A++List.replicate 5 0)))(hA:A.length=n)(hl:lo≤b):w.ownsRow lo 31 1 (.slice (some ⟨b,0,none⟩) n c) n (Wv A):=by
 have hc:=KW (n:=n) (k:=5) h;have e1:(Wv (A++List.replicate 5 0)).take n=Wv A:=by
  rw[Wv,Wv,List.map_append,List.take_append_of_le_length (by simp[hA]),List.take_of_length_le (by simp[hA])]
 rw[e1]at hc;exact ownB hc fun q hq=>by cases hq;exact hl
theorem law_B{fP:World}{ac:Act}{b2 b3 k:Nat}{s t:Bool}{va vb vd:Value}{a1 a2 a3:List Nat}{x y:Int}{D0:Nat}(hj:Jw fP)(hz:ac.tmps.size=230)(hdf:ac.defers=[])(e2:ac.tmps.getD 2 undef= .pointer (some ⟨b2,0,none⟩))(e3:ac.tmps.getD 3 undef= .pointer (some ⟨b3,0,none⟩))
 (g2:fP.heap[b2]? =some (.cells #[.bool s,va,.int .i64 (k:Int),.bool false] 27 (0,0))) (g3:fP.heap[b3]? =some (.cells #[.bool t,vb,vd] 29 (0,0)))
 (ra:Rep0 fP (fun q=>q<fP.heap.size) va (.l 1 (W a1))) (rb:Rep0 fP (fun q=>q<fP.heap.size) vb (.l 1 (W a2))) (rd:Rep0 fP (fun q=>q<fP.heap.size) vd (.l 1 (W a3)))
 (hk:k<100) (hx:zv s a1=x) (wa:Wd a1) (la:a1.length≤1048576) (hy:zv t a2=y) (wb:Wd a2) (lb:a2.length≤1048576) (hD:nv B a3=D0) (wd:Wd a3) (ld:a3.length≤1048576) (d0:D0≠0):
 (qd 5 (qf Tryz.f3)).wp Tryz.prog (bodyPost Tryz.prog Tryz.f3 (fun e w'=>e= .returned (.bool true)∧Below fP.heap.size fP w')) ac fP:=by
 have S:=sU (w:=fP) (E:=[(2,.k (.pointer (some ⟨b2,0,none⟩))),(3,.k (.pointer (some ⟨b3,0,none⟩)))]) hj hz hdf ⟨e2,e3,trivial⟩
 refine wp_seq (wp_region_lit ?_)
 (refine ax S (ok_bp) ?_;clear S;intro _ _ _ S)
 (refine ax S (px) ?_;clear S;intro _ _ _ S)
 (refine ax S (px) ?_;clear S;intro _ _ _ S)
 rename_i γ7 a7 w
 refine b_ ?_
 obtain⟨b,hb0,e5⟩:=S.env 5 _ rfl
 obtain⟨b',hb1,hbc⟩:=k_b (xs:=[iy,iy,iy,iy,iy,iy,iy]) (S.box 1 _ rfl)
 obtain rfl:b=b':=Option.some.inj (hb0.symm.trans hb1)
 have bb:=S.W.bn _ _ hb0
 have B7:=S.W.bel
 have j7:=hj.up B7
 have S1:=sU (w:=w) (E:=[(2,.k (.pointer (some ⟨b2,0,none⟩))),(3,.k (.pointer (some ⟨b3,0,none⟩))),(5,.k (.pointer (some ⟨b,0,none⟩)))]) j7 S.sz S.df ⟨S.env 2 _ rfl,S.env 3 _ rfl,e5,trivial⟩
 clear S
 have S:=S1
 clear S1
 obtain⟨vl,Zg⟩:∃v:Value,v=iy:=⟨_,rfl⟩
 obtain⟨vf,Zh⟩:∃v:Value,v=iy:=⟨_,rfl⟩
 obtain⟨vu,evu⟩:∃v:Value,v=iy:=⟨_,rfl⟩
 obtain⟨rs,ers⟩:∃r:Rs,r=(iy,iy,iy,iy):=⟨_,rfl⟩
 obtain⟨es,ees⟩:∃l:List Ro,l=[]:=⟨_,rfl⟩
 obtain⟨X,hX⟩:∃X:Nat→Prop,∀q,¬X q:=⟨fun _=>False,fun _ h=>h⟩
 have bq0:∀q,Bq b vl vf vu q→q=b:=fun q h=>by
  subst Zg Zh evu;rcases h with h|h|h|h
  ·exact h
  ·cases h
  ·cases h
  ·cases h
 have l2:=(Array.getElem?_eq_some_iff.1 g2).1
 have l3:=(Array.getElem?_eq_some_iff.1 g3).1
 have hnb:NB fP w b rs vl vf vu es [] X:=by
  subst Zg Zh evu ers ees;exact⟨⟨⟨1,rfl,.inr ⟨b,1,_,rfl,Nat.zero_le _,hbc,Nat.le_refl _,dc,rfl,rfl⟩⟩,mr _ _ _ _,mr _ _ _ _,mr _ _ _ _,fun q h=>(by cases h),fun q h=>(by cases h),fun q h=>(by cases h),rfl,rfl,rfl,rfl⟩,rfl,fun e he=>(by simp at he),fun e he=>(by simp at he),List.Pairwise.nil,fun j u e h=>(by simp at h),fun u hu=>(by simp at hu),fun q hq=>by rw[bq0 q hq];exact bb.1,fun q h=>(hX q h).elim⟩
 have Zx:=hnb.hq
 have h0:=θ_0 hnb S.W
 have hXX:∀q,X q→fP.heap.size≤q∧q<w.heap.size:=fun q h=>(hX q h).elim
 have les:es.length=0:=by rw[ees];rfl
 have ho2:∀w1,w1.heap.size=w.heap.size→aI w (Bq b vl vf vu) w1→Old w1 b2 [.k (.bool s),.k va,.k (.int .i64 (k:Int)),.k (.bool false)]:=fun w1 _ h2=>bW (xs:=[.bool s,va,.int .i64 (k:Int),.bool false]) ((h2.block b2 (Nat.lt_of_lt_of_le l2 B7.size) fun h=>by have:=bq0 _ h;have:=bb.1;omega).trans ((B7.block b2 l2).trans g2))
 have ho3:∀w1,w1.heap.size=w.heap.size→aI w (Bq b vl vf vu) w1→Old w1 b3 [.k (.bool t),.k vb,.k vd]:=fun w1 _ h2=>bW (xs:=[.bool t,vb,vd]) ((h2.block b3 (Nat.lt_of_lt_of_le l3 B7.size) fun h=>by have:=bq0 _ h;have:=bb.1;omega).trans ((B7.block b3 l3).trans g3))
 refine wp_seq (Uz (Z0:=Bq b vl vf vu) 12 [_,_,_,_,_,_,_,_,_,_,_,_] [_,_,_,_,_,_,_,_,_,_,_,_] [none,none,none,some 0,none,none,none,none,none,some 1,none,none] [[(5,none)],[(2,none)],[(48,some 1)],[(47,some 0),(49,some 2)],[(2,none)],[(51,some 4)],[(50,some 3),(52,some 5)],[(5,none)],[(3,none)],[(54,some 7),(55,some 8)],[],[]] [[12],[36,37]] (fun k=>ΘB fP w b rs es (Bq b vl vf vu) X (([[(12,a1)],[(36,a2),(37,a3)]].take k).flatten)) (fun _=>ΘB.up) rfl S h0 aX kf kf kf kf ⟨fun w1 h1 h2=>px,fun w1 h1 h2=>Zc rfl,fun w1 h1 h2=>lo_i rfl (ho2 w1 h1 h2) rfl,⟨rfl,fun w1 h1 h2=>BA (d2:= .g [.k (.bool s),.k va]) (Zw (fun q h=>h) ra om hj) hj (kH B7 h2 Zx) h1 hXX (by simp[les]) (fun _ _ _ h=>gk2 h) (fun t h=>by simp at h) (fun p h=>by simp at h;subst h;show 0<4;decide)⟩,fun w1 h1 h2=>Zd rfl,fun w1 h1 h2=>lo_z rfl (ho2 w1 h1 h2) rfl,fun w1 h1 h2=>px,fun w1 h1 h2=>px,fun w1 h1 h2=>GY rfl (ho3 w1 h1 h2) rfl,⟨rfl,fun w1 h1 h2=>BA (d2:= .g [.k (.bool t),.k vb,.k vd]) (rat_c (fun q h=>h) rb om (fun q h=>h) rd om hj) hj (kH B7 h2 Zx) h1 hXX (by simp[les]) (fun _ _ _ h=>gk3 h) (fun t h=>by simp at h;subst h;exact⟨a1,sy⟩) (fun p h=>by simp at h;rcases h with rfl|rfl;(show 0<4;decide);(show 1<4;decide))⟩,fun w1 h1 h2=>px,fun w1 h1 h2=>px,trivial⟩ ?_)
 intro w1 γ8 a8 w8' hsz hbz S'
 clear S h0
 have S:=S'
 clear S'
 refine Dc S rfl rfl rfl kf rfl rfl rfl ?_
 clear S
 intro _ _ S
 refine Dc S rfl rfl rfl kf rfl rfl rfl ?_
 clear S
 intro a9 w8 S
 refine b_ ?_
 obtain⟨q6,hq60,e6⟩:=S.env 6 _ rfl
 obtain⟨q6',x6,hq61,g6,o6,_⟩:=cell_x (S.box 10 _ rfl)
 obtain rfl:q6=q6':=Option.some.inj (hq60.symm.trans hq61)
 obtain⟨q7,hq70,e7⟩:=S.env 7 _ rfl
 obtain⟨q7',x7,x8,hq71,g7,⟨o7,_⟩,⟨o8,_⟩⟩:=Di (S.box 11 _ rfl)
 obtain rfl:q7=q7':=Option.some.inj (hq70.symm.trans hq71)
 obtain⟨es',oI,oJ,oK,Us',_,Hm,hrt,hbq8⟩:=S.env 9999 _ rfl
 subst ees
 rw[List.nil_append]at Hm
 have hlen:es'.length=3:=hrt.len
 have hmem:∀e,e∈es'→(e.2.2=a1∨e.2.2=a2∨e.2.2=a3):=fun e he=>by
  match es',hrt with
  |[r1,r2,r3],⟨h1,_,_,h2,_,_,h3,_⟩=>
   simp only[List.mem_cons,List.not_mem_nil,or_false]at he;rcases he with rfl|rfl|rfl
   ·exact .inl h1
   ·exact .inr (.inl h2)
   ·exact .inr (.inr h3)
 have hrow:∀e,e∈es'→Wd e.2.2∧e.2.2.length≤1048576:=fun e he=>by
  rcases hmem e he with h|h|h<;>rw[h]
  ·exact⟨wa,la⟩
  ·exact⟨wb,lb⟩
  ·exact⟨wd,ld⟩
 have Bw:=kH B7 hbz Zx
 have B8':=S.W.bel
 have Bsz:=Bw.size
 have B8:Below fP.heap.size fP w8:=⟨B8'.os.trans Bw.os,B8'.tape.trans Bw.tape,B8'.output.trans Bw.output,Nat.le_trans Bw.size B8'.size,fun q hq=>(B8'.block q (Nat.lt_of_lt_of_le hq Bw.size)).trans (Bw.block q hq)⟩
 have j8:=hj.up B8
 have B8s:=B8.size
 have S9:=sU (w:=w8) (E:=[(2,.k (.pointer (some ⟨b2,0,none⟩))),(3,.k (.pointer (some ⟨b3,0,none⟩))),(5,.k (.pointer (some ⟨b,0,none⟩))),(6,.k (.pointer (some ⟨q6,0,none⟩))),(7,.k (.pointer (some ⟨q7,0,none⟩)))]) j8 S.sz S.df ⟨S.env 2 _ rfl,S.env 3 _ rfl,S.env 5 _ rfl,e6,e7,trivial⟩
 clear S
 subst ers
 have hro:∀q,Zr es' q→fP.heap.size≤q:=fun q ⟨e,he,h⟩=>by rw[h];exact(Hm.lt he).1
 have old8:∀{v:Value} {A:List Nat},Rep0 fP (fun q=>q<fP.heap.size) v (.l 1 (W A))→∀γ w F,Wi w8 γ w F→s0 w8 γ w (.rz (Zr es') A) v:=fun h γ w F hW=>TP (H:=fun q=>q<fP.heap.size) hW (fun q hq=>⟨om,fun hz=>by have:=hro q hz;omega⟩) (h.mono (fun _ h=>h) fun q hq=>B8.block q hq)
 have h2:Old w8 b2 [.k (.bool s),.rz (Zr es') a1,.k (.int .i64 (k:Int)),.k (.bool false)]:=⟨[.bool s,va,.int .i64 (k:Int),.bool false],_,(B8.block b2 l2).trans g2,fun γ w F hW=>⟨rfl,old8 ra γ w F hW,rfl,rfl,trivial⟩⟩
 have h3:Old w8 b3 [.k (.bool t),.rz (Zr es') a2,.rz (Zr es') a3]:=⟨[.bool t,vb,vd],_,(B8.block b3 l3).trans g3,fun γ w F hW=>⟨rfl,old8 rb γ w F hW,old8 rd γ w F hW,trivial⟩⟩
 have h6:Old w8 q6 [.k (.bool s),.rd a1,.k (.int .i64 (k:Int)),.k (.bool false)]:=⟨[.bool s,x6,.int .i64 (k:Int),.bool false],_,g6,fun γ w F hW=>⟨rfl,JP hW o6.rep,rfl,rfl,trivial⟩⟩
 have h7:Old w8 q7 [.k (.bool t),.rd a2,.rd a3]:=⟨[.bool t,x7,x8],_,g7,fun γ w F hW=>⟨rfl,JP hW o7.rep,JP hW o8.rep,trivial⟩⟩
 have hZ:∀q,Zr es' q→q<w8.heap.size:=fun q ⟨e,he,h⟩=>by rw[h];exact(Hm.lt he).2
 have hnz:∀q,q<fP.heap.size→¬Zr es' q:=fun q hq h=>by have:=hro q h;omega
 have hrn:∀w,Below w8.heap.size w8 w→∀e,e∈es'→uu w e.1 e.2.2.length e.2.1∧e.2.2.length≤1000000000:=fun w hb e he=>by
  obtain⟨h1,h2⟩:=hrow e he;exact⟨⟨e.2.2,rfl,fun x hx=>h1 x hx,dX ((Hm.keep hb).own e he) (Nat.zero_le _)⟩,om⟩
 refine law_1 (Z:=Zr es') (Ξ:=fun w'=>(∀e,e∈es'→uu w' e.1 e.2.2.length e.2.1)∧w'.os=w8.os∧w'.tape=w8.tape∧w'.output=w8.output) hk hx wa la hy wb lb hD wd ld d0 h2 h3 h6 h7 hZ (hnz _ l2) (hnz _ hj.1.1) (hnz _ hj.2.1) (fun w hb=>?_) (fun w1 γ' a' w' hΞ hsame hle S=>?_) (fun w hb=>JW (Hm.keep hb) om (fun e he=>by have:=(hrow e he).2;omega) (j8.up hb)) S9
 ·refine(BN (Hm.keep hb) (hrn w hb) om om).mono ?_;rintro e w' ⟨h1,h2,h3⟩;exact⟨h1,h2,h3,h2.os.trans hb.os,h2.tape.trans hb.tape,h2.output.trans hb.output⟩
 ·obtain⟨hrows,hos,htp,hou⟩:=hΞ;have szb:=oL hle;have gbs:∀q,q<w8.heap.size→¬Zr es' q→(JR w8 w1).heap[q]? =w8.heap[q]? :=fun q hq hn=>(qJ hq).trans (hsame q hq hn)
  refine law_3 (n:=3) (fP:=fP) S (Hm.bn.keep fun q hq=>gbs q (Hm.bn.lt q hq) fun⟨e,he,h⟩=>Hm.nq e he (h▸hq)) (by simp[hlen]) (by simp[hlen]) (by rw[Hm.lu,hlen]) (fun v hv=>?_) (fun v hv=>?_) Hm.uc dc dc ⟨fun i j vi vj q hij hi hj' hq hq'=>?_,fun v hv=>?_⟩ hj ⟨hos.trans B8.os,htp.trans B8.tape,hou.trans B8.output,by rw[szb];exact B8.size,fun q hq=>(gbs q om (hnz q hq)).trans (B8.block q hq)⟩ Hm.hq (Yk hk hx wa la hy wb lb)
  ·obtain⟨e,_,rfl⟩:=List.mem_map.1 hv;rfl
  ·obtain⟨e,_,rfl⟩:=List.mem_map.1 hv;rfl
  ·rw[List.getElem?_map,Option.map_eq_some_iff]at hi hj';obtain⟨e,he,rfl⟩:=hi;obtain⟨e',he',rfl⟩:=hj';cases hq;obtain⟨l1',h1'⟩:=List.getElem?_eq_some_iff.1 he;obtain⟨l2',h2'⟩:=List.getElem?_eq_some_iff.1 he';have hp:=List.pairwise_iff_getElem.1 Hm.ds;have e4:e'.1=e.1:=Option.some.inj hq';rw[←h1',←h2']at e4;rcases Nat.lt_or_gt_of_ne hij with h|h
   ·exact hp i j l1' l2' h e4.symm
   ·exact hp j i l2' l1' h e4
  ·obtain⟨e,he,rfl⟩:=List.mem_map.1 hv;obtain⟨A,hA,hAw,ho⟩:=hrows e he;refine⟨A,by rw[hA];have:=(hrow e he).2;omega,?_,fun q hq=>by cases hq;rw[szb];exact(Hm.lt he).2⟩;have ho2:=UC (lo:=fP.heap.size) ho hA (Hm.lt he).1;rw[hA];exact aP ho2 fun q hq=>by cases hq;exact qJ (Hm.lt he).2
end
section
open Go Go.RowKit Go.Proofs Ab
section
variable {w0 w:World} {N i:Nat} {R:Nat→Option Δ} {Bx:Bs} {P:Program} {dst:Option Tmp} {x y:Operand} {tx t ty:TypeId} {p:String} {e:Array Edge} {gd:Option (Nat×Bool)} {k:IntKind} {u v:Int} {r:Value} {γ:Gh}
theorem ok_rm(hx:bI R x (.k (.int k u)))(hy:bI R y (.k (.int k v)))(h0:v≠0)(hr:Value.int k (u.tmod v)=r):Ok P w0 N ⟨dst,.binOp .rem tx x y ty,t,p,e,gd⟩ i R Bx (.k r) none:=
 mD fun γ w a hR _=>by
  have e1:a.eval x= .int k u:=hx.ev hR;have e2:a.eval y= .int k v:=hy.ev hR;exact⟨r,by subst hr;simp[execOp,e1,e2,eqGuard_at_int,binOp,Op.intDiv,h0],rfl⟩
theorem cell_r{j:Nat}{ty:TypeId}{s k p:Value}{A:List Nat}(h:bx w0 γ w j (ty,[.k s,.rd A,.k k,.k p])):∃q v,γ.β j=some q∧w.heap[q]? =some (.cells #[s,v,k,p] ty (0,0))∧Rep0 w (fun q=>q<w.heap.size) v (.l 1 (W A)):=by
 obtain⟨q,xs,h1,h2,h3⟩:=h;obtain⟨a0,r0,e0,k0,h3⟩:=h3.c;obtain⟨a1,r1,e1,k1,h3⟩:=h3.c;obtain⟨a2,r2,e2,k2,h3⟩:=h3.c;obtain⟨a3,r3,e3,k3,h3⟩:=h3.c;rw[h3.n]at e3;subst e3 e2 e1 e0;have j0:a0=s:=k0;have j2:a2=k:=k2;have j3:a3=p:=k3;subst j0 j2 j3;obtain⟨H,hH,hr⟩:=k1;exact⟨q,a1,h1,h2,hr.mono (fun q hq=>(hH q hq).1) fun _ _=>rfl⟩
theorem rat_r{j:Nat}{ty:TypeId}{s:Value}{A D:List Nat}(h:bx w0 γ w j (ty,[.k s,.rd A,.rd D])):∃q v1 v2,γ.β j=some q∧w.heap[q]? =some (.cells #[s,v1,v2] ty (0,0))∧Rep0 w (fun q=>q<w.heap.size) v1 (.l 1 (W A))∧Rep0 w (fun q=>q<w.heap.size) v2 (.l 1 (W D)):=by
 obtain⟨q,xs,h1,h2,h3⟩:=h;obtain⟨a0,r0,e0,k0,h3⟩:=h3.c;obtain⟨a1,r1,e1,k1,h3⟩:=h3.c;obtain⟨a2,r2,e2,k2,h3⟩:=h3.c;rw[h3.n]at e2;subst e2 e1 e0;have j0:a0=s:=k0;subst j0;obtain⟨H,hH,hr⟩:=k1;obtain⟨H',hH',hr'⟩:=k2;exact⟨q,a1,a2,h1,h2,hr.mono (fun q hq=>(hH q hq).1) fun _ _=>rfl,hr'.mono (fun q hq=>(hH' q hq).1) fun _ _=>rfl⟩
end
theorem Ot{P:Program}{fn:Func}{R R':Ending→World→Prop}(hm:∀e w,R e w→R' e w):∀e a w,bodyPost P fn R e a w→bodyPost P fn R' e a w:=fun e a w q=>by
 cases e with
 |normal=>obtain⟨h1,v,h2,h3⟩:=q;exact⟨h1,v,h2,hm _ _ h3⟩
 |ret=>obtain⟨h1,v,h2,h3⟩:=q;exact⟨h1,v,h2,hm _ _ h3⟩
 |exit i=>exact q
 |goto l=>exact q
 |panic ch=>exact⟨q.1,hm _ _ q.2⟩
 |outgrown=>exact hm _ _ q
theorem Zy{w0 w:World}{γ:Gh}{ac:Act}{c k:Nat}{E:En}{Bx:Bs}{s t:Bool}{a1 a2 a3:List Nat}{x y:Int}{D0:Nat}(S:PS w0 230 c E Bx γ ac w)(h2:lk E 2=some (.p 0 0))(h3:lk E 3=some (.p 1 0))(b0:lk Bx 0=some (27,[.k (.bool s),.rd a1,.k (.int .i64 (k:Int)),.k (.bool false)]))(b1:lk Bx 1=some (29,[.k (.bool t),.rd a2,.rd a3]))
 (hk:k<100) (hx:zv s a1=x) (wa:Wd a1) (la:a1.length≤1048576) (hy:zv t a2=y) (wb:Wd a2) (lb:a2.length≤1048576) (hD:nv B a3=D0) (wd:Wd a3) (ld:a3.length≤1048576) (d0:D0≠0):
 (qd 5 (qf Tryz.f3)).wp Tryz.prog (bodyPost Tryz.prog Tryz.f3 (fun e w'=>e= .returned (.bool true)∧Below w0.heap.size w0 w')) ac w:=by
 obtain⟨q2,hq20,e2⟩:=S.env 2 _ h2
 obtain⟨q3,hq30,e3⟩:=S.env 3 _ h3
 obtain⟨q2',va,hq21,g2,ra⟩:=cell_r (S.box 0 _ b0)
 obtain rfl:q2=q2':=Option.some.inj (hq20.symm.trans hq21)
 obtain⟨q3',vb,vd,hq31,g3,rb,rd⟩:=rat_r (S.box 1 _ b1)
 obtain rfl:q3=q3':=Option.some.inj (hq30.symm.trans hq31)
 have hB:=S.W.bel
 exact wp_mono (law_B (S.W.j.up hB) S.sz S.df e2 e3 g2 g3 ra rb rd hk hx wa la hy wb lb hD wd ld d0) (Ot fun e w' ⟨h1,h4⟩=>⟨h1,h4.os.trans hB.os,h4.tape.trans hB.tape,h4.output.trans hB.output,Nat.le_trans hB.size h4.size,fun q hq=>(h4.block q (Nat.lt_of_lt_of_le hq hB.size)).trans (hB.block q hq)⟩)
theorem law_A{w:World}{s t:Bool}{a1 a2 a3:List Nat}{n:Int}{p:Bool}{vs:List Value}(hj:Jw w)(hv:l1 w g0 w [.g [.k (.bool s),.rd a1,.k (.int .i64 n),.k (.bool p)],.g [.k (.bool t),.rd a2,.rd a3]] vs)(wa:Wd a1)(la:a1.length≤1048576)(wb:Wd a2)(lb:a2.length≤1048576)(wd:Wd a3)(ld:a3.length≤1048576):
 Calls Tryz.prog 3 vs.toArray w (fun e w'=>e= .returned (.bool true)∧Below w.heap.size w w'):=by
 have p1:=Ee 5 3 dc dc dc dc
 rw[show rz 5 3=5 from by decide+kernel,show dC 5 3=3 from by decide+kernel]at p1
 replace p1:ah Tryz.prog J0 6 [.i .i64 5,.i .i64 3] (.g [.b false,.l 1 (W (dg B 5)),.l 1 (W (dg B 3))]):=p1
 have hok:=Sj t a2 a3 wd om
 obtain⟨k,hk,hke⟩:∃k:Nat,k<100∧(IntKind.u64.wrap n).tmod 100=(k:Int):=by
  have h1:0≤IntKind.u64.wrap n:=by rw[IntKind.wrap_u64];omega
  have h2:=Int.emod_nonneg (IntKind.u64.wrap n) (show(100:Int)≠0 by decide);have h3:=Int.emod_lt_of_pos (IntKind.u64.wrap n) (show(0:Int)<100 by decide);rw[Int.tmod_eq_emod_of_nonneg h1];exact⟨((IntKind.u64.wrap n)%100).toNat,om,om⟩
 have hkw:IntKind.i64.wrap (k:Int)=(k:Int):=by rw[IntKind.wrap_i64];omega
 refine UB Tryz.func3 (code:=qf Tryz.f3) rfl rfl hj hv fun ac S=>?_
 refine wp_seq (wp_region_lit ?_)
 (refine ax S (px) ?_;clear S;intro _ _ _ S)
 (refine ax S (px) ?_;clear S;intro _ _ _ S)
 (refine ax S (px) ?_;clear S;intro _ _ _ S)
 refine b_ ?_
 refine wp_seq (wp_seq (wp_region_lit ?_))
 (refine ax S (pc (X5)) ?_;clear S;intro _ _ _ S)
 (refine ax S (px) ?_;clear S;intro _ _ _ S)
 refine b_ ?_
 refine aK S rfl (rfl) (wp_skip ?_)
 refine wp_seq (wp_region_lit ?_)
 (refine ax S (px) ?_;clear S;intro _ _ _ S)
 (refine ax S (px) ?_;clear S;intro _ _ _ S)
 (refine ax S (cv_w rfl) ?_;clear S;intro _ _ _ S)
 (refine ax S (ok_rm rfl rfl dc (congrArg (Value.int .u64) hke)) ?_;clear S;intro _ _ _ S)
 (refine ax S (Zk rfl kf (congrArg (Value.int .i64) hkw)) ?_;clear S;intro _ _ _ S)
 (refine ax S (px) ?_;clear S;intro _ _ _ S)
 (refine Zp S rfl rfl rfl kf rfl rfl rfl rfl ?_;clear S;intro _ _ S)
 refine b_ ?_
 refine wp_seq (wp_region_lit ?_)
 (refine ax S (px) ?_;clear S;intro _ _ _ S)
 (refine Zp S rfl rfl rfl kf rfl rfl rfl rfl ?_;clear S;intro _ _ S)
 refine b_ ?_
 refine wp_seq (wp_seq (wp_region_lit ?_))
 (refine ax S (px) ?_;clear S;intro _ _ _ S)
 (refine ax S (pf (d:= .k (.bool (!decide (nv B a3=0)))) hok) ?_;clear S;intro _ _ _ S)
 (refine ax S (px) ?_;clear S;intro _ _ _ S)
 refine b_ ?_
 by_cases hD:nv B a3=0
 ·refine aW S rfl (by simp[hD]) (wp_region_lit ?_);(refine ax S (pf (d:= .g [.k (.bool false),.rd (dg B 5),.rd (dg B 3)]) p1) ?_;clear S;intro _ _ _ S);(refine Dc S rfl rfl rfl kf rfl rfl rfl ?_;clear S;intro _ _ S);refine b_ ?_;exact Zy S rfl rfl rfl rfl hk rfl wa la rfl (az 5) (Nat.le_trans (bC (k:=1) dc) dc) rfl (az 3) (Nat.le_trans (bC (k:=1) dc) dc) (by rw[aS];decide)
 ·refine aK S rfl (by simp[hD]) (wp_skip ?_);exact Zy S rfl rfl rfl rfl hk rfl wa la rfl wb lb rfl wd ld hD
theorem yO(s t p:Bool)(a1 a2 a3:List Nat)(n:Int)(wa:Wd a1)(la:a1.length≤1048576)(wb:Wd a2)(lb:a2.length≤1048576)(wd:Wd a3)(ld:a3.length≤1048576):ah Tryz.prog Jw 3 [cL s a1 n p,rL t a2 a3] (.b true):=by
 refine .of0 rfl fun w H vs hJ hT hH hr=>?_
 obtain⟨hr0,hr1⟩:=hr;obtain⟨v0,v1,rfl⟩:∃v0 v1,vs=[v0,v1]:=by
  match vs,hr0 with
  |[v,u],_=>exact⟨v,u,rfl⟩
 obtain⟨xs,rfl,h0⟩:=(Rep.up (ov:=fun _=>none) (hr1 0 v0 _ rfl rfl)).B_;obtain⟨ys,rfl,h1⟩:=(Rep.up (ov:=fun _=>none) (hr1 1 v1 _ rfl rfl)).B_;have rd0:∀{v:Value} {A:List Nat},Rep0 w H v (.l 1 (W A))→s0 w g0 w (.rd A) v:=fun h=>⟨H,fun q hq=>⟨hH q hq,fun _ h=>by cases h⟩,h⟩
 refine(law_A (s:=s) (t:=t) (p:=p) (a1:=a1) (a2:=a2) (a3:=a3) (n:=n) (vs:=[.agg xs.toArray,.agg ys.toArray]) hJ ⟨⟨xs,rfl,?_⟩,⟨ys,rfl,?_⟩,trivial⟩ wa la wb lb wd ld).mono fun e w' ⟨h2,h3⟩=>⟨_,h2,h3,fun _=>False,fun _ h=>h.elim,.inl (.b true)⟩
 ·match xs,h0.1 with
  |[x0,x1,x2,x3],_=>
   have e0:=(Rep.up (ov:=fun _=>none) (h0.2 0 x0 _ rfl rfl)).lK;have e2:=(Rep.up (ov:=fun _=>none) (h0.2 2 x2 _ rfl rfl)).bP;have e3:=(Rep.up (ov:=fun _=>none) (h0.2 3 x3 _ rfl rfl)).lK;exact⟨e0,rd0 (h0.2 1 x1 _ rfl rfl),e2,e3,trivial⟩
 ·match ys,h1.1 with
  |[x0,x1,x2],_=>
   have e0:=(Rep.up (ov:=fun _=>none) (h1.2 0 x0 _ rfl rfl)).lK;exact⟨e0,rd0 (h1.2 1 x1 _ rfl rfl),rd0 (h1.2 2 x2 _ rfl rfl),trivial⟩
end
section
open Go Go.ChangeShapes Go.WideShapes Go.ChangeAt Go.RowKit Ab
abbrev ZE:List V→Nat→Prop:=QSt2 QZ WG
theorem LP{H:Type}{enc:TypeId×Value→H}{w:World}:kS enc Tryz.prog w 29 ZE:=
 uB (s1:=2) (s2:=1) Tryz.underlying29 rfl rfl kf kf kf KQ CW
theorem ZF{xs:List V}{n:Nat}(h:ZE xs n):∃(s:Bool) (a d:List Nat),xs=[.b s,.l 1 (W a),.l 1 (W d)]∧Wd a∧Wd d∧a.length≤n∧d.length≤n:=by
 obtain⟨x1,x2,n1,n2,rfl,q1,q2,rfl⟩:=h;obtain⟨s,a,e1,wa,la⟩:=QZ_L q1;obtain⟨d,rfl,wd,ld⟩:=Q8 q2;have e:x1=[.b s,.l 1 (W a)]:=by injection e1
 exact⟨s,a,d,by rw[e];rfl,wa,wd,om,om⟩
end
section
open Go Go.ChangeShapes Go.WideShapes Go.ChangeAt Go.RowKit Ab
abbrev OC:List V→Nat→Prop:=QSt3 QZ (WE .i64) KG
theorem Ho{H:Type}{enc:TypeId×Value→H}{w:World}:kS enc Tryz.prog w 27 OC:=
 BG (s1:=2) (s2:=1) (s3:=1) Tryz.underlying27 rfl rfl rfl kf kf kf kf KQ (CV Tryz.underlying3) Gv
theorem U3{xs:List V}{n:Nat}(h:OC xs n):∃(s:Bool) (a:List Nat) (k:Int) (p:Bool),V.g xs=cL s a k p∧Wd a∧a.length≤n∧ -9223372036854775808≤k∧k<9223372036854775808:=by
 obtain⟨x1,x2,x3,n1,n2,n3,rfl,q1,⟨k,rfl,wk,_⟩,⟨p,rfl,_⟩,rfl⟩:=h;obtain⟨s,a,e1,wa,la⟩:=QZ_L q1;injection e1 with e1
 subst e1;have hk:=wf64 wk;exact⟨s,a,k,p,rfl,wa,om,hk.1,hk.2⟩
end
