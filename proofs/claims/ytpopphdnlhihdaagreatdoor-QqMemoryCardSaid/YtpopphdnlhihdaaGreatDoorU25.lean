import Derived.Test.YtpopphdnlhihdaaGreatDoorU24
set_option linter.all false
set_option maxHeartbeats 10000000
set_option maxRecDepth 2000000
namespace Go.Proofs.YtpopphdnlhihdaaGreatDoor
section
open Go Go.RowKit Go.Proofs Ab
structure P2(w:World)(Lv:List Value)(i:Nat)(vW vG:Value)(Wl Gl:List Value)(wr:World):Prop where
 bel:bT w (Eb Lv) wr
 ls:∀j v,Lv[j]? =some v→∃A u,A.length≤1000000∧Rw wr v A∧Wl[j]? =some u∧(i≤j→Rw wr u A)∧(j<i→∃M g,M.length=16∧Rw wr u (A++M)∧Gl[j]? =some g∧Rw wr g (A++M)∧∀q,g.ownBlock=some q→v.ownBlock=some q∨w.heap.size≤q)
 wo:wr.ownsRow w.heap.size 23 1 vW Lv.length Wl
 go:wr.ownsRow w.heap.size 23 1 vG i Gl
 wg:∀q,vG.ownBlock=some q→vW.ownBlock≠some q
 wn:∀u q,u∈Wl→u.ownBlock=some q→w.heap.size≤q
 ap:ZW Wl
 gw:∀g u q,g∈Gl→u∈Wl→g.ownBlock=some q→u.ownBlock≠some q
variable{lq:Nat}{Lv:List Value}{vW:Value}
theorem P2.step{w wr L w3 w4:World}{i:Nat}{Wl Gl:List Value}{I N v u u' g:Value}{A M:List Nat}(hx:LX w lq Lv)(h:P2 w Lv i vW I Wl Gl wr)(hv:Lv[i]? =some v)(hu:Wl[i]? =some u)(hA:A.length≤1000000)(rv:Rw wr v A)(ru:Rw wr u A)(hM:M.length=16)(h2:I2 wr v u vW A Lv.length i Wl g u' M M L)(b3:Below L.heap.size L w3)(o4:w4.ownsRow 0 23 1 N (i+1) (Gl++[g]))(g4:Gr w3 w4 I N i 1):P2 w Lv (i+1) vW N (Wl.set i u') (Gl++[g]) w4:=by
 have s1:=h.bel.size;have s2:=h2.bel.size;have s3:=b3.size;have hi:i<Lv.length:=(iR.1 hv).1;have hvm:=dP hv;have Q:=dP hu;have P:∀q,v.ownBlock=some q→q<w.heap.size:=fun q hq=>hx.lo v q hvm hq
 have T:∀q,u.ownBlock=some q→w.heap.size≤q:=fun q hq=>h.wn u q Q hq
 have Z:∀q,vW.ownBlock=some q→w.heap.size≤q∧q<wr.heap.size:=fun q hq=>h.wo.lt q hq
 have hGl:∀q,I.ownBlock=some q→w.heap.size≤q∧q<wr.heap.size:=fun q hq=>h.go.lt q hq
 have lW:Wl.length=Lv.length:=by have:=h.wo.1;omega
 have lG:Gl.length=i:=by have:=h.go.1;omega
 have Y:∀x,x∈Wl→∀q,x.ownBlock=some q→q<wr.heap.size:=fun x c q hq=>by
  obtain⟨j,m,rfl⟩:=vU c;obtain⟨y,hy⟩:∃y,Lv[j]? =some y:=⟨_,bC om⟩;obtain⟨C,z,_,_,hz,c1,c2⟩:=h.ls j y hy;rw[bC m]at hz;cases hz;rcases dW j i with f|f
  ·obtain⟨_,_,_,r,_⟩:=c2 f;exact(r.lt q hq).2
  ·exact((c1 f).lt q hq).2
 have hGr:∀x,x∈Gl→∀q,x.ownBlock=some q→q<wr.heap.size:=fun x c q hq=>by
  obtain⟨j,m,rfl⟩:=vU c;obtain⟨y,hy⟩:∃y,Lv[j]? =some y:=⟨_,bC om⟩;obtain⟨C,z,_,_,hz,c1,c2⟩:=h.ls j y hy;obtain⟨_,g',_,_,E,r,_⟩:=c2 om;rw[bC m]at E;cases E;exact(r.lt q hq).2
 have go2:L.ownsRow w.heap.size 23 1 I i Gl:=bJ h.go fun q hq=>h2.bel.block q (hGl q hq).2 fun e=>by
  rcases e with e|e|e
  ·exact oO h.go rv dc hq e
  ·exact oO h.go ru dc hq e
  ·exact h.wg q hq e
 have st:∀q,q<L.heap.size→I.ownBlock≠some q→w4.heap[q]? =L.heap[q]? :=fun q hq hn=>(g4.bel.block q om hn).trans (b3.block q hq)
 have O:∀q,q<wr.heap.size→I.ownBlock≠some q→v.ownBlock≠some q→u.ownBlock≠some q→vW.ownBlock≠some q→w4.heap[q]? =wr.heap[q]? :=fun q hq hn h3 h4 h5=>(st q om hn).trans (h2.bel.block q hq fun e=>e.elim h3 fun e=>e.elim h4 h5)
 have gne:∀{x:Value} {C:List Nat},Rw wr x C→∀q,x.ownBlock=some q→I.ownBlock≠some q:=fun hr q hq=>oO hr h.go dc hq
 have J:∀{x:Value} {C:List Nat},Rw wr x C→∀q,x.ownBlock=some q→vW.ownBlock≠some q:=fun hr q hq=>oO hr h.wo dc hq
 have F:∀{x:Value} {C:List Nat},Rw L x C→∀q,x.ownBlock=some q→I.ownBlock≠some q:=fun hr q hq=>oO hr go2 dc hq
 have gb:∀q,g.ownBlock=some q→v.ownBlock=some q∨wr.heap.size≤q:=fun q hq=>by
  rcases h2.rel with ⟨a,cap,rfl,rfl⟩|h
  ·exact .inl (Rf hq)
  ·exact .inr (h q hq)
 have ub2:∀q,u'.ownBlock=some q→w.heap.size≤q:=fun q hq=>(h2.ub q hq).elim (T q) fun h=>om
 refine⟨(h.bel.two h2.bel fun q hq=>?_).gr b3 g4 fun q hq=> .inr (hGl q hq).1,fun j x m=>?_,ownB (bJ h2.wo fun q hq=>st q (h2.wo.lt q hq).2 fun e=>h.wg q e hq) fun q hq=>(Z q hq).1,ownB o4 fun q hq=>(g4.ob hq).elim (fun l=>(hGl q l).1) fun l=>om,fun q hq=>?_,fun x q c hq=>?_,?_,fun x y q c hy hq=>?_⟩
 ·rcases hq with e|e|e
  ·exact .inl ⟨v,hvm,e⟩
  ·exact .inr (T q e)
  ·exact .inr (Z q e).1
 ·by_cases f:j=i
  ·subst f;rw[hv]at m;cases m;refine⟨A,u',hA,bJ h2.rv fun q hq=>st q (h2.rv.lt q hq).2 (F h2.rv q hq),zB om,fun h=>om,fun _=>⟨M,g,hM,bJ h2.ru fun q hq=>st q (h2.ru.lt q hq).2 (F h2.ru q hq),by rw[rY om,lG,gW];rfl,bJ h2.rg fun q hq=>st q (h2.rg.lt q hq).2 (F h2.rg q hq),fun q hq=>(gb q hq).imp id fun h=>om⟩⟩
  ·obtain⟨C,z,hC,rx,hz,c1,c2⟩:=h.ls j x m;have hzm:=dP hz;have hxm:=dP m;have hzu:∀q,z.ownBlock=some q→u.ownBlock≠some q:=fun q hq=>CO h.ap f hz hu hq
   have keepz:∀{D:List Nat},Rw wr z D→Rw w4 z D:=fun r=>bJ r fun q hq=>O q (r.lt q hq).2 (gne r q hq) (fun e=>by have:=P q e;have:=h.wn z q hzm hq;omega) (hzu q hq) (J r q hq)
   refine⟨C,z,hC,bJ rx fun q hq=>O q (rx.lt q hq).2 (gne rx q hq) (CO hx.ap f m hv hq) (fun e=>by have:=T q e;have:=hx.lo x q hxm hq;omega) (J rx q hq),by rw[List.getElem?_set_ne (Ne.symm f)];exact hz,fun h3=>keepz (c1 om),fun h3=>?_⟩;obtain⟨D,g',hD,r1,E,r2,hb⟩:=c2 om;refine⟨D,g',hD,keepz r1,by rw[uO om];exact E,bJ r2 fun q hq=>O q (r2.lt q hq).2 (gne r2 q hq) (fun e=>?_) (h.gw g' u q (dP E) Q hq) (J r2 q hq),hb⟩;rcases hb q hq with l|l
   ·exact CO hx.ap f m hv l e
   ·have:=P q e;omega
 ·rcases g4.ob hq with l|l
  ·exact h.wg q l
  ·intro e;have:=(Z q e).2;omega
 ·rcases List.mem_or_eq_of_mem_set c with l|rfl
  ·exact h.wn x q l hq
  ·exact ub2 q hq
 ·intro j k x y q H m U hq G;by_cases f:j=i
  ·subst f;rw[zB om]at m;cases m;rw[List.getElem?_set_ne H]at U;rcases h2.ub q hq with l|l
   ·exact CO h.ap H hu U l G
   ·have:=Y y (dP U) q G;omega
  ·rw[List.getElem?_set_ne (Ne.symm f)]at m;by_cases hki:k=i
   ·subst hki;rw[zB om]at U;cases U;rcases h2.ub q G with l|l
    ·exact CO h.ap (Ne.symm H) hu m l hq
    ·have:=Y x (dP m) q hq;omega
   ·rw[List.getElem?_set_ne (Ne.symm hki)]at U;exact CO h.ap H m U hq G
 ·intro e;rcases nC.1 c with c|c
  ·rcases List.mem_or_eq_of_mem_set hy with l|rfl
   ·exact h.gw x y q c l hq e
   ·rcases h2.ub q e with l|l
    ·exact h.gw x u q c Q hq l
    ·have:=hGr x c q hq;omega
  ·rw[l_.1 c]at hq;rcases List.mem_or_eq_of_mem_set hy with l|rfl
   ·have h3:=h.wn y q l e;rcases gb q hq with h4|h4
    ·have:=P q h4;omega
    ·have:=Y y l q e;omega
   ·exact h2.gu q hq e
theorem u_lp2{a:Act}{w G:World}{R:Exit→Act→World→Prop}{lc c:Nat}{T:List Value}(hz:a.tmps.size=113)(h0:a.tmps.getD 0 undef= .slice (some ⟨lq,0,none⟩) Lv.length lc)(h3:a.tmps.getD 3 undef=vW)(h4:a.tmps.getD 4 undef= .slice none 0 0)(h5:a.tmps.getD 5 undef= .int .u64 (c:Int))
 (Y:LX w lq Lv) (l:P1 w Lv Lv.length vW T G)
 (kk:∀(f:Act) (w':World) (E:Value) (Wl F:List Value),f.tmps.size=113→f.tmps.getD 0 undef= .slice (some ⟨lq,0,none⟩) Lv.length lc→f.tmps.getD 3 undef=vW→f.tmps.getD 4 undef=E→f.defers=a.defers→P2 w Lv Lv.length vW E Wl F w'→R .normal f w'):(q1 (qd 4 (qf Tryz.f11))).wp Tryz.prog R a G:=by
 have hm:=Y.m
 refine wp_seq_k fun K0 z=>?_
 replace z:=pu z
 replace kk:=pu kk
 refine rl fun gA=>?_
 go_wp2
 refine z.down _ _ ?_
 clear z
 refine wp_block ?_
 refine oD (fun N f wr=>∃(i c':Nat) (E:Value) (Wl F:List Value),i+N=Lv.length∧f.tmps.size=113∧f.tmps.getD 0 undef= .slice (some ⟨lq,0,none⟩) Lv.length lc∧f.tmps.getD 3 undef=vW∧f.tmps.getD 4 undef=E∧f.tmps.getD 5 undef= .int .u64 (c':Int)∧f.tmps.getD 9 undef= .int .i64 (i:Int)∧f.defers=a.defers∧P2 w Lv i vW E Wl F wr) Lv.length ?_ ?_
 ·refine⟨0,c,.slice none 0 0,T,[],om,gZ,?_,?_,?_,?_,(by dsimp only;rw[iQ (by simp[hz])];rfl),rfl,⟨l.bel,fun j v hj=>?_,l.wo,Gp _ _ _ _,fun q h=>(by cases h),l.wn,l.ap,fun g u q h=>by cases h⟩⟩
  ·dsimp only;rw[dM dc];exact h0
  ·dsimp only;rw[dM dc];exact h3
  ·dsimp only;rw[dM dc];exact h4
  ·dsimp only;rw[dM dc];exact h5
  ·obtain⟨A,h1,h2,h3⟩:=l.ls j v hj;obtain⟨u,h4,h5⟩:=h3 (iR.1 hj).1;exact⟨A,u,h1,h2,h4,fun _=>h5,fun h=>om⟩
 ·rintro N f wr ⟨i,c',E,Wl,F,hiN,hz',e0,e3,e4,e5,e9,hd,y⟩;refine wp_seq ?_;refine u_c2 hz' e0 e9 (fun hlt1 a1 z1 s1 d1=>?_) (fun hge a1 z1 s1 d1=>?_)
  ·have hi:i<Lv.length:=om;have J:Lv[i]? =some Lv[i]:=bC hi;generalize Lv[i]=v at J;have hvm:=dP J;obtain⟨A,u,hA,rv,hu,H,_⟩:=y.ls i v J;have H:=H (aY _);have hum:=dP hu;obtain⟨va,vc,I⟩:=iE rv;obtain⟨vq,wc,hvW⟩:=D9 y.wo om;refine wp_seq ?_;refine wp_block ?_;have P:=Y.up y.bel i v J;rw[I]at P;refine wp_seq (u_d2 z1 ((s1 0 dc).trans e0) ((s1 9 dc).trans e9) om om P om fun a2 z2 s2 Q d2=>?_);rw[←I]at Q;have k0:=(s2 0 dc dc).trans ((s1 0 dc).trans e0);have k3:=(s2 3 dc dc).trans ((s1 3 dc).trans e3);have k4:=(s2 4 dc dc).trans ((s1 4 dc).trans e4);have k5:=(s2 5 dc dc).trans ((s1 5 dc).trans e5);have k9:=(s2 9 dc dc).trans ((s1 9 dc).trans e9);refine wp_seq ?_;refine u_in2 z2 k3 hvW k5 k9 Q hi om (oK y.wo (aG _)) hu (fun q hq e=>by have:=Y.lo v q hvm hq;have:=y.wn u q hum e;omega) rv H hA fun a3 w3 c3 g u' M z3 s3 f5 g10 d3 hM hI=>?_
   obtain⟨ga,gc,O⟩:=iE hI.rg;have j4:=(s3 4 dc dc dc dc).trans k4;have C:=y.go;have ho3:w3.ownsRow 0 23 1 E i F:=oK (bJ C fun q hq=>hI.bel.block q (C.lt q hq).2 fun e=>by
    rcases e with e|e|e
    ·exact oO C rv dc hq e
    ·exact oO C H dc hq e
    ·exact y.wg q hq e) (aG _)
   refine u_r24 z3 (g10.trans O) j4 ho3 om fun a4 w1 w4 Z z4 s4 f4 d4 hb L hg=>?_
   rw[←O]at L;refine u_s2 z4 ((s4 9 dc dc).trans ((s3 9 dc dc dc dc).trans k9)) om fun a5 z5 U f9 d5=>?_
   exact⟨Lv.length-(i+1),om,i+1,c3,Z,Wl.set i u',F++[g],om,z5,(U 0 dc dc).trans ((s4 0 dc dc).trans ((s3 0 dc dc dc dc).trans k0)),(U 3 dc dc).trans ((s4 3 dc dc).trans ((s3 3 dc dc dc dc).trans k3)),(U 4 dc dc).trans f4,(U 5 dc dc).trans ((s4 5 dc dc).trans f5),by rw[f9];rfl,d5.trans (d4.trans (d3.trans (d2.trans (d1.trans hd)))),y.step Y J hu hA rv H hM hI hb L hg⟩
  ·obtain rfl:i=Lv.length:=om;exact kk.down _ _ E Wl F z1 ((s1 0 dc).trans e0) ((s1 3 dc).trans e3) ((s1 4 dc).trans e4) (d1.trans hd) y
end
section
open Go Go.RowKit Ab
def LQ:=an @aQ<|an @fK<|an @aW<|an @aO<|an @aI<|an @fZ<|an @mJ<|an @dR<|an @iL<|an @wi<|an @lu<|an @gG<|an @di @mW
def TU(L:List (List Nat)):List V:=L.map fun A=> .l 1 (W A)
theorem Bd(L:List (List Nat)):(TU L).length=L.length:=iJ ..
theorem Gw(L:List (List Nat))(i:Nat)(h:i<L.length):(TU L).getD i .un= .l 1 (W (L.getD i [])):=by
 unfold TU;rw[dN,dN,iU,bC h];rfl
def mdr:Nat→AC→AC
 |0,A=>A
 |n+1,A=>mdr n A.p2
noncomputable def a11:AC:=gc Tryz.prog Tryz.f11
theorem Rh(AL XL:List (List Nat))(hl:XL.length=AL.length)(E:∀A,A∈AL→A.length≤1000000)(C:∀X,X∈XL→X.length≤1000016)(G:∀j,j<AL.length→(XL.getD j []).take (AL.getD j []).length=AL.getD j [])(hm:AL.length≤1000):
 yY aT (mG Tryz.prog) (mdr 5 a11) (fun ex s=>(ex= .normal∨ex= .ret)∧s.get 2= .b true) ⟨[(0,.l 1 (TU AL)),(3,.l 1 (TU XL)),(4,.l 1 (TU XL))],[],0⟩:=by
 have f:=Bd AL
 have c:=Bd XL
 apply gm
 unfold a11
 conv in mdr _ _=>reduce
 simp only[dw,eU,Int.reduceOfNat,Int.reduceNegSucc]
 refine aX (ai @c<|ai @f @LQ) ?_
 refine aF [] Nat (fun i=>⟨[(0,.l 1 (TU AL)),(3,.l 1 (TU XL)),(4,.l 1 (TU XL)),(12,.i .i64 (i:Int))],[],0⟩)
  (fun i=>i≤AL.length) (fun i=>AL.length-i) 0 (aG _) (by exact oL) (by
  exact lC) ?_
 intro i H L u m F
 by_cases h:(i:Int)<(AL.length:Int)
 ·have z:=Gw AL i om;have y:=Gw XL i om;have J:=E _ (by rw[dN,bC om];exact uP _:AL.getD i []∈AL);have I:=C _ (by rw[dN,bC om];exact uP _:XL.getD i []∈XL);have a:=G i om;have hle:(AL.getD i []).length≤(XL.getD i []).length:=by rw[←a,jo];exact Nat.min_le_right _ _
  have c1:=pU (XL.getD i []) (XL.getD i []) om om;have c2:=pU (AL.getD i []) (AL.getD i []) om om;rw[cO rfl]at c1 c2;have g:(i:Int)<(XL.length:Int):=om;generalize AL.getD i []=A at*
  generalize XL.getD i []=X at*
  refine pJ (ai @hle<|ai @a<|ai @g<|ai @y<|ai @z<|ai @c<|ai @f<|ai @h @LQ) ?_;refine u _ (i+1) om om ?_;exact lC
 refine aX (ai @c<|ai @f<|ai @h @LQ) ?_
 refine m _ _ ?_
 clear m F u h H
 refine aX (ai @c<|ai @f @LQ) ?_
 exact⟨.inr trivial,trivial⟩
end
section
open Go Go.RowKit Go.Proofs Ab
theorem Gx{h e:Nat→Prop}{l:List Nat}{g:Nat→Value}{A:AC}(hl:(l.all fun t=>Ab.Kv t A)=true):IZ ⟨h,e,l.map fun t=>(t,g t)⟩ A:=fun m v a=>by
 obtain⟨t,ht,c⟩:=eG.1 a;have e1:t=m:=congrArg Prod.fst c;exact e1▸dh.1 hl t ht
theorem lay_conc{a:Act}{w:World}{N:Nat}{L:List (Nat×V)}(kl:List Nat)(hz:a.tmps.size=N)(hd:a.defers=[])(l:TO w)(henv:∀p,p∈L→Rep0 w (fun q=>q<w.heap.size) (a.tmps.getD p.1 undef) p.2):
 Conc w ⟨fun q=>q<w.heap.size,fun _=>False,kl.map fun t=>(t,a.tmps.getD t undef)⟩ w (fun q=>q<w.heap.size) (fun _=>none) N a ⟨L,[],0⟩:=
 ⟨⟨bT.refl _ _,l,fun _ h=>h,fun b h _=> .inl h,fun id o h=>(by cases h),fun i j y u vi vj q _ h=>(by cases h)⟩,hz,hd,fun m v f=>by
   obtain⟨t,_,g⟩:=eG.1 f;cases g;rfl,QR (fun t=>a.tmps.getD t undef) _ fun p c=> .base (henv p c),fun _ _=>rfl⟩
theorem JP{P:Nat→List Nat→List Nat→Prop}:∀n,(∀j,j<n→∃A X,P j A X)→∃AL XL:List (List Nat),AL.length=n∧XL.length=n∧∀j,j<n→P j (AL.getD j []) (XL.getD j [])
 |0,_=>⟨[],[],rfl,rfl,fun j h=>om⟩
 |n+1,h=>by
  obtain⟨AL,XL,h1,h2,f⟩:=JP n fun j a=>h j om
  obtain⟨A,X,c⟩:=h n om;refine⟨AL++[A],XL++[X],by simp[h1],by simp[h2],fun j a=>?_⟩;simp only[dN,List.getElem?_append];by_cases e:j=n
  ·subst e;rw[ah om,ah om,h1,h2,gW];exact c
  ·rw[au om,au om];simpa only[dN]using f j om
theorem kM{w:World}{v:Value}{A:List Nat}(h:Rw w v A):Rep0 w (fun q=>q<w.heap.size) v (.l 1 (W A)):=Ld h (Il h)
theorem Oy{w:World}{b n:Nat}{v:Value}{Fv:List Value}{L:List (List Nat)}(c:w.ownsRow b 23 1 v n Fv)(hl:L.length=n)(hm:n≤1000000)(f:∀(j:Nat) (x:Value),Fv[j]? =some x→Rw w x (L.getD j [])):Rep0 w (fun q=>q<w.heap.size) v (.l 1 (TU L)):=by
 have m:Fv.length=n:=by have:=c.1;omega
 refine zi uf c ⟨by rw[Bd,m,hl],fun j x y h1 h2=>?_⟩ (by unfold maxLen;omega) fun q hq=>(c.lt q hq).2
 have g:j<L.length:=by have:=(iR.1 h1).1;omega
 have a:=Gw L j g;rw[dN,h2]at a;have a:y= .l 1 (W (L.getD j [])):=a;rw[a];exact kM (f j x h1)
theorem TO.belE{w w':World}{E:Nat→Prop}(h:TJ w fun q=>q<w.heap.size∧¬E q)(hb:bT w E w'):TO w':=
 TJ.mono h (fun q hq=>eu hq.1 hb.size) fun q hq=>hb.block q hq.1 hq.2
theorem VR{w:World}{lq lc:Nat}{Lv:List Value}(Q:LX w lq Lv)(hlc:Lv.length≤lc)(hl:∀v,v∈Lv→∃A,A.length≤1000000∧Rw w v A)(hT:TJ w fun q=>q<w.heap.size∧¬Eb Lv q):
 Calls Tryz.prog 11 #[.slice (some ⟨lq,0,none⟩) Lv.length lc] w (fun e w'=>e= .returned (.bool true)∧bT w (Eb Lv) w'):=by
 have hm:=Q.m
 refine zY (vs:=[.slice (some ⟨lq,0,none⟩) Lv.length lc]) Tryz.func11 (c:=qf Tryz.f11) rfl (by show 1≤_;decide) fun a hz ha hd=>?_
 have hz:a.tmps.size=113:=hz
 have e0:a.tmps.getD 0 undef= .slice (some ⟨lq,0,none⟩) Lv.length lc:=ha 0 sy
 refine wp_seq_k fun K0 f=>?_
 replace f:=pu f
 refine rl fun gA=>?_
 go_wp2
 refine f.down _ _ ?_
 clear f gA
 refine wp_seq_k fun K0 f=>?_
 replace f:=pu f
 refine wp_region_lit ?_
 go_wp2
 refine f.down _ _ ?_
 clear f
 refine wp_seq_k fun K0 f=>?_
 replace f:=pu f
 refine wp_region_lit ?_
 go_wp2
 refine f.down _ _ ?_
 clear f
 refine wp_seq ?_
 refine u_lp1 (c:=900) (by simp[hz]) (by dsimp only;rw[dM dc,dM dc,dM dc,dM dc];exact e0) (by dsimp only;rw[dM dc,dM dc,iQ (by simp[hz])]) (by dsimp only;rw[dM dc,iQ (by simp[hz])]) (by dsimp only;rw[iQ (by simp[hz])];rfl) Q hl fun a1 w1 c1 vW Wl z1 k0 k3 k4 k5 d1 hP1=>?_
 refine wp_seq ?_
 refine u_lp2 z1 k0 k3 k4 k5 Q hP1 fun a2 E vG Wl Gl z2 j0 j3 j4 d2 H=>?_
 have hd2:a2.defers=[]:=by first|exact d2.trans d1|exact d2.trans (d1.trans hd)
 have lW:Wl.length=Lv.length:=by have:=H.wo.1;omega
 have lG:Gl.length=Lv.length:=by have:=H.go.1;omega
 obtain⟨AL,XL,hA,hX,hAX⟩:=JP (P:=fun j A X=>∃v u g,Lv[j]? =some v∧Wl[j]? =some u∧Gl[j]? =some g∧Rw E v A∧Rw E u X∧Rw E g X∧A.length≤1000000∧X.length≤1000016∧X.take A.length=A) Lv.length fun j z=>by
  have T:Lv[j]? =some Lv[j]:=bC z;obtain⟨A,u,h1,h2,F,_,Y⟩:=H.ls j _ T;obtain⟨M,g,Z,U,h7,h8,_⟩:=Y z;exact⟨A,A++M,_,u,g,T,F,h7,h2,U,h8,h1,by rw[bZ];omega,sy⟩
 have rL:∀j x,Lv[j]? =some x→Rw E x (AL.getD j []):=fun j x z=>by
  obtain⟨v,u,g,h1,h2,F,Y,Z,U,_⟩:=hAX j (iR.1 z).1;rw[z]at h1;cases h1;exact Y
 have rW:∀j x,Wl[j]? =some x→Rw E x (XL.getD j []):=fun j x z=>by
  obtain⟨v,u,g,h1,h2,F,Y,Z,U,_⟩:=hAX j (by have:=(iR.1 z).1;omega);rw[z]at h2;cases h2;exact Z
 have rG:∀j x,Gl[j]? =some x→Rw E x (XL.getD j []):=fun j x z=>by
  obtain⟨v,u,g,h1,h2,F,Y,Z,U,_⟩:=hAX j (by have:=(iR.1 z).1;omega);rw[z]at F;cases F;exact U
 have hcl:=Q.up H.bel
 have r0:Rep0 E (fun q=>q<E.heap.size) (.slice (some ⟨lq,0,none⟩) Lv.length lc) (.l 1 (TU AL)):=by
  refine .l _ Lv.length lc 1 _ (fun j=>Lv[j]?.getD undef) lq 0 uf (by rw[Bd];omega) (by unfold maxLen;omega) hlc (.inr ⟨rfl,eu Q.lt H.bel.size⟩) (fun j z=>?_) fun j y hy=>?_
  ·rw[Bd]at z;rw[eY,hcl j Lv[j] (bC om),bC om];rfl
  ·have z:j<AL.length:=by have:=(iR.1 hy).1;rwa[Bd]at this
   have F:=Gw AL j z;rw[dN,hy]at F;have F:y= .l 1 (W (AL.getD j [])):=F;have T:Lv[j]? =some Lv[j]:=bC om;rw[F,T];exact kM (rL j _ T)
 have hwalk:=Rh AL XL om (fun A h=>by
  obtain⟨j,z,rfl⟩:=vU h;obtain⟨v,u,g,_,_,_,_,_,_,h7,_⟩:=hAX j om;rwa[dN,bC z]at h7) (fun X h=>by
  obtain⟨j,z,rfl⟩:=vU h;obtain⟨v,u,g,_,_,_,_,_,_,_,h8,_⟩:=hAX j om;rwa[dN,bC z]at h8) (fun j z=>by
  obtain⟨v,u,g,_,_,_,_,_,_,_,_,h9⟩:=hAX j om;exact h9) om
 have mY:=lay_conc (L:=[(0,.l 1 (TU AL)),(3,.l 1 (TU XL)),(4,.l 1 (TU XL))]) [] z2 hd2 (TO.belE hT H.bel) fun p hp=>by
  simp only[dZ,og,or_false]at hp;rcases hp with rfl|rfl|rfl
  ·rw[j0];exact r0
  ·rw[j3];exact Oy H.wo hX om rW
  ·rw[j4];exact Oy H.go hX om rG
 refine wp_mono (nM (J:=J0) (w0:=E) (N:=113) aN (fun w' _=>trivial) _ (mdr 5 a11) kf (fun m v hm=>by cases hm) _ _ a2 E _ _ mY hwalk) fun ex a' w' hq=>?_
 have last:∀(I:Ab.St) (O:Nat→Prop) (C:Nat→Option Value),I.get 2= .b true→Conc E ⟨fun q=>q<E.heap.size,fun _=>False,([]:List Nat).map fun t=>(t,a2.tmps.getD t undef)⟩ w' O C 113 a' I→a'.defers=[]∧∃r,(results Tryz.f11 a'.tmps).run Tryz.prog w'= .ok r w'∧(Ending.returned r= .returned (.bool true)∧bT w (Eb Lv) w'):=fun I O C hg hc=>by
  have h2:=hc.env 2;rw[hg]at h2;refine⟨hc.I7,_,results_tmp rfl _ _ _,?_,H.bel.two hc.mem.bel fun q hq=>hq.elim⟩;rw[h2.qH]
 cases ex with
 |normal=>obtain⟨I,O,C,hq,G⟩:=hq;exact last I O C hq.2 G
 |ret=>obtain⟨I,O,C,hq,G⟩:=hq;exact last I O C hq.2 G
 |exit i=>obtain⟨I,O,C,hq,G⟩:=hq;exact absurd hq.1 sy
 |goto l=>exact hq.elim
 |panic ch=>exact hq.elim
 |outgrown=>exact hq.elim
end
section
open Go Go.RowKit Ab
def Ri:=an @aQ<|an @fK<|an @aW<|an @aO<|an @aI<|an @fZ<|an @mJ<|an @dR<|an @iL<|an @wi<|an @lu<|an @gG<|an @di @mW
theorem Be(a:List Nat)(c:a.length≤1000000):aT 14 [.l 1 (W (a++[71,72])),.l 1 (W a)] (.b true):=by
 have c1:=pU a a om om;rw[cO rfl]at c1;have z:(a++[71,72]).length=a.length+2:=sy;have e1:(a++[71,72]).take a.length=a:=sy;have g1:(W (a++[71,72])).getD a.length .un= .i .u64 71:=by simp[W]
 have g2:(W (a++[71,72])).getD ((a.length:Int)+1).toNat .un= .i .u64 72:=by rw[show((a.length:Int)+1).toNat=a.length+1 from om];simp[W]
 refine f_ aN a_ Tryz.func14 ?_;repeat first|(refine hK _ ?_;clear hK K)|simp only[Sv,↓reduceIte,Nat.reduceEqDiff]|((first|refine ay (fun K hK=>?_)|refine ax (fun K hK=>?_)|refine ak (fun K hK=>?_)|refine fM ?_|refine dE (by assumption) ?_|refine fO ?_|(apply dF;assumption)|(apply dG;assumption));simp(disch:=(first|omega|assumption)) only[S1,seval,-Int.reduceToNat,-List.reduceReplicate,aK.sb,aK.mut,aU,↓aJ,aV,aC,Ri,z,e1,g1,g2])
 simp(disch:=(first|omega|assumption)) only[dY,iF,iK,jv,fA,V.aP,bW,bY,S1,seval,-Int.reduceToNat,-List.reduceReplicate,aK.sb,aK.mut,aU,↓aJ,aV,aC,Ri,z,e1,g1,g2]
theorem yV(s:Bool)(a d:List Nat)(c:a.length≤1000000)(ld:d.length≤1000000):aT 13 [.g [.b s,.l 1 (W a),.l 1 (W d),.l 1 (W (a++[71,72])),.l 1 (W (d++[71,72]))],rL s a d] (.b true):=by
 have h1:=Be a c;have h2:=Be d ld;refine f_ aN a_ Tryz.func13 ?_;exact jO @Ri
end
section
open Go Go.RowKit Go.Proofs Ab
variable{P:Program}
theorem app_tys{t t2 e e2:TypeId}(h1:P.underlying t=some (.slice e))(h2:P.underlying t2=some (.slice e2))(ty:TypeId)(p q:Option Addr)(n c m k:Nat)(w:World):(Builtin.append_ #[t,t2] ty #[.slice p n c,.slice q m k]).run P w=(Builtin.append_ #[t,t] ty #[.slice p n c,.slice q m k]).run P w:=by
 simp[Builtin.append_,run_underlying h1,run_underlying h2]
theorem FC(w:World){ops:Array Oper}{rest:List Oper}{o:Oper}{a:Act}{Q:Exit→Act→World→Prop}
 (I:o.guard=none) (s x:Operand) (t t2:TypeId) (l:o.op=Op.call {callee:=Callee.builtin Builtin.append,args:=#[s,x],argTypes:=#[t,t2]})
 (b e e2:TypeId) (i:TypeInfo) (z:Value) (bytes:Nat) (h1:P.underlying t=some (.slice e)) (A:P.underlying t2=some (.slice e2)) (h2:P.info? e=some i) (O:i.zero=some z) (N:i.size=1) (M:i.bytes=bytes) (L:z.cells.size=1)
 (v:Value) (n:Nat) (xs:List Value) (G:a.eval s=v) (hown:w.ownsRow b e 1 v n xs) (hb:b≤w.heap.size)
 (C:Option Addr) (m c:Nat) (news:List Value) (F:a.eval x= .slice C m c) (H:news.length=m*1) (J:news=[]∨∃E,C=some E∧∀j u,news[j]? =some u→w.cell? (E.add j)=some u) (h1c:∀u∈news,u.oneCell'=true)
 (b1:n+m≤maxLen) (T:(n+m)*bytes≤140737488355328)
 (hK:∀g w',w'.ownsRow b e 1 g (n+m) (xs++news)→w.grownBy w' v.ownBlock→wpList P ops Q rest (a.put o.dst g) w'):
 wpList P ops Q (o::rest) a w:=by
 refine wpList_plain I fun K y=>?_
 obtain⟨g,w',hrun,r1,r2,_⟩:=F5 b t o.type e i z 1 bytes h1 h2 O N M L uf v n xs hown C m c news H J h1c b1 T hb
 obtain⟨Y,U,f⟩:=iE hown
 rw[f,←app_tys h1 A,←f]at hrun
 unfold Oper.wp
 simp[execOp,l,resolve,invoke,builtin,G,F,hrun,Result.andThen]
 exact y _ _ (hK g w' r1 r2)
theorem Bf{w c w':World}{o:Option Nat}(hb:Below w.heap.size w c)(a:c.grownBy w' o)(f:∀q,o=some q→w.heap.size≤q):Below w.heap.size w w':=by
 have s1:=hb.size;have s2:=a.size;exact⟨a.os.trans hb.os,a.tape.trans hb.tape,a.output.trans hb.output,om,fun q hq=>(a.block q om fun e=>by have:=f q e.symm;omega).trans (hb.block q hq)⟩
theorem wrap2(n:Nat)(h:n≤1000000):IntKind.i64.wrap ((n:Int)+2)=((n+2:Nat):Int):=by rw[IntKind.wrap_i64];omega
theorem room_raw{w:World}{u:Value}{A:List Nat}(hr:Row g0 w A u)(la:A.length≤1000000):Calls Tryz.prog 7 #[u] w (RowR w (A++[71,72])):=by
 obtain⟨U,T,ub,uo,rfl,G,M⟩:=hr;obtain⟨N,z,y,m,l⟩:=info_parts D8;have hw2:=wrap2 A.length la;refine zY (vs:=[.slice U A.length T]) Tryz.func7 (c:=qf Tryz.f7) rfl (by show 1≤_;decide) fun a hz ha hd=>?_
 have hz:a.tmps.size=11:=hz;have e0:a.tmps.getD 0 undef= .slice U A.length T:=ha 0 sy;refine wp_seq_k fun K0 f=>?_
 replace f:=pu f;refine rl fun gA=>?_
 go_wp2;refine f.down _ _ ?_;clear f gA;have g0:=gI hz e0 dc;refine wp_seq_k fun K0 f=>?_
 replace f:=pu f;have hcA:=pu (And.intro G M);clear G M;have hmx:A.length+2≤maxLen:=by unfold maxLen;omega
 have hC2:=pu (show(A.length:Int)+2=((A.length+2:Nat):Int) by omega);have hby:N.bytes*(A.length+2)≤281474976710656:=by rw[l];omega
 refine wp_region_lit ?_;go_wp2_with (first|(refine wpList_make_own _ rfl (.const (.int .i64 0)) (.tmp 5) 22 rfl w.heap.size 49 N (.int .u64 0) 1 Tryz.underlying22 z y m .i64 .i64 ((A.length:Int)+2) (A.length+2) ?m1 ?m2 hC2.down ?m3 ?m4 (aY _) ?mk));case m1=>rfl
 case m2=>exact gS
 case m3=>exact hby
 case m4=>exact hmx
 case mk=>
  intro w1 H L;have E:Below w.heap.size w w1:=Bf (dQ w) L fun q h=>by cases h
  have s1:=E.size;have hP:=pu (And.intro H E);clear H L E;go_wp2_with (first|(at_builtin;refine FC _ rfl (.tmp 6) (.tmp 7) 22 23 rfl w.heap.size 49 49 N (.int .u64 0) 8 Tryz.underlying22 Tryz.underlying23 z y m l rfl (.slice (some ⟨w.heap.size,0,none⟩) 0 (A.length+2)) 0 [] ?a1 ?a2 ?a3 U A.length T (Wv A) ?a4 ?a5 ?a6 ?a7 ?a8 ?a9 ?ap));case a1=>exact gS
  case a2=>exact hP.down.1
  case a3=>exact s1
  case a4=>exact gS
  case a5=>rw[wU,aO]
  case a6=>
   rcases hcA.down.1 with h|⟨h1,h2,_⟩
   ·exact .inl (by rw[h];rfl)
   ·refine .inr ⟨_,h1,fun j v P=>?_⟩;have I:j<A.length:=by have:=(iR.1 P).1;rwa[wU]at this
    have h3:=hcA.down.2 j I;rw[Addr.add_lit,World.cell?_of_block (hP.down.2.block ub h2)];rw[h3,←P];simp[Wv,List.getD,I]
  case a7=>
   intro v O;obtain⟨n,_,rfl⟩:=eG.1 O;rfl
  case a8=>unfold maxLen;omega
  case a9=>omega
  case ap=>
   intro v2 Q g J;have C:Below w.heap.size w Q:=Bf hP.down.2 J fun q h=>by cases h;exact aY _
   obtain⟨va,vc,Y⟩:=iE g;have s2:=C.size;have F:=pu (And.intro g C);clear g J C;subst Y;go_wp2_with (first|(at_builtin;refine FC _ rfl (.tmp 8) (.tmp 9) 22 22 rfl w.heap.size 49 49 N (.int .u64 0) 8 Tryz.underlying22 Tryz.underlying22 z y m l rfl (.slice va A.length vc) A.length (Wv A) ?b1 ?b2 ?b3 (some ⟨Q.heap.size,0,none⟩) 2 2 [.int .u64 71,.int .u64 72] ?b4 ?b5 ?b6 ?b7 ?b8 ?b9 ?bp));case b1=>exact gS
   case b2=>exact F.down.1.alloc _
   case b3=>exact bK s2 (World.size_alloc _ _▸Nat.le_succ _)
   case b4=>exact gS
   case b5=>rfl
   case b6=>
    refine .inr ⟨_,rfl,fun j v P=>?_⟩;rw[Addr.add_lit,eY,cell_of_row _ _ j _ _ _ (heap_alloc_new Q _)];simpa using P
   case b7=>
    intro v O;simp only[dZ,og,or_false]at O;rcases O with rfl|rfl<;>rfl
   case b8=>unfold maxLen;omega
   case b9=>omega
   case bp=>
    intro v3 w3 Z hg3;have hb3:Below w.heap.size w w3:=Bf ((F.down.2).alloc s2 _) hg3 fun q hq=>(F.down.1.lt q hq).1
    go_wp2;refine f.down _ _ (wp_ret ⟨?_,_,results_tmp rfl _ _ _,?_⟩)
    ·first|rfl|exact hd
    ·refine⟨v3,A.length+2,?_,hb3,?_,by unfold maxLen;omega⟩
     ·exact congrArg Ending.returned gS
     ·rw[EW];exact Z
end
section
open Go Go.RowKit Go.Proofs Ab
theorem rw_preB{w:World}{b0:Nat}{a:Option Addr}{cap n:Nat}{A M:List Nat}(h:w.ownsRow b0 49 1 (.slice a n cap) n (Wv (A++M))):w.ownsRow b0 49 1 (.slice a A.length cap) A.length (Wv A):=by
 have h1:=Z9 (oK h (aG _));refine ownB h1 fun q hq=>?_
 exact(h.lt q (Rf hq)).1
section
variable {w0:World} {N i:Nat} {R:Nat→Option Δ} {Bx:Bs} {dst:Option Tmp} {x y z:Operand} {ty t:TypeId} {p:String} {e:Array Edge} {gd:Option (Nat×Bool)} {A M:List Nat} {tg:Nat} {s:Bool} {d1 d2 d3 d4:Δ}
theorem LU(h:lX R x (.ow (A++M) tg))(I:lX R y (.k (.int .i64 (A.length:Int))))(f:slE Tryz.prog ty 1=true):Ok Tryz.prog w0 N ⟨dst,.slice ty x none (some y) none,t,p,e,gd⟩ i R Bx (.ow A tg) none:=
 Zl fun γ w a F Q E=>by
  obtain⟨⟨m,L,j⟩,C⟩:Own w0 (A++M) (a.eval x) w∧γ.κ tg=some (a.eval x).ownBlock:=h.ev E;have J:a.eval y= .int .i64 (A.length:Int):=I.ev E;obtain⟨c,cap,l⟩:=iE j;have hl:=j.1;rw[wU,bZ,aO]at hl;have O:m≤cap:=by
   rcases j.2 with ⟨_,T⟩|⟨g,G,cur,h1,_,_,h2,_⟩
   ·omega
   ·rw[l]at h1;cases h1;exact h2
  unfold slE at f;split at f
  ·rename_i el z;split at f
   ·rename_i H u;have hrun:=RY (P:=Tryz.prog) (w:=w) z u c m cap none (some (.int .i64 (A.length:Int))) 0 A.length (.inl ⟨rfl,rfl⟩) (.inr ⟨.i64,rfl⟩) (aG _) om;rw[l]at j C;have e1:(if cap=0 then c else c.map (·.add (0*H.size)))=c:=by
     split
     ·rfl
     ·cases c with
      |none=>rfl
      |some b=>simp[Addr.add]
    refine⟨.slice c A.length cap,?_,⟨A.length,om,rw_preB j⟩,?_⟩
    ·rw[e1,Nat.sub_zero,Nat.sub_zero]at hrun;simp[execOp,l,J,hrun]
    ·rw[C];cases c with
     |none=>rfl
     |some b=>rfl
   ·cases f
  ·cases f
theorem ok_bp(F:lX R x (.g [.k (.bool s),d1,d2]))(h1:d1.w=true)(h2:d2.w=true)(E:lX R y d3)(m:d3.w=true)(hz:lX R z d4)(l:d4.w=true):Ok Tryz.prog w0 N ⟨dst,.build 34 #[(0,x),(1,y),(2,z)],t,p,e,gd⟩ i R Bx (.g [.k (.bool s),d1,d2,d3,d4]) none:=
 JL fun γ w a c=>by
  obtain⟨xs,ex,hl⟩:=F.ev c;match xs,hl with
  |[C,x1,x2],⟨q0,q1,q2,_⟩=>
   have q0:C= .bool s:=q0;subst q0;obtain⟨a1,n1,c1,e1⟩:=q1.L_ h1;obtain⟨A,n2,c2,e2⟩:=q2.L_ h2;subst e1 e2;have q3:=Y4 (E.ev c) m;obtain⟨a3,j,c3,e3⟩:=q3.L_ m;have q4:=Y4 (hz.ev c) l;obtain⟨a4,f,u,e4⟩:=q4.L_ l;refine⟨#[.bool s,.slice a1 n1 c1,.slice A n2 c2,.slice a3 j c3,.slice a4 f u],?_,[.bool s,.slice a1 n1 c1,.slice A n2 c2,.slice a3 j c3,.slice a4 f u],rfl,rfl,q1,q2,e3▸q3,e4▸q4,trivial⟩;simp only[List.map_toArray,dI,fJ,ex,e3,e4];kernel_rfl
end
variable {s:Bool} {a d:List Nat}
theorem f_room(c:a.length≤1000000):Fn 7 [.rd a] (.ow (a++[71,72]) 0):=Cm fun w vs f h=>match vs,h with
 |[u],h=>room_raw (Row.rep (fun q h=>⟨h,fun _ h=>by cases h⟩) (Oc h.1)) c
theorem LV(c:a.length≤1000000)(ld:d.length≤1000000):Fn 6 [qD s a d] (.g [.k (.bool s),.ow a 0,.ow d 1,.ow (a++[71,72]) 0,.ow (d++[71,72]) 1]):=by
 refine dV Tryz.func6 (code:=qf Tryz.f6) rfl rfl fun w ac S=>?_
 refine ET ?_;(refine aj S (px) fun _ _ _ S=>?_);(refine aj S (JK (z:= .agg #[.bool false,.slice none 0 0,.slice none 0 0,.slice none 0 0,.slice none 0 0]) kf) fun _ _ _ S=>?_);refine h_ ?_;(refine wp_seq (Oe 9 [.v _ _,.v _ _,.v _ _,.v _ _,.v _ _,.v _ _,.v _ _,.v _ _,.v _ _] [[(1,none)],[(5,some 0)],[(6,some 1)],[(7,some 2)],[(1,none)],[(9,some 4)],[(10,some 5)],[(8,some 3)],[(11,some 6)]] rfl S aN kf kf ⟨px,px,px,pc (f_room c),px,px,pc (f_room ld),px,px,trivial⟩ kf kf ?_);intro _ _ _ S);(refine wp_seq (gU 19 [_,_,_,_,_,_,_,_,_,_,_,_,_,_,_,_,_,_,_] [_,_,_,_,_,_,_,_,_,_,_,_,_,_,_,_,_,_,_] [[(1,none)],[(12,some 0)],[(13,some 1)],[(3,none)],[(1,none)],[(16,some 4)],[(17,some 5)],[(18,some 6)],[(15,some 3),(19,some 7)],[(14,some 2),(20,some 8)],[(4,none)],[(1,none)],[(23,some 11)],[(24,some 12)],[(22,some 10),(25,some 13)],[(21,some 9),(26,some 14)],[(3,none)],[(4,none)],[(27,some 15),(28,some 16),(29,some 17)]] rfl S aN kf kf kf ⟨px,px,px,px,px,px,px,D5 rfl rfl kf,LU rfl rfl kf,px,px,px,px,D5 rfl rfl kf,LU rfl rfl kf,px,px,px,ok_bp rfl rfl rfl rfl rfl rfl rfl,trivial⟩ ?_);clear S;intro _ _ _ S);refine Tz S rfl rfl rfl kf rfl rfl rfl ?_;clear S;intro _ _ S;refine h_ ?_;exact wp_ret (pF [_,_] S rfl (by exact⟨_,_,_,rfl,rfl,rfl⟩))
end
section
open Go Go.RowKit Go.Proofs Ab
def CP:=an @aW<|an @aO<|an @aI<|an @wi<|an @lu @gG
def Je:TQ:=(false,(undef,[]),(undef,[]))
def Rj:TZ:=(false,(undef,[]))
def inR(R:List TQ):List V:=R.flatMap fun p=>[.c (.bool p.1),.c p.2.1.1,.c p.2.2.1]
def OT(R:List TQ):List V:=R.flatMap fun p=>[.c p.2.1.1,.c p.2.2.1]
def inI(I:List TZ):List V:=I.flatMap fun p=>[.c (.bool p.1),.c p.2.1]
def TV(I:List TZ):List V:=I.map fun p=> .c p.2.1
theorem inR_len(R:List TQ):(inR R).length=R.length*3:=by
 induction R with
 |nil=>rfl
 |cons p R a=>simp only[inR,sH,bZ,dX,dJ]at a ⊢;omega
theorem inI_len(R:List TZ):(inI R).length=R.length*2:=by
 induction R with
 |nil=>rfl
 |cons p R a=>simp only[inI,sH,bZ,dX,dJ]at a ⊢;omega
theorem D_(R:List TQ):(OT R).length=R.length*2:=by
 induction R with
 |nil=>rfl
 |cons p R a=>simp only[OT,sH,bZ,dX,dJ]at a ⊢;omega
theorem Gy(R:List TZ):(TV R).length=R.length:=iJ ..
theorem TW:∀(R:List TQ) (i:Nat),i<R.length→((inR R).drop (i*3)).take 3=[.c (.bool (R.getD i Je).1),.c (R.getD i Je).2.1.1,.c (R.getD i Je).2.2.1]
 |[],i,h=>by simp at h
 |p::r,0,h=>rfl
 |p::r,i+1,h=>by
  have:=TW r i (by simpa using h);rw[show(i+1)*3=((i*3+1)+1)+1 from om];exact this
theorem TY:∀(R:List TZ) (i:Nat),i<R.length→((inI R).drop (i*2)).take 2=[.c (.bool (R.getD i Rj).1),.c (R.getD i Rj).2.1]
 |[],i,h=>by simp at h
 |p::r,0,h=>rfl
 |p::r,i+1,h=>by
  have:=TY r i (by simpa using h);rw[show(i+1)*2=(i*2+1)+1 from om];exact this
theorem IW{L:List V}{k n:Nat}{c:List V}(h:(L.drop k).take n=c){j:Nat}(a:j<c.length):L.getD (k+j) .un=c.getD j .un:=by
 subst h;rw[jo]at a;rw[dN,dN,ou,au om,uB]
theorem ouR_next(R:List TQ)(i:Nat)(h:i<R.length):OT (R.take i)++[.c (R.getD i Je).2.1.1,.c (R.getD i Je).2.2.1]=OT (R.take (i+1)):=by
 have a:R.getD i Je=R[i]:=by simp[dN,h]
 rw[y7 h,OT,OT,List.flatMap_append,a];rfl
theorem ouI_next(R:List TZ)(i:Nat)(h:i<R.length):TV (R.take i)++[.c (R.getD i Rj).2.1]=TV (R.take (i+1)):=by
 have a:R.getD i Rj=R[i]:=by simp[dN,h]
 rw[y7 h,TV,TV,w_,a];rfl
theorem Rk(R:List TQ)(I:List TZ)(y:List V)(N:R.length≤1000)(P:I.length≤1000)(O:y.length≤1000)(J:∀p,p∈R→p.2.1.1.oneCell'=true∧p.2.2.1.oneCell'=true)(L:∀p,p∈I→p.2.1.oneCell'=true):
 aT 12 [.g [.l 3 (inR R),.l 2 (inI I),.l 1 y]] (.o 23 1 (OT R++TV I)):=by
 have u:=inR_len R
 have zI:=inI_len I
 have z:R.length*3/3=R.length:=om
 have A:I.length*2/2=I.length:=om
 refine f_ aN a_ Tryz.func12 ?_
 refine aX @CP ?_
 refine aF [(3,23,1)] Nat (fun i=>⟨[(1,.pt 0 0),(3,.ow 1 1 (i*2)),(4,.i .i64 (i:Int))],[(0,some ⟨41,3,[.l 3 (inR R),.l 2 (inI I),.l 1 y],true,true⟩),(1,some ⟨23,1,OT (R.take i),true,false⟩)],3⟩)
  (fun i=>i≤R.length) (fun i=>R.length-i) 0 (aG _) (by exact oL) (by
  exact lC) ?_
 intro i G M m f F
 have H:=D_ (R.take i)
 rw[jo,pR om]at H
 by_cases h:(i:Int)<(R.length:Int)
 ·have row:=TW R i om;have a:=ouR_next R i om;have g1:=IW row (j:=1) sy;have g2:=IW row (j:=2) sy;simp only[List.getD_cons_succ,List.getD_cons_zero]at g1 g2;have E:=D_ (R.take (i+1));rw[jo,pR om]at E;obtain⟨c1,c2⟩:=J _ (by rw[dN,bC om];exact uP _:R.getD i Je∈R);have k1:(V.c (R.getD i Je).2.1.1).cell=true:=c1;have k2:(V.c (R.getD i Je).2.2.1).cell=true:=c2;generalize R.getD i Je=x at*
  repeat first
   |(refine hK _ ?_;clear hK K)
   |((first|refine ay (fun K hK=>?_)|refine ax (fun K hK=>?_)|refine ak (fun K hK=>?_));simp(disch:=(first|omega|assumption)) only[S1,seval,-Int.reduceToNat,-List.reduceReplicate,aK.sb,aK.mut,aU,↓aJ,aV,aC,CP,h,u,z,g1,g2,k1,k2,a];refine hK _ ?_;clear hK K)
   |simp only[Sv,↓reduceIte,Nat.reduceEqDiff]
  refine m _ (i+1) om om ?_;exact lC
 obtain rfl:i=R.length:=om
 rw[iH]at*
 repeat first
  |(refine hK _ ?_;clear hK K)
  |((first|refine ay (fun K hK=>?_)|refine ax (fun K hK=>?_)|refine ak (fun K hK=>?_));simp(disch:=(first|omega|assumption)) only[S1,seval,-Int.reduceToNat,-List.reduceReplicate,aK.sb,aK.mut,aU,↓aJ,aV,aC,CP,h,u,zI,z,A];refine hK _ ?_;clear hK K)
  |simp only[Sv,↓reduceIte,Nat.reduceEqDiff]
 refine f _ _ ?_
 clear f F m h G
 repeat first
  |(refine hK _ ?_;clear hK K)
  |((first|refine ay (fun K hK=>?_)|refine ax (fun K hK=>?_)|refine ak (fun K hK=>?_));simp(disch:=(first|omega|assumption)) only[S1,seval,-Int.reduceToNat,-List.reduceReplicate,aK.sb,aK.mut,aU,↓aJ,aV,aC,CP,u,zI,z,A];refine hK _ ?_;clear hK K)
  |simp only[Sv,↓reduceIte,Nat.reduceEqDiff]
 have z0:OT R++TV (I.take 0)=OT R:=by simp[TV]
 refine aF [] Nat (fun i=>⟨[(1,.pt 0 0),(3,.ow 1 1 (R.length*2+i)),(5,.i .i64 (i:Int))],[(0,some ⟨41,3,[.l 3 (inR R),.l 2 (inI I),.l 1 y],true,true⟩),(1,some ⟨23,1,OT R++TV (I.take i),true,false⟩)],3⟩)
  (fun i=>i≤I.length) (fun i=>I.length-i) 0 (aG _) (by exact oL) (by
  simp(disch:=(first|omega|assumption)) only[Sl,Sa,Sw,↓reduceIte,Nat.reduceEqDiff,Nat.reduceLT,jH,iI,Nat.reduceBneDiff,Nat.reduceAdd,ku,ne_eq,reduceCtorEq,kP,mZ,jf,jP,bW,bY,and_self,z0]
  repeat' first|rfl|omega|(simp only[bZ,dX,dJ];done)|apply And.intro) ?_
 intro i G M m f F
 have C:=Gy (I.take i)
 rw[jo,pR om]at C
 by_cases h:(i:Int)<(I.length:Int)
 ·have row:=TY I i om;have a:=ouI_next I i om;have g1:=IW row (j:=1) sy;simp only[List.getD_cons_succ,List.getD_cons_zero]at g1;have c1:=L _ (by rw[dN,bC om];exact uP _:I.getD i Rj∈I);have k1:(V.c (I.getD i Rj).2.1).cell=true:=c1;generalize I.getD i Rj=x at*
  repeat first
   |(refine hK _ ?_;clear hK K)
   |((first|refine ay (fun K hK=>?_)|refine ax (fun K hK=>?_)|refine ak (fun K hK=>?_));simp(disch:=(first|omega|assumption)) only[S1,seval,-Int.reduceToNat,-List.reduceReplicate,aK.sb,aK.mut,aU,↓aJ,aV,aC,CP,h,zI,A,g1,k1,a,nY];refine hK _ ?_;clear hK K)
   |simp only[Sv,↓reduceIte,Nat.reduceEqDiff]
  refine m _ (i+1) om om ?_;exact lC
 obtain rfl:i=I.length:=om
 rw[iH]at*
 repeat first
  |(refine hK _ ?_;clear hK K)
  |((first|refine ay (fun K hK=>?_)|refine ax (fun K hK=>?_)|refine ak (fun K hK=>?_));simp(disch:=(first|omega|assumption)) only[S1,seval,-Int.reduceToNat,-List.reduceReplicate,aK.sb,aK.mut,aU,↓aJ,aV,aC,CP,h,u,zI,z,A];refine hK _ ?_;clear hK K)
  |simp only[Sv,↓reduceIte,Nat.reduceEqDiff]
 refine f _ _ ?_
 clear f F m h G
 exact U8 @CP
end
section
open Go Go.RowKit Go.Proofs Ab
variable{a:Act}{t:TypeId}{N:Nat}{K:List (Nat×Value)}{s3 s4:Bool}{l:List (Bool×List Nat×List Nat)}
theorem T_{ops:Array Oper}{rest:List Oper}{Q:Exit→Act→World→Prop}{w:World}{f:FuncId}{s3:Nat}{args:Array Operand}{A7:Array TypeId}{p:String}{e:Array Edge}{vs:List Value}{R:Ending→World→Prop}(g:Jb Tryz.prog f=true)(j:args.toList.map a.eval=vs)(h:Calls Tryz.prog f vs.toArray w R)(l:∀e w',R e w'→∃v,e= .returned v)(k:∀v w',R (.returned v) w'→wpList Tryz.prog ops Q rest (a.put (some s3) v) w'):wpList Tryz.prog ops Q (⟨some s3,.call ⟨.value (.func f),args,A7⟩,t,p,e,none⟩::rest) a w:=by
 refine BigFrame.wpList_want rfl fun m hK=>?_
 unfold Oper.wp;rw[pG g,Oper.upon_enter,j];refine h.mono ?_;rintro e w' c;obtain⟨v,rfl⟩:=l e w' c;exact hK _ _ (k v w' c)
structure LS(N:Nat)(K:List (Nat×Value))(a:Act):Prop where
 sz:a.tmps.size=N
 df:a.defers=[]
 kp:∀p,p∈K→a.tmps.getD p.1 undef=p.2
theorem LS.ps{w:World}(h:LS N K a)(f:TO w):PS w N 0 (kE K) [] g0 a w:=
 ⟨Y6 f,h.sz,h.df,fun t d ht=>by
   have:=LJ ht;obtain⟨p,c,e⟩:=eG.1 this;cases e;exact h.kp p c,fun _ _ h=>by cases h⟩
theorem lk_l0{w0 w:World}{γ:Gh}:∀(L:List Value),l0 w0 γ w (L.map Δ.k) L
 |[]=>trivial
 |_::L=>⟨rfl,lk_l0 L⟩
theorem nJ{w:World}{q:Nat}{L:List Value}(h:w.heap[q]? =some (.cells L.toArray t (0,0))):Old w q (L.map Δ.k):=⟨L,t,h,fun _ _ _ _=>lk_l0 L⟩
def kpk(E:En):List (Nat×Value)→Prop
 |[]=>True
 |p::r=>lk E p.1=some (.k p.2)∧kpk E r
theorem Ua{E:En}:∀{K:List (Nat×Value)},kpk E K→∀p,p∈K→lk E p.1=some (.k p.2)
 |q::r,h,p,a=>by
  rcases dZ.1 a with rfl|a
  ·exact h.1
  ·exact Ua h.2 p a
theorem PS.ls{w0 w:World}{γ:Gh}{c:Nat}{E:En}{Bx:Bs}(S:PS w0 N c E Bx γ a w)(h:kpk E K):LS N K a:=⟨S.sz,S.df,fun p f=>S.env p.1 _ (Ua h p f)⟩
theorem LS.put(h:LS N K a){s:Nat}{v:Value}(g:Nat.blt s N=true)(hK:∀p,p∈K→p.1≠s):LS N ((s,v)::K) (a.put (some s) v):=by
 have f:s<a.tmps.size:=by rw[h.sz];exact Nat.blt_eq▸g
 refine⟨by show(a.tmps.setIfInBounds s v).size=N;simp[h.sz],h.df,fun p c=>?_⟩;rcases dZ.1 c with rfl|c
 ·exact put_eq f
 ·rw[tJ (Ne.symm (hK p c))];exact h.kp p c
theorem LS.sub{K':List (Nat×Value)}(h:LS N K a)(hK:∀p,p∈K'→p∈K):LS N K' a:=⟨h.sz,h.df,fun p c=>h.kp p (hK p c)⟩
structure CS(w:World)(X:Nat→Prop)(b0:Nat)(x1 x2 y1 y2 z0 z1 z2 u v e1 e2 e3 lv e4:Value)(s0 s1 s3 s4:Bool)(A0 D0 A1 D1 A3 A4:List Nat)(l:List (Bool×List Nat×List Nat)):Prop where
 bx:w.heap[b0]? =some (.cells #[.bool s0,x1,x2,.bool s1,y1,y2,z0,z1,z2,.bool s3,u,.bool s4,v,e1,e2,e3,lv,e4] 30 (0,0))
 nx:¬X b0
 r1:Rep0 w (fun q=>q<w.heap.size∧¬X q) x1 (.l 1 (W A0))
 r2:Rep0 w (fun q=>q<w.heap.size∧¬X q) x2 (.l 1 (W D0))
 r3:Rep0 w (fun q=>q<w.heap.size∧¬X q) y1 (.l 1 (W A1))
 r4:Rep0 w (fun q=>q<w.heap.size∧¬X q) y2 (.l 1 (W D1))
 r5:Rep0 w (fun q=>q<w.heap.size∧¬X q) u (.l 1 (W A3))
 r6:Rep0 w (fun q=>q<w.heap.size∧¬X q) v (.l 1 (W A4))
 rl:Rep0 w (fun q=>q<w.heap.size∧¬X q) lv (.l 3 (RC l))
theorem CS.keep{w w':World}{X X':Nat→Prop}{b0:Nat}{x1 x2 y1 y2 z0 z1 z2 u v e1 e2 e3 lv e4:Value}{s0 s1:Bool}{A0 D0 A1 D1 A3 A4:List Nat}(h:CS w X b0 x1 x2 y1 y2 z0 z1 z2 u v e1 e2 e3 lv e4 s0 s1 s3 s4 A0 D0 A1 D1 A3 A4 l)(f:w.heap.size≤w'.heap.size)(hb:∀q,q<w.heap.size→¬X q→w'.heap[q]? =w.heap[q]?)(c:∀q,X' q→X q∨w.heap.size≤q):CS w' X' b0 x1 x2 y1 y2 z0 z1 z2 u v e1 e2 e3 lv e4 s0 s1 s3 s4 A0 D0 A1 D1 A3 A4 l:=by
 have hl:b0<w.heap.size:=(pW.1 h.bx).1;have up:∀{x:Value} {V:V},Rep0 w (fun q=>q<w.heap.size∧¬X q) x V→Rep0 w' (fun q=>q<w'.heap.size∧¬X' q) x V:=fun h=>h.mono (fun q hq=>⟨om,fun a=>(c q a).elim hq.2 fun h=>om⟩) fun q hq=>hb q hq.1 hq.2
 exact⟨(hb b0 hl h.nx).trans h.bx,fun a=>(c b0 a).elim h.nx fun h=>om,up h.r1,up h.r2,up h.r3,up h.r4,up h.r5,up h.r6,up h.rl⟩
theorem list18{xs:List Value}(h:xs.length=18):∃C x1 x2 x3 A z y u m l y0 y1 y2 j g f c a,xs=[C,x1,x2,x3,A,z,y,u,m,l,y0,y1,y2,j,g,f,c,a]:=by
 match xs,h with
 |[C,x1,x2,x3,A,z,y,u,m,l,y0,y1,y2,j,g,f,c,a],_=>exact⟨_,_,_,_,_,_,_,_,_,_,_,_,_,_,_,_,_,_,rfl⟩
theorem JQ{w:World}{H:Nat→Prop}{x:Value}{s0 s1 s2:Bool}{a0 y a1 d1 G d2 a3 a4:List Nat}{n m k:Int}{st:List UInt8}(h:Rep0 w H x (Ff s0 s1 s2 s3 s4 a0 y a1 d1 G d2 a3 a4 n m k l st)):
 ∃x1 x2 y1 y2 z0 z1 z2 u v e1 e2 e3 lv e4,x= .agg #[.bool s0,x1,x2,.bool s1,y1,y2,z0,z1,z2,.bool s3,u,.bool s4,v,e1,e2,e3,lv,e4]∧Rep0 w H x1 (.l 1 (W a0))∧Rep0 w H x2 (.l 1 (W y))∧Rep0 w H y1 (.l 1 (W a1))∧Rep0 w H y2 (.l 1 (W d1))∧Rep0 w H u (.l 1 (W a3))∧Rep0 w H v (.l 1 (W a4))∧Rep0 w H lv (.l 3 (RC l))∧z0.oneCell'=true∧z1.oneCell'=true∧z2.oneCell'=true∧e1.oneCell'=true∧e2.oneCell'=true∧e3.oneCell'=true∧e4.oneCell'=true:=by
 obtain⟨xs,rfl,a⟩:=(Rep.up (ov:=fun _=>none) h).GR
 obtain⟨T,x1,x2,x3,C,A,Q,P,O,N,y0,y1,y2,M,L,J,z,I,rfl⟩:=list18 (xs:=xs) a.1
 have q0:=(Rep.up (ov:=fun _=>none) (a.2 0 _ _ rfl rfl)).qH
 have q3:=(Rep.up (ov:=fun _=>none) (a.2 3 _ _ rfl rfl)).qH
 have F:=(Rep.up (ov:=fun _=>none) (a.2 6 _ _ rfl rfl)).qH
 have E:=(Rep.up (ov:=fun _=>none) (a.2 9 _ _ rfl rfl)).qH
 have j:=(Rep.up (ov:=fun _=>none) (a.2 11 _ _ rfl rfl)).qH
 have q13:=(Rep.up (ov:=fun _=>none) (a.2 13 _ _ rfl rfl)).dU
 have Jf:=(Rep.up (ov:=fun _=>none) (a.2 14 _ _ rfl rfl)).dU
 have g:=(Rep.up (ov:=fun _=>none) (a.2 15 _ _ rfl rfl)).dU
 have f:=(Rep.up (ov:=fun _=>none) (a.2 17 _ _ rfl rfl)).BB
 obtain⟨a7,Y,c7,q7⟩:=gV (a.2 7 _ _ rfl rfl)
 obtain⟨a8,U,Z,q8⟩:=gV (a.2 8 _ _ rfl rfl)
 subst q0 q3 F E j q13 Jf g f q7 q8
 exact⟨x1,x2,C,A,_,_,_,y0,y2,_,_,_,z,_,rfl,a.2 1 _ _ rfl rfl,a.2 2 _ _ rfl rfl,a.2 4 _ _ rfl rfl,a.2 5 _ _ rfl rfl,a.2 10 _ _ rfl rfl,a.2 12 _ _ rfl rfl,a.2 16 _ _ rfl rfl,rfl,rfl,rfl,rfl,rfl,rfl,rfl⟩
end
section
open Go Go.RowKit Go.Proofs Ab
theorem law_A{w:World}{H:Nat→Prop}{x:Value}{s0 s1 s2 s3 s4:Bool}{a0 d0 a1 d1 a2 d2 a3 a4:List Nat}{n m k:Int}{l:List (Bool×List Nat×List Nat)}{st:List UInt8}{Q:Ending→World→Prop}(hj:TO w)(hH:∀q,H q→q<w.heap.size)(hx:Rep0 w H x (Ff s0 s1 s2 s3 s4 a0 d0 a1 d1 a2 d2 a3 a4 n m k l st))
 (kk:∀(a:Act) (w3:World) (b0:Nat) (x1 x2 y1 y2 z0 z1 z2 u v e1 e2 e3 lv e4:Value),LS 267 [(1,Pt b0)] a→Below w.heap.size w w3→CS w3 (fun _=>False) b0 x1 x2 y1 y2 z0 z1 z2 u v e1 e2 e3 lv e4 s0 s1 s3 s4 (a0.take 12) (d0.take 12) (a1.take 12) (d1.take 12) (a3.take 12) (a4.take 12) (KO l)→(qd 3 (qf Tryz.f3)).wp Tryz.prog (bodyPost Tryz.prog Tryz.f3 Q) a w3):Calls Tryz.prog 3 #[x] w Q:=by
 obtain⟨x1,x2,y1,y2,z0,z1,z2,u,v,e1,e2,e3,lv,e4,rfl,_⟩:=JQ hx
 refine IP (ds:=[.g [.k (.bool s0),.k x1,.k x2,.k (.bool s1),.k y1,.k y2,.k z0,.k z1,.k z2,.k (.bool s3),.k u,.k (.bool s4),.k v,.k e1,.k e2,.k e3,.k lv,.k e4]]) (vs:=[.agg #[.bool s0,x1,x2,.bool s1,y1,y2,z0,z1,z2,.bool s3,u,.bool s4,v,e1,e2,e3,lv,e4]]) (code:=qf Tryz.f3) hj ⟨⟨_,rfl,rfl,rfl,rfl,rfl,rfl,rfl,rfl,rfl,rfl,rfl,rfl,rfl,rfl,rfl,rfl,rfl,rfl,rfl,trivial⟩,trivial⟩ Tryz.func3 rfl rfl fun ac S=>?_
 refine ET ?_
 iterate 2 refine bQ S uI fun _ _ _ S=>?_
 refine h_ (Zf ?_)
 refine aj S (pf (d:= .k (.bool true)) NZ) fun _ _ _ S=>?_
 refine bQ S uI fun _ _ _ S=>?_
 refine h_ ?_
 refine eH S rfl rfl (wp_skip ?_)
 refine ET ?_
 refine aj S (Y1 rfl rfl (n:=18) kf kf (aY _)) fun γ ac1 E S=>?_
 obtain⟨b0,hβ,e1',hb,hlo⟩:=S.bk (t:=1) (j:=0) (L:=[.bool s0,x1,x2,.bool s1,y1,y2,z0,z1,z2,.bool s3,u,.bool s4,v,e1,e2,e3,lv,e4]) rfl rfl
 obtain⟨xs,ex,hl⟩:=S.env 24 _ rfl
 have hxs:=kl (L:=[.bool s0,x1,x2,.bool s1,y1,y2,z0,z1,z2,.bool s3,u,.bool s4,v,e1,e2,e3,lv,e4]) hl
 subst hxs
 have z:=S.W.bel
 have s1':=z.size
 have hbl:b0<E.heap.size:=(pW.1 hb).1
 have up1:Rep0 E (fun q=>q<E.heap.size∧q≠b0) (.agg #[.bool s0,x1,x2,.bool s1,y1,y2,z0,z1,z2,.bool s3,u,.bool s4,v,e1,e2,e3,lv,e4]) (Ff s0 s1 s2 s3 s4 a0 d0 a1 d1 a2 d2 a3 a4 n m k l st):=hx.mono (fun q hq=>⟨by have:=hH q hq;omega,by have:=hH q hq;omega⟩) fun q hq=>z.block q (hH q hq)
 have hc:=((Qq s0 s1 s2 s3 s4 a0 d0 a1 d1 a2 d2 a3 a4 n m k l st).to0 rfl) E (fun q=>q<E.heap.size∧q≠b0) _ trivial (TJ.mono hj (fun q hq=>⟨om,om⟩) fun q hq=>z.block q hq) (fun q h=>h.1) (rp1 up1)
 have ls0:LS 267 [(1,Pt b0)] ac1:=⟨S.sz,S.df,fun p U=>by
  rw[l_.1 U];exact e1'⟩
 refine T_ kf (by simp only[dI,fJ,bU,ex]) hc (fun e w' ⟨v,h,_⟩=>⟨v,h⟩) fun v2 A hr=>?_
 obtain⟨v2',hv2,C,NN,hN,h⟩:=hr
 cases hv2
 have h:Rep0 A (fun q=>(q<E.heap.size∧q≠b0)∨NN q) v2 (Ff s0 s1 s2 s3 s4 (a0.take 12) (d0.take 12) (a1.take 12) (d1.take 12) (a2.take 12) (d2.take 12) (a3.take 12) (a4.take 12) n m k (KO l) st):=by
  rcases h with h|⟨e,sz,cs,n,xs,he,_⟩|⟨r',he,_⟩
  ·exact h
  ·cases he
  ·cases he
 obtain⟨p1,p2,q1,q2,r0,r1,r2,G,F,N,M,J,f,I,rfl,k1,k2,k3,k4,k5,k6,kL,o0,o1,o2,o3,o4,o5,o6⟩:=JQ h
 have s2':=C.size
 have P:=ls0.put (s:=25) (v:= .agg #[.bool s0,p1,p2,.bool s1,q1,q2,r0,r1,r2,.bool s3,G,.bool s4,F,N,M,J,f,I]) rfl (fun p U=>by rw[l_.1 U];show 1≠25;decide)
 have Z:A.heap[b0]? =some (.cells #[.bool s0,x1,x2,.bool s1,y1,y2,z0,z1,z2,.bool s3,u,.bool s4,v,e1,e2,e3,lv,e4] 30 (0,0)):=(C.block b0 hbl).trans hb
 have O:∀{x:Value} {sz:Nat} {cs:List V} {H:Nat→Prop},Rep0 A H x (.l sz cs)→x.oneCell'=true:=fun h=>by
  obtain⟨a,n,c,rfl⟩:=gV h;rfl
 have hone:∀y,y∈[Value.bool s0,p1,p2,.bool s1,q1,q2,r0,r1,r2,.bool s3,G,.bool s4,F,N,M,J,f,I]→y.oneCell'=true:=fun y hy=>by
  simp only[dZ,og,or_false]at hy;rcases hy with rfl|rfl|rfl|rfl|rfl|rfl|rfl|rfl|rfl|rfl|rfl|rfl|rfl|rfl|rfl|rfl|rfl|rfl
  ·rfl
  ·exact O k1
  ·exact O k2
  ·rfl
  ·exact O k3
  ·exact O k4
  ·exact o0
  ·exact o1
  ·exact o2
  ·rfl
  ·exact O k5
  ·rfl
  ·exact O k6
  ·exact o3
  ·exact o4
  ·exact o5
  ·exact O kL
  ·exact o6
 refine wpList_store_row rfl 30 (.tmp 1) (.tmp 25) rfl b0 #[.bool s0,p1,p2,.bool s1,q1,q2,r0,r1,r2,.bool s3,G,.bool s4,F,N,M,J,f,I] (P.kp (1,_) (.tail _ (.head _))) (P.kp (25,_) (.head _)) 30 _ Z kf rfl ?_ ?_
 ·simp only[Array.all_eq_true'];exact fun y hy=>hone y (by simpa using hy)
 refine h_ ?_
 have Y:∀q,q≠b0→(A.setRow b0 #[.bool s0,p1,p2,.bool s1,q1,q2,r0,r1,r2,.bool s3,G,.bool s4,F,N,M,J,f,I]).heap[q]? =A.heap[q]? :=fun q hq=>setRow_other A b0 q _ hq
 have T:(A.setRow b0 #[.bool s0,p1,p2,.bool s1,q1,q2,r0,r1,r2,.bool s3,G,.bool s4,F,N,M,J,f,I]).heap.size=A.heap.size:=by simp[World.setRow]
 have hNb:∀q,((q<E.heap.size∧q≠b0)∨NN q)→q<A.heap.size∧q≠b0:=fun q hq=>by
  rcases hq with hq|hq
  ·exact⟨om,hq.2⟩
  ·have:=hN q hq;exact⟨om,om⟩
 have up:∀{x:Value} {V:V},Rep0 A (fun q=>(q<E.heap.size∧q≠b0)∨NN q) x V→Rep0 (A.setRow b0 #[.bool s0,p1,p2,.bool s1,q1,q2,r0,r1,r2,.bool s3,G,.bool s4,F,N,M,J,f,I]) (fun q=>q<(A.setRow b0 #[.bool s0,p1,p2,.bool s1,q1,q2,r0,r1,r2,.bool s3,G,.bool s4,F,N,M,J,f,I]).heap.size∧¬False) x V:=fun h=>h.mono (fun q hq=>⟨by rw[T];exact(hNb q hq).1,id⟩) fun q hq=>Y q (hNb q hq).2
 exact kk _ _ b0 p1 p2 q1 q2 r0 r1 r2 G F N M J f I ((P.sub (K':=[(1,Pt b0)]) fun p U=>by rw[l_.1 U];exact .tail _ (.head _))) ⟨C.os.trans z.os,C.tape.trans z.tape,C.output.trans z.output,by rw[T];omega,fun q hq=>(Y q om).trans ((C.block q om).trans (z.block q hq))⟩ ⟨setRow_heap A b0 _ _ _ _ Z,id,up k1,up k2,up k3,up k4,up k5,up k6,up kL⟩
end
section
open Go Go.RowKit Go.Proofs Ab
section
variable {P:Program} {w0:World} {N i:Nat} {R:Nat→Option Δ} {Bx:Bs} {dst:Option Tmp} {x:Operand} {ty t:TypeId} {p:String} {e:Array Edge} {gd:Option (Nat×Bool)} {q k:Nat}
theorem d_{f off:Nat}(h:lX R x (.k (.pointer (some ⟨q,k,none⟩))))(c:fofs P ty f=some off):Ok P w0 N ⟨dst,.fieldAddr ty x f,t,p,e,gd⟩ i R Bx (.k (.pointer (some ⟨q,k+off,none⟩))) none:=
 wV fun γ w a y _=>by
  have h2:a.eval x= .pointer (some ⟨q,k,none⟩):=h.ev y;unfold fofs at c;split at c
  ·rename_i z u;split at c
   ·rename_i fd l;split at c
    ·rename_i m j;cases hz:Nat.beq m.size 0 with
     |true=>rw[hz]at c;cases c
     |false=>
      rw[hz]at c;have g:¬m.size=0:=fun e=>by rw[e]at hz;cases hz
      obtain rfl:=dS c;exact⟨_,by simp[execOp,h2,Instr.fieldAt,run_underlying u,l,Instr.sureAddr,fieldPlace,sizeOf,typeInfo,j,g,Addr.add_lit],rfl⟩
    ·cases c
   ·cases c
  ·cases c
theorem pI{ds:List Δ}{d:Δ}(A:Old w0 q ds)(h:lX R x (.k (.pointer (some ⟨q,k,none⟩))))(j:lN P ty=false)(z:(P.underlying ty).isSome=true)(hd:ds[k]? =some d):Ok P w0 N ⟨dst,.load ty x,t,p,e,gd⟩ i R Bx d none:=
 ok_w fun γ w a F y G=>by
  have h2:a.eval x= .pointer (some ⟨q,k,none⟩):=h.ev G;obtain⟨xs,bt,g,l⟩:=A;have l:=l γ w F y;have hq:q<w0.heap.size:=(pW.1 g).1;replace g:=(y.bel.block q hq).trans g;obtain⟨u,C,m⟩:=l.get hd;obtain⟨H,c⟩:=yH.1 z;have E:=vY g C;have f:(isAgg ty).run P w= .ok false w:=by
   rw[←j];simp only[isAgg,lN,Sem.run_bind,run_underlying c,Result.andThen_ok,c];cases H<;>rfl
  refine⟨u,by simp[execOp,h2,Instr.loadAt,Instr.sureAddr,loadVar,f,E],?_⟩;cases d<;>first|exact m|exact m.elim
end
abbrev csD(s0 s1 s3 s4:Bool)(A0 D0 A1 D1 A3 A4:List Nat)(z0 z1 z2 e1 e2 e3 lv e4:Value):List Δ:=[.k (.bool s0),.rd A0,.rd D0,.k (.bool s1),.rd A1,.rd D1,.k z0,.k z1,.k z2,.k (.bool s3),.rd A3,.k (.bool s4),.rd A4,.k e1,.k e2,.k e3,.k lv,.k e4]
variable{b0:Nat}{x1 x2 y2 z2 u e2 e3 lv e4 g1 g2 h1 h2:Value}{s3 s4:Bool}{A0 D0 A1 D1 A3 A4 A:List Nat}{l:List (Bool×List Nat×List Nat)}{w':World}
theorem Ro{w:World}{X:Nat→Prop}{y1 z0 z1 v e1:Value}{s0 s1:Bool}(h:CS w X b0 x1 x2 y1 y2 z0 z1 z2 u v e1 e2 e3 lv e4 s0 s1 s3 s4 A0 D0 A1 D1 A3 A4 l):Old w b0 (csD s0 s1 s3 s4 A0 D0 A1 D1 A3 A4 z0 z1 z2 e1 e2 e3 lv e4):=
 ⟨_,_,h.bx,fun γ w' F a=>by
   have g:∀{x:Value} {A:List Nat},Rep0 w (fun q=>q<w.heap.size∧¬X q) x (.l 1 (W A))→Go.Proofs.YtpopphdnlhihdaaGreatDoor.s0 w γ w' (.rd A) x:=fun h=>CJ a (h.mono (fun q h=>h.1) fun _ _=>rfl)
   exact⟨rfl,g h.r1,g h.r2,rfl,g h.r3,g h.r4,rfl,rfl,rfl,rfl,g h.r5,rfl,g h.r6,rfl,rfl,rfl,rfl,rfl,trivial⟩⟩
structure LF(w:World)(X:Nat→Prop)(q3 q4 q7 q8:Nat)(vi vj g1 g2 h1 h2 k1 k2 m1 m2 ui uj:Value)(s0 s1 s3 s4:Bool)(A1 D1 A3 A4:List Nat):Prop where
 b3:w.heap[q3]? =some (.cells #[.bool s0,g1,g2,h1,h2] 34 (0,0))
 b4:w.heap[q4]? =some (.cells #[.bool s1,k1,k2,m1,m2] 34 (0,0))
 b7:w.heap[q7]? =some (.cells #[.bool s3,ui] 25 (0,0))
 b8:w.heap[q8]? =some (.cells #[.bool s4,uj] 25 (0,0))
 n3:¬X q3
 n4:¬X q4
 n7:¬X q7
 n8:¬X q8
 rk1:Rep0 w (fun q=>q<w.heap.size∧¬X q) k1 (.l 1 (W A1))
 rk2:Rep0 w (fun q=>q<w.heap.size∧¬X q) k2 (.l 1 (W D1))
 rm1:Rep0 w (fun q=>q<w.heap.size∧¬X q) m1 (.l 1 (W (A1++[71,72])))
 rm2:Rep0 w (fun q=>q<w.heap.size∧¬X q) m2 (.l 1 (W (D1++[71,72])))
 rui:Rep0 w (fun q=>q<w.heap.size∧¬X q) ui (.l 1 (W A3))
 ruj:Rep0 w (fun q=>q<w.heap.size∧¬X q) uj (.l 1 (W A4))
 rvi:Rep0 w (fun q=>q<w.heap.size∧¬X q) vi (.l 1 (W (A3++[71,72])))
 rvj:Rep0 w (fun q=>q<w.heap.size∧¬X q) vj (.l 1 (W (A4++[71,72])))
theorem LF.keep{w:World}{X X':Nat→Prop}{q3 q4 q7 q8:Nat}{vi vj k1 k2 m1 m2 ui uj:Value}{s0 s1:Bool}(h:LF w X q3 q4 q7 q8 vi vj g1 g2 h1 h2 k1 k2 m1 m2 ui uj s0 s1 s3 s4 A1 D1 A3 A4)(j:w.heap.size≤w'.heap.size)(hb:∀q,q<w.heap.size→¬X q→w'.heap[q]? =w.heap[q]?)(g:∀q,X' q→X q∨w.heap.size≤q):LF w' X' q3 q4 q7 q8 vi vj g1 g2 h1 h2 k1 k2 m1 m2 ui uj s0 s1 s3 s4 A1 D1 A3 A4:=by
 have up:∀{x:Value} {V:V},Rep0 w (fun q=>q<w.heap.size∧¬X q) x V→Rep0 w' (fun q=>q<w'.heap.size∧¬X' q) x V:=fun h=>h.mono (fun q hq=>⟨om,fun f=>(g q f).elim hq.2 fun h=>om⟩) fun q hq=>hb q hq.1 hq.2
 have lt:∀{q:Nat} {o:Obj},w.heap[q]? =some o→q<w.heap.size:=fun h=>(pW.1 h).1
 have a:∀{q:Nat} {o:Obj},w.heap[q]? =some o→¬X q→¬X' q:=fun h f c=>(g _ c).elim f fun l=>by have:=lt h;omega
 exact⟨(hb _ (lt h.b3) h.n3).trans h.b3,(hb _ (lt h.b4) h.n4).trans h.b4,(hb _ (lt h.b7) h.n7).trans h.b7,(hb _ (lt h.b8) h.n8).trans h.b8,a h.b3 h.n3,a h.b4 h.n4,a h.b7 h.n7,a h.b8 h.n8,up h.rk1,up h.rk2,up h.rm1,up h.rm2,up h.rui,up h.ruj,up h.rvi,up h.rvj⟩
structure OA(w:World)(g1 g2 h1 h2:Value)(A D:List Nat):Prop where
 rg1:Rw w g1 A
 rg2:Rw w g2 D
 rh1:Rw w h1 (A++[71,72])
 rh2:Rw w h2 (D++[71,72])
 e1:g1.ownBlock=h1.ownBlock
 e2:g2.ownBlock=h2.ownBlock
 ne:∀q,h1.ownBlock=some q→h2.ownBlock≠some q
def Xa(h1 h2:Value)(q:Nat):Prop:=h1.ownBlock=some q∨h2.ownBlock=some q
theorem OA.lt{w:World}{D:List Nat}(h:OA w g1 g2 h1 h2 A D):∀q,Xa h1 h2 q→q<w.heap.size:=fun q hq=>hq.elim (fun e=>(h.rh1.lt q e).2) fun e=>(h.rh2.lt q e).2
theorem OA.keep{w:World}{D:List Nat}(h:OA w g1 g2 h1 h2 A D)(hb:∀q,Xa h1 h2 q→w'.heap[q]? =w.heap[q]?):OA w' g1 g2 h1 h2 A D:=
 ⟨bJ h.rg1 fun q hq=>hb q (.inl (h.e1▸hq)),bJ h.rg2 fun q hq=>hb q (.inr (h.e2▸hq)),bJ h.rh1 fun q hq=>hb q (.inl hq),bJ h.rh2 fun q hq=>hb q (.inr hq),h.e1,h.e2,h.ne⟩
section
variable {w0 w:World} {γ:Gh} {F:Nat→Prop} {N c:Nat} {E:En} {Bx:Bs} {a:Act}
theorem uu{t:Nat}{x:Value}{X:Nat→Prop}(h:Go.Proofs.YtpopphdnlhihdaaGreatDoor.s0 w0 γ w (.ow A t) x)(g:∀q,γ.κ t=some (some q)→¬X q):Rep0 w (fun q=>q<w.heap.size∧¬X q) x (.l 1 (W A)):=by
 obtain⟨⟨m,c,a⟩,f⟩:=h;exact zi uf a (Lc A) c fun q hq=>⟨(a.lt q hq).2,g q (by rw[f,hq])⟩
variable{d1 d2:Δ}
theorem l0_5{d3 d4 f:Δ}{xs:List Value}(h:l0 w0 γ w [d1,d2,d3,d4,f] xs):∃x1 x2 x3 c a,xs=[x1,x2,x3,c,a]∧Go.Proofs.YtpopphdnlhihdaaGreatDoor.s0 w0 γ w d1 x1∧Go.Proofs.YtpopphdnlhihdaaGreatDoor.s0 w0 γ w d2 x2∧Go.Proofs.YtpopphdnlhihdaaGreatDoor.s0 w0 γ w d3 x3∧Go.Proofs.YtpopphdnlhihdaaGreatDoor.s0 w0 γ w d4 c∧Go.Proofs.YtpopphdnlhihdaaGreatDoor.s0 w0 γ w f a:=by
 match xs,h with
 |[x1,x2,x3,c,a],⟨h1,h2,l,j,g,_⟩=>exact⟨_,_,_,_,_,rfl,h1,h2,l,j,g⟩
theorem l0_2{xs:List Value}(h:l0 w0 γ w [d1,d2] xs):∃x1 x2,xs=[x1,x2]∧Go.Proofs.YtpopphdnlhihdaaGreatDoor.s0 w0 γ w d1 x1∧Go.Proofs.YtpopphdnlhihdaaGreatDoor.s0 w0 γ w d2 x2:=by
 match xs,h with
 |[x1,x2],⟨h1,h2,_⟩=>exact⟨_,_,rfl,h1,h2⟩
theorem law_Bk{j3 L J I g f t2 G F C:Nat}{s0 s1:Bool}(S:PS w0 N c E Bx γ a w)(e1:lk E 1=some (.k (Pt b0)))(e3:lk E 3=some (.p j3 0))(e4:lk E 4=some (.p L 0))(e5:lk E 5=some (.ow (A3++[71,72]) F))(e6:lk E 6=some (.ow (A4++[71,72]) C))(e7:lk E 7=some (.p J 0))(e8:lk E 8=some (.p I 0))
 (b3:lk Bx j3=some (34,[.k (.bool s0),.ow A0 g,.ow D0 f,.ow (A0++[71,72]) g,.ow (D0++[71,72]) f])) (b4:lk Bx L=some (34,[.k (.bool s1),.ow A1 t2,.ow D1 G,.ow (A1++[71,72]) t2,.ow (D1++[71,72]) G])) (b7:lk Bx J=some (25,[.k (.bool s3),.ow A3 F])) (b8:lk Bx I=some (25,[.k (.bool s4),.ow A4 C]))
 (ht:(Nat.beq g f||Nat.beq g t2||Nat.beq g G||Nat.beq g F||Nat.beq g C||Nat.beq f t2||Nat.beq f G||Nat.beq f F||Nat.beq f C)=false):
 ∃q3 q4 q7 q8 vi vj g1 g2 h1 h2 k1 k2 m1 m2 ui uj,LS N [(1,Pt b0),(3,Pt q3),(4,Pt q4),(5,vi),(6,vj),(7,Pt q7),(8,Pt q8)] a∧LF w (Xa h1 h2) q3 q4 q7 q8 vi vj g1 g2 h1 h2 k1 k2 m1 m2 ui uj s0 s1 s3 s4 A1 D1 A3 A4∧OA w g1 g2 h1 h2 A0 D0∧∀q,Xa h1 h2 q→w0.heap.size≤q:=by
 obtain⟨q3,p3,f3⟩:=S.env 3 _ e3
 obtain⟨q4,p4,f4⟩:=S.env 4 _ e4
 obtain⟨q7,p7,f7⟩:=S.env 7 _ e7
 obtain⟨q8,p8,f8⟩:=S.env 8 _ e8
 have vi:=S.env 5 _ e5
 have vj:=S.env 6 _ e6
 obtain⟨r3,xs3,u3,Y,l3⟩:=S.box j3 _ b3
 obtain⟨r4,xs4,u4,U,l4⟩:=S.box L _ b4
 obtain⟨r7,xs7,u7,T,l7⟩:=S.box J _ b7
 obtain⟨r8,xs8,u8,Q,l8⟩:=S.box I _ b8
 obtain rfl:q3=r3:=dS (p3.symm.trans u3)
 obtain rfl:q4=r4:=dS (p4.symm.trans u4)
 obtain rfl:q7=r7:=dS (p7.symm.trans u7)
 obtain rfl:q8=r8:=dS (p8.symm.trans u8)
 obtain⟨y0,g1,g2,h1,h2,rfl,z0,z1,z2,z,y⟩:=l0_5 l3
 obtain⟨y1,k1,k2,m1,m2,rfl,H,x1,x2,x3,x4⟩:=l0_5 l4
 obtain⟨y2,ui,rfl,M,i1⟩:=l0_2 l7
 obtain⟨y3,uj,rfl,n0,n1⟩:=l0_2 l8
 have z0:y0= .bool s0:=z0
 have H:y1= .bool s1:=H
 have M:y2= .bool s3:=M
 have n0:y3= .bool s4:=n0
 subst z0 H M n0
 simp only[Bool.or_eq_false_iff]at ht
 obtain⟨⟨⟨⟨⟨⟨⟨⟨a1,a2⟩,a3⟩,a4⟩,a5⟩,a6⟩,a7⟩,a8⟩,a9⟩:=ht
 have ne:∀{t u q:Nat},Nat.beq t u=false→γ.κ t=some (some q)→γ.κ u≠some (some q):=fun h h1 h2=>by
  have:=S.W.ki _ _ _ h1 h2;rw[this,Nat.beq_refl]at h;cases h
 have O:∀q,Xa h1 h2 q→γ.κ g=some (some q)∨γ.κ f=some (some q):=fun q hq=>hq.elim (fun e=> .inl (by rw[z.2,e])) fun e=> .inr (by rw[y.2,e])
 have bx:∀{i b:Nat},γ.β i=some b→¬Xa h1 h2 b:=fun hi l=>(O _ l).elim (fun e=>(S.W.kn _ _ e).2.2 _ hi) fun e=>(S.W.kn _ _ e).2.2 _ hi
 have nx:∀{t:Nat},Nat.beq g t=false→Nat.beq f t=false→∀q,γ.κ t=some (some q)→¬Xa h1 h2 q:=fun h1' Z q hq l=>(O q l).elim (fun e=>ne h1' e hq) fun e=>ne Z e hq
 have j:∀{A:List Nat} {t:Nat} {x:Value},Go.Proofs.YtpopphdnlhihdaaGreatDoor.s0 w0 γ w (.ow A t) x→Rw w x A:=fun h=>by
  obtain⟨⟨m,_,ho⟩,_⟩:=h;exact FB ho
 have n2:=nx a2 a6
 have n3:=nx a3 a7
 have n4:=nx a4 a8
 have n5:=nx a5 a9
 refine⟨q3,q4,q7,q8,a.tmps.getD 5 undef,a.tmps.getD 6 undef,g1,g2,h1,h2,k1,k2,m1,m2,ui,uj,⟨S.sz,S.df,fun p hp=>?_⟩,⟨Y,U,T,Q,bx u3,bx u4,bx u7,bx u8,uu x1 n2,uu x2 n3,uu x3 n2,uu x4 n3,uu i1 n4,uu n1 n5,uu vi n4,uu vj n5⟩,⟨j z1,j z2,j z,j y,dS (z1.2.symm.trans z.2),dS (z2.2.symm.trans y.2),fun q hq P=>ne a1 (by rw[z.2,hq]) (by rw[y.2,P])⟩,fun q hq=>(O q hq).elim (fun e=>(S.W.kn _ _ e).1) fun e=>(S.W.kn _ _ e).1⟩
 simp only[dZ,og,or_false]at hp
 rcases hp with rfl|rfl|rfl|rfl|rfl|rfl|rfl
 ·exact S.env 1 _ e1
 ·exact f3
 ·exact f4
 ·rfl
 ·rfl
 ·exact f7
 ·exact f8
end
theorem law_B{w:World}{a:Act}{X:Nat→Prop}{y1 z0 z1 v e1:Value}{s0 s1:Bool}{Q:Ending→World→Prop}(G:TO w)(ls:LS 267 [(1,Pt b0)] a)(h:CS w X b0 x1 x2 y1 y2 z0 z1 z2 u v e1 e2 e3 lv e4 s0 s1 s3 s4 A0 D0 A1 D1 A3 A4 l)
 (y:A0.length≤1000000) (f:D0.length≤1000000) (m:A1.length≤1000000) (c:D1.length≤1000000) (j:A3.length≤1000000) (g:A4.length≤1000000)
 (kk:∀(A:Act) (w':World) (q3 q4 q7 q8:Nat) (vi vj g1 g2 h1 h2 k1 k2 m1 m2 ui uj:Value),LS 267 [(1,Pt b0),(3,Pt q3),(4,Pt q4),(5,vi),(6,vj),(7,Pt q7),(8,Pt q8)] A→Below w.heap.size w w'→LF w' (Xa h1 h2) q3 q4 q7 q8 vi vj g1 g2 h1 h2 k1 k2 m1 m2 ui uj s0 s1 s3 s4 A1 D1 A3 A4→OA w' g1 g2 h1 h2 A0 D0→(∀q,Xa h1 h2 q→w.heap.size≤q)→(qd 6 (qf Tryz.f3)).wp Tryz.prog (bodyPost Tryz.prog Tryz.f3 Q) A w'):(qd 3 (qf Tryz.f3)).wp Tryz.prog (bodyPost Tryz.prog Tryz.f3 Q) a w:=by
 have o:=Ro h
 have S:=ls.ps G
 (refine wp_seq (Oe 10 [.v _ _,.v _ _,.v _ _,.v _ _,.v _ _,.v _ _,.v _ _,.v _ _,.st (S.cn 6) _,.st (S.cn 7) _] [[(1,none)],[(26,some 0)],[(27,some 1)],[(1,none)],[(29,some 3)],[(30,some 4)],[],[],[(3,some 6),(28,some 2)],[(4,some 7),(31,some 5)]] rfl S aN kf kf ⟨d_ (off:=0) rfl kf,iG rfl o rfl,pc (LV y f),d_ (off:=3) rfl kf,iG rfl o rfl,pc (LV m c),JK (z:= .agg #[.bool false,.slice none 0 0,.slice none 0 0,.slice none 0 0,.slice none 0 0]) kf,JK (z:= .agg #[.bool false,.slice none 0 0,.slice none 0 0,.slice none 0 0,.slice none 0 0]) kf,psn,psn,trivial⟩ kf kf ?_);intro _ _ _ S)
 (refine wp_seq (Oe 10 [.v _ _,.v _ _,.v _ _,.v _ _,.v _ _,.v _ _,.v _ _,.v _ _,.v _ _,.v _ _] [[(1,none)],[(32,some 0)],[(33,some 1)],[(34,some 2)],[(1,none)],[(36,some 4)],[(37,some 5)],[(38,some 6)],[(35,some 3)],[(39,some 7)]] rfl S aN kf kf ⟨d_ (off:=9) rfl kf,d_ (off:=1) rfl kf,pI o rfl kf kf rfl,pc (f_room j),d_ (off:=11) rfl kf,d_ (off:=1) rfl kf,pI o rfl kf kf rfl,pc (f_room g),px,px,trivial⟩ kf kf ?_);intro _ _ _ S)
 (refine wp_seq (Oe 24 [.v _ _,.v _ _,.v _ _,.v _ _,.v _ _,.v _ _,.v _ _,.v _ _,.v _ _,.v _ _,.v _ _,.v _ _,.v _ _,.v _ _,.v _ _,.v _ _,.v _ _,.v _ _,.v _ _,.v _ _,.v _ _,.v _ _,.st (S.cn 20) _,.st (S.cn 21) _] [[(1,none)],[(40,some 0)],[(41,some 1)],[(5,none)],[(1,none)],[(44,some 4)],[(45,some 5)],[(46,some 6)],[(43,some 3),(47,some 7)],[(42,some 2),(48,some 8)],[(1,none)],[(50,some 10)],[(51,some 11)],[(6,none)],[(1,none)],[(54,some 14)],[(55,some 15)],[(56,some 16)],[(53,some 13),(57,some 17)],[(52,some 12),(58,some 18)],[],[],[(7,some 20),(49,some 9)],[(8,some 21),(59,some 19)]] rfl S aN kf kf ⟨d_ (off:=9) rfl kf,d_ (off:=0) rfl kf,pI o rfl kf kf rfl,px,d_ (off:=9) rfl kf,d_ (off:=1) rfl kf,pI o rfl kf kf rfl,D5 rfl rfl kf,LU rfl rfl kf,px,d_ (off:=11) rfl kf,d_ (off:=0) rfl kf,pI o rfl kf kf rfl,px,d_ (off:=11) rfl kf,d_ (off:=1) rfl kf,pI o rfl kf kf rfl,D5 rfl rfl kf,LU rfl rfl kf,px,px,px,psn,psn,trivial⟩ kf kf ?_);intro _ _ _ S)
 obtain⟨q3,q4,q7,q8,vi,vj,g1,g2,h1,h2,k1,k2,m1,m2,ui,uj,l1,F,E,C⟩:=law_Bk S rfl rfl rfl rfl rfl rfl rfl rfl rfl rfl rfl rfl
 exact kk _ _ q3 q4 q7 q8 vi vj g1 g2 h1 h2 k1 k2 m1 m2 ui uj l1 S.W.bel F E C
end
section
open Go Go.RowKit Go.Proofs Ab
def LW:=an @aQ<|an @fK<|an @aW<|an @aO<|an @aI<|an @fZ<|an @mJ<|an @dR<|an @iL<|an @wi<|an @lu<|an @gG @di
theorem roomy_fr(s:Bool)(a d:List Nat)(L:a.length≤1000000)(ld:d.length≤1000000):
 aT 6 [rL s a d] (.g [.b s,.l 1 (W a),.l 1 (W d),.l 1 (W (a++[71,72])),.l 1 (W (d++[71,72]))]):=by
 refine .of0 rfl fun w H vs Z Q C N=>?_
 obtain⟨y,u⟩:=N
 obtain⟨v0,rfl⟩:∃v0,vs=[v0]:=by
  match vs,y with
  |[v],_=>exact⟨v,rfl⟩
 obtain⟨xs,rfl,f⟩:=(Rep.up (ov:=fun _=>none) (u 0 v0 _ rfl rfl)).GR
 have P:Jw w:=TJ.mono Q (fun q hq=>C q hq) fun _ _=>rfl
 have c:∀{v:Value} {A:List Nat},Rep0 w H v (.l 1 (W A))→s0 w g0 w (.rd A) v:=fun h=>⟨H,fun q hq=>⟨C q hq,fun _ h=>by cases h⟩,h⟩
 have hl:l1 w g0 w [qD s a d] [.agg xs.toArray]:=by
  refine⟨⟨xs,rfl,?_⟩,trivial⟩;match xs,f.1 with
  |[I,x1,x2],_=>
   have e0:=(Rep.up (ov:=fun _=>none) (f.2 0 I _ rfl rfl)).qH;exact⟨e0,c (f.2 1 x1 _ rfl rfl),c (f.2 2 x2 _ rfl rfl),trivial⟩
 refine((LV L ld).fn w _ P hl).mono ?_
 rintro e w' ⟨κ,v,rfl,T,_,_,E,rfl,M⟩
 refine⟨_,rfl,T,fun q=>w.heap.size≤q∧q<w'.heap.size,fun q h=>h,.inl ?_⟩
 have ro:∀{x:Value} {A:List Nat} {t:Nat},s0 w (gO w κ) w' (.ow A t) x→Rep0 w' (fun q=>H q∨(w.heap.size≤q∧q<w'.heap.size)) x (.l 1 (W A)):=fun h=>by
  obtain⟨⟨m,O,z⟩,_⟩:=h;exact zi uf z (Lc _) O fun q hq=> .inr (z.lt q hq)
 match E,M with
 |[y0,y1,y2,G,F],⟨e0,h1,h2,Y,U,_⟩=>
  have e0:y0= .bool s:=e0;subst e0;refine .g [.bool s,y1,y2,G,F] _ rfl fun j v x g1 g2=>?_
  match j,g1,g2 with
  |0,g1,g2=>cases g1;cases g2;exact .b _
  |1,g1,g2=>cases g1;cases g2;exact ro h1
  |2,g1,g2=>cases g1;cases g2;exact ro h2
  |3,g1,g2=>cases g1;cases g2;exact ro Y
  |4,g1,g2=>cases g1;cases g2;exact ro U
def PC(l:List (Bool×List Nat×List Nat)):List V:=l.flatMap fun p=>[.b p.1,.l 1 (W p.2.1),.l 1 (W p.2.2),.l 1 (W (p.2.1++[71,72])),.l 1 (W (p.2.2++[71,72]))]
theorem PC_len(l:List (Bool×List Nat×List Nat)):(PC l).length=l.length*5:=by
 induction l with
 |nil=>rfl
 |cons p R a=>simp only[PC,sH,bZ,dX,dJ]at a ⊢;omega
theorem PC_row:∀(R:List (Bool×List Nat×List Nat)) (i:Nat),i<R.length→((PC R).drop (i*5)).take 5=[.b (R.getD i (false,[],[])).1,.l 1 (W (R.getD i (false,[],[])).2.1),.l 1 (W (R.getD i (false,[],[])).2.2),.l 1 (W ((R.getD i (false,[],[])).2.1++[71,72])),.l 1 (W ((R.getD i (false,[],[])).2.2++[71,72]))]
 |[],i,h=>by simp at h
 |p::r,0,h=>rfl
 |p::r,i+1,h=>by
  have:=PC_row r i (by simpa using h);rw[show(i+1)*5=((((i*5+1)+1)+1)+1)+1 from om];exact this
def caV(s0 s1 s3 s4:Bool)(A0 D0 A1 D1 A3 A4:List Nat)(l:List (Bool×List Nat×List Nat)):List V:=[.b s0,.l 1 (W A0),.l 1 (W D0),.b s1,.l 1 (W A1),.l 1 (W D1),.any,.any,.any,.b s3,.l 1 (W A3),.b s4,.l 1 (W A4),.any,.any,.any,.l 3 (RC l),.any]
noncomputable def a3:AC:=gc Tryz.prog Tryz.f3
def listK(l:List (Bool×List Nat×List Nat))(s:Ab.St):Prop:=∃i j,s.get 9= .ow 3 i l.length∧s.get 10= .ow 5 j l.length∧s.ob i=some ⟨27,3,RC l,true,false⟩∧s.ob j=some ⟨34,5,PC l,true,false⟩
theorem Ub{s:Ab.St}{t k:Nat}{cs:List V}{r:List (Nat×V)}:fR s ((t,.ip cs k)::r)=fR s r:=rfl
theorem VS(cs:List V)(l:List (Bool×List Nat×List Nat))(g:cs.getD 16 .un= .l 3 (RC l))(f:cs.length=18)(E:l.length≤30)(C:∀p,p∈l→p.2.1.length≤1000000∧p.2.2.length≤1000000):
 yY aT (mG Tryz.prog) ((mdr 6 a3).p1.seq ((mdr 7 a3).p1.seq (mdr 8 a3).p1)) (fun ex s=>ex= .normal∧listK l s) ⟨[(1,.ip cs 0)],[],0⟩:=by
 have c:=qh l
 have dl:l.length*3/3=l.length:=om
 apply gm
 unfold a3
 conv in AC.seq _ _=>reduce
 simp only[dw,eU,Int.reduceOfNat,Int.reduceNegSucc]
 refine aX (ai @f<|ai @g<|ai @dl<|ai @c @LW) ?_
 refine aF [(9,27,3),(10,34,5)] Nat (fun i=>⟨[(1,.ip cs 0),(9,.ow 3 0 i),(10,.ow 5 1 i),(11,.i .i64 (i:Int))],[(0,some ⟨27,3,RC (l.take i),true,false⟩),(1,some ⟨34,5,PC (l.take i),true,false⟩)],2⟩)
  (fun i=>i≤l.length) (fun i=>l.length-i) 0 (aG _) (by exact oL) (by
  simp(disch:=(first|omega|assumption)) only[Sl,Sa,Sw,↓reduceIte,Nat.reduceEqDiff,Nat.reduceLT,jH,iI,Nat.reduceBneDiff,Nat.reduceAdd,ku,ne_eq,reduceCtorEq,kP,mZ,jf,jP,bW,bY,and_self,Ub]
  repeat' first|rfl|omega|(simp only[bZ,dX,dJ];done)|apply And.intro) ?_
 intro i A G u m z
 have l0:=qh (l.take i)
 have y:=PC_len (l.take i)
 rw[jo,pR om]at l0 y
 by_cases h:(i:Int)<(l.length:Int)
 ·have row:=xA l i om;have j:=C _ (by rw[dN,bC om];exact uP _:l.getD i (false,[],[])∈l);have F:=roomy_fr (l.getD i (false,[],[])).1 (l.getD i (false,[],[])).2.1 (l.getD i (false,[],[])).2.2 j.1 j.2;have a:l.getD i (false,[],[])=l[i]:=by simp[dN,show i<l.length by omega]
  have h1:RC (l.take i)++[.b (l.getD i (false,[],[])).1,.l 1 (W (l.getD i (false,[],[])).2.1),.l 1 (W (l.getD i (false,[],[])).2.2)]=RC (l.take (i+1)):=by
   rw[y7 om,Qp,a];rfl
  have h2:PC (l.take i)++[.b (l.getD i (false,[],[])).1,.l 1 (W (l.getD i (false,[],[])).2.1),.l 1 (W (l.getD i (false,[],[])).2.2),.l 1 (W ((l.getD i (false,[],[])).2.1++[71,72])),.l 1 (W ((l.getD i (false,[],[])).2.2++[71,72]))]=PC (l.take (i+1)):=by
   rw[y7 om,PC,PC,List.flatMap_append,a];rfl
  clear a;generalize l.getD i (false,[],[])=x at*
  refine pJ (ai @h2<|ai @h1<|ai @f<|ai @g<|ai @row<|ai @dl<|ai @c<|ai @h @LW) ?_;refine u _ (i+1) om om ?_;simp(disch:=(first|omega|assumption)) only[Sl,Sa,Sw,↓reduceIte,Nat.reduceEqDiff,Nat.reduceLT,jH,iI,Nat.reduceBneDiff,Nat.reduceAdd,ku,ne_eq,reduceCtorEq,kP,mZ,jf,jP,bW,bY,and_self,Ub];repeat' first|rfl|omega|(simp only[bZ,dX,dJ];done)|apply And.intro
 obtain rfl:i=l.length:=om
 rw[iH]at*
 refine aX (ai @f<|ai @g<|ai @dl<|ai @c<|ai @h @LW) ?_
 refine m _ _ ?_
 clear m z u h A
 refine aX @LW ?_
 exact⟨trivial,_,_,rfl,rfl,rfl,rfl⟩
end
section
open Go Go.RowKit Go.Proofs Ab
variable{a:Act}{N b0:Nat}{x1 x2 y2 z2 u e2 e3 lv e4:Value}{s3 s4:Bool}{A0 D0 A1 D1 A3 A4:List Nat}{l:List (Bool×List Nat×List Nat)}
theorem JR{w:World}{L:List (Nat×V)}{X:Nat→Prop}(kl:List Nat)(hz:a.tmps.size=N)(hd:a.defers=[])(l:TJ w fun q=>q<w.heap.size∧¬X q)(henv:∀p,p∈L→Rep0 w (fun q=>q<w.heap.size∧¬X q) (a.tmps.getD p.1 undef) p.2):
 Conc w ⟨fun q=>q<w.heap.size∧¬X q,fun _=>False,kl.map fun t=>(t,a.tmps.getD t undef)⟩ w (fun q=>q<w.heap.size∧¬X q) (fun _=>none) N a ⟨L,[],0⟩:=
 ⟨⟨bT.refl _ _,l,fun _ h=>h.1,fun b h _=> .inl h,fun id o h=>(by cases h),fun i j y u vi vj q _ h=>(by cases h)⟩,hz,hd,fun m v f=>by
   obtain⟨t,_,g⟩:=eG.1 f;cases g;rfl,QR (fun t=>a.tmps.getD t undef) _ fun p c=> .base (henv p c),fun _ _=>rfl⟩
theorem CS.ip{w:World}{X:Nat→Prop}{y1 z0 z1 v e1:Value}{s0 s1:Bool}(h:CS w X b0 x1 x2 y1 y2 z0 z1 z2 u v e1 e2 e3 lv e4 s0 s1 s3 s4 A0 D0 A1 D1 A3 A4 l):Rep0 w (fun q=>q<w.heap.size∧¬X q) (Pt b0) (.ip (caV s0 s1 s3 s4 A0 D0 A1 D1 A3 A4 l) 0):=by
 have hl:b0<w.heap.size:=(pW.1 h.bx).1;refine .ip _ 0 (fun j=>[Value.bool s0,x1,x2,.bool s1,y1,y2,z0,z1,z2,.bool s3,u,.bool s4,v,e1,e2,e3,lv,e4].getD j undef) b0 0 ⟨hl,h.nx⟩ (fun j c=>?_) fun j x a=>?_
 ·have c:j<18:=c;rw[eY,cell_of_row w b0 j _ _ (0,0) h.bx];simp[c]
 ·match j,a with
  |0,a=>cases a;exact .b _
  |1,a=>cases a;exact h.r1
  |2,a=>cases a;exact h.r2
  |3,a=>cases a;exact .b _
  |4,a=>cases a;exact h.r3
  |5,a=>cases a;exact h.r4
  |6,a=>cases a;exact .any _
  |7,a=>cases a;exact .any _
  |8,a=>cases a;exact .any _
  |9,a=>cases a;exact .b _
  |10,a=>cases a;exact h.r5
  |11,a=>cases a;exact .b _
  |12,a=>cases a;exact h.r6
  |13,a=>cases a;exact .any _
  |14,a=>cases a;exact .any _
  |15,a=>cases a;exact .any _
  |16,a=>cases a;exact h.rl
  |17,a=>cases a;exact .any _
  |j+18,a=>simp[caV]at a
theorem conc_l{w w':World}{X H':Nat→Prop}{ks:List (Nat×Value)}{ov:Nat→Option Value}{s:Ab.St}(m:Conc w ⟨fun q=>q<w.heap.size∧¬X q,fun _=>False,ks⟩ w' H' ov N a s)(u:∀q,X q→q<w.heap.size){t i n e sz:Nat}{cs:List V}(f:0<sz)(g:s.get t= .ow sz i n)(y:s.ob i=some ⟨e,sz,cs,true,false⟩)(z:n≤maxLen):Rep0 w' (fun q=>q<w'.heap.size∧¬X q) (a.tmps.getD t undef) (.l sz cs):=by
 obtain⟨xs,h1,h2,_,A⟩:=DW m g y;refine zi f h1 ⟨h2.1,fun j v x e1 e2=>(h2.2 j v x e1 e2).mono (fun q hq=>⟨m.mem.Bo q hq,fun c=>?_⟩) fun _ _=>rfl⟩ z fun q hq=>⟨(h1.lt q hq).2,fun c=>?_⟩
 ·rcases(A q hq).2 with h|h
  ·have:=u q c;omega
  ·exact h
 ·rcases m.mem.low q hq (u q c)with h|h
  ·exact h.2 c
  ·exact h
def kC:List Nat:=[1,3,4,5,6,7,8]
theorem law_C{w:World}{X:Nat→Prop}{R:Exit→Act→World→Prop}{q3 q4 q7 q8:Nat}{vi vj y1 z0 z1 v e1:Value}{s0 s1:Bool}(ls:LS 267 [(1,Pt b0),(3,Pt q3),(4,Pt q4),(5,vi),(6,vj),(7,Pt q7),(8,Pt q8)] a)(P:TJ w fun q=>q<w.heap.size∧¬X q)(E:∀q,X q→q<w.heap.size)(h:CS w X b0 x1 x2 y1 y2 z0 z1 z2 u v e1 e2 e3 lv e4 s0 s1 s3 s4 A0 D0 A1 D1 A3 A4 l)(N:l.length≤30)(Q:∀p,p∈l→p.2.1.length≤1000000∧p.2.2.length≤1000000)
 (kk:∀(F:Act) (w':World) (vl vp:Value),LS 267 [(1,Pt b0),(3,Pt q3),(4,Pt q4),(5,vi),(6,vj),(7,Pt q7),(8,Pt q8),(9,vl),(10,vp)] F→Below w.heap.size w w'→Rep0 w' (fun q=>q<w'.heap.size∧¬X q) vl (.l 3 (RC l))→Rep0 w' (fun q=>q<w'.heap.size∧¬X q) vp (.l 5 (PC l))→(qd 9 (qf Tryz.f3)).wp Tryz.prog R F w'):(qd 6 (qf Tryz.f3)).wp Tryz.prog R a w:=by
 have mY:=JR (L:=[(1,.ip (caV s0 s1 s3 s4 A0 D0 A1 D1 A3 A4 l) 0)]) kC ls.sz ls.df P fun p g=>by
  rw[l_.1 g,ls.kp (1,_) (.head _)];exact h.ip
 have O:=VS (caV s0 s1 s3 s4 A0 D0 A1 D1 A3 A4 l) l rfl rfl N Q
 refine VY aN kf (Gx dc) mY O ?_
 intro a1 Y H1 J t1 y A
 refine VY aN kf (Gx dc) A y ?_
 intro a2 U H2 I t2 m z
 refine RD aN kf (Gx dc) z m ?_
 intro a3 G H3 H Z ⟨i,j,T,C,M,o2⟩ c
 have f:∀t,t∈kC→a3.tmps.getD t undef=a.tmps.getD t undef:=fun t ht=>c.kp t _ (eG.2 ⟨t,ht,rfl⟩)
 refine kk a3 G _ _ ⟨c.MJ,c.I7,fun p g=>?_⟩ (c.mem.bel.below fun _ h=>h) (conc_l c E dc T M (by unfold maxLen;omega)) (conc_l c E dc C o2 (by unfold maxLen;omega))
 simp only[dZ,og,or_false]at g
 rcases g with rfl|rfl|rfl|rfl|rfl|rfl|rfl|rfl|rfl
 ·exact(f 1 dc).trans (ls.kp (1,_) (.head _))
 ·exact(f 3 dc).trans (ls.kp (3,_) (.tail _ (.head _)))
 ·exact(f 4 dc).trans (ls.kp (4,_) (.tail _ (.tail _ (.head _))))
 ·exact(f 5 dc).trans (ls.kp (5,_) (dP (i:=3) rfl))
 ·exact(f 6 dc).trans (ls.kp (6,_) (dP (i:=4) rfl))
 ·exact(f 7 dc).trans (ls.kp (7,_) (dP (i:=5) rfl))
 ·exact(f 8 dc).trans (ls.kp (8,_) (dP (i:=6) rfl))
 ·rfl
 ·rfl
end
section
open Go Go.RowKit Go.Proofs Ab
structure AD(κ:Bool)(w0 w:World)(b:Nat)(vr vi vm:Value)(R:List TQ)(I:List TZ)(RK:List (Bool×List Nat×List Nat))(IK:List (Bool×List Nat))(M:List Int):Prop where
 sd:Sd w b vr vi vm R.length I.length M.length (OO R) (OQ I) (Mc M)
 lo:∀q,Sq b vr vi vm q→w0.heap.size≤q
 fm:Fm κ w0 w (Sq b vr vi vm) (rls R++Fz I)
 eR:R.map (fun p=>(p.1,p.2.1.2,p.2.2.2))=RK
 eI:I.map (fun p=>(p.1,p.2.2))=IK
theorem Fm.keep{κ:Bool}{w0 w w':World}{Z:Nat→Prop}{L:List (Value×List Nat)}(h:Fm κ w0 w Z L)(c:w.heap.size≤w'.heap.size)(hb:∀q,q<w.heap.size→w'.heap[q]? =w.heap[q]?):Fm κ w0 w' Z L:=by
 cases κ with
 |true=>exact⟨h.1.keep fun p q a hq=>hb q (h.1.lt a hq).2,h.2⟩
 |false=>
  intro p a;obtain⟨H,h1,h2⟩:=h p a;exact⟨H,fun q hq=>⟨by have:=(h1 q hq).1;omega,(h1 q hq).2⟩,h2.mono (fun _ h=>h) fun q hq=>hb q (h1 q hq).1⟩
section
variable {κ:Bool} {w0 w w':World} {b:Nat} {vr vi vm:Value} {R:List TQ} {I:List TZ} {RK:List (Bool×List Nat×List Nat)} {IK:List (Bool×List Nat)} {M:List Int}
theorem AD.below(h:AD κ w0 w b vr vi vm R I RK IK M)(hb:Below w.heap.size w w'):AD κ w0 w' b vr vi vm R I RK IK M:=⟨h.sd.below hb,h.lo,h.fm.keep hb.size hb.block,h.eR,h.eI⟩
theorem Fm.rep{Z:Nat→Prop}{L:List (Value×List Nat)}(h:Fm κ w0 w Z L){p:Value×List Nat}(a:p∈L):Rep0 w (fun q=>q<w.heap.size) p.1 (.l 1 (W p.2)):=by
 cases κ with
 |true=>
  obtain⟨m,f,c⟩:=h.1.own p a;exact Ld c f
 |false=>
  obtain⟨H,h1,h2⟩:=h p a;exact h2.mono (fun q hq=>(h1 q hq).1) fun _ _=>rfl
theorem rcs_rep(h:∀p,p∈rls R→Rep0 w (fun q=>q<w.heap.size) p.1 (.l 1 (W p.2))):aB w (fun q=>q<w.heap.size) (OO R) (RC (R.map fun p=>(p.1,p.2.1.2,p.2.2.2))):=by
 induction R with
 |nil=>exact⟨rfl,fun j v x h1=>by simp[OO]at h1⟩
 |cons p R a=>
  obtain⟨f,c⟩:=a fun q hq=>h q (by simp only[rls,sH,nC]at hq ⊢;exact .inr hq)
  have r1:=h p.2.1 (by simp[rls]);have r2:=h p.2.2 (by simp[rls]);refine⟨?_,fun j v x h1 h2=>?_⟩
  ·simp only[OO,sH,dI,RC,bZ,dX,dJ]at f ⊢;omega
  ·simp only[OO,sH,tZ,uQ,dI,RC]at h1 h2;match j,h1,h2 with
   |0,h1,h2=>cases h1;cases h2;exact .b _
   |1,h1,h2=>cases h1;cases h2;exact r1
   |2,h1,h2=>cases h1;cases h2;exact r2
   |j+3,h1,h2=>exact c j v x (by simpa[OO]using h1) (by simpa using h2)
theorem ics_rep(h:∀p,p∈Fz I→Rep0 w (fun q=>q<w.heap.size) p.1 (.l 1 (W p.2))):aB w (fun q=>q<w.heap.size) (OQ I) (IC (I.map fun p=>(p.1,p.2.2))):=by
 induction I with
 |nil=>exact⟨rfl,fun j v x h1=>by simp[OQ]at h1⟩
 |cons p R a=>
  obtain⟨f,c⟩:=a fun q hq=>h q (by simp only[Fz,dI,dZ]at hq ⊢;exact .inr hq)
  have r1:=h p.2 (by simp[Fz]);refine⟨?_,fun j v x h1 h2=>?_⟩
  ·simp only[OQ,sH,dI,IC,bZ,dX,dJ]at f ⊢;omega
  ·simp only[OQ,sH,tZ,uQ,dI,IC]at h1 h2;match j,h1,h2 with
   |0,h1,h2=>cases h1;cases h2;exact .b _
   |1,h1,h2=>cases h1;cases h2;exact r1
   |j+2,h1,h2=>exact c j v x (by simpa[OQ]using h1) (by simpa using h2)
theorem mcs_rep:aB w (fun q=>q<w.heap.size) (Mc M) (MC M):=by
 refine⟨by simp[Mc,MC],fun j v x h1 h2=>?_⟩;simp only[Mc,MC,iU,jT]at h1 h2;obtain⟨n,c,rfl⟩:=h1;obtain⟨m,a,rfl⟩:=h2;rw[c]at a;cases a;exact .i _ _
theorem AD.rep(h:AD κ w0 w b vr vi vm R I RK IK M)(c:RK.length≤1000)(m:IK.length≤1000)(f:M.length≤1000):Rep0 w (fun q=>q<w.heap.size) (.agg #[vr,vi,vm]) (SV RK IK M):=by
 have e1:R.length=RK.length:=by rw[←h.eR,iJ]
 have e2:I.length=IK.length:=by rw[←h.eI,iJ]
 have r1:=rcs_rep (R:=R) fun p a=>h.fm.rep (uC _ a)
 have r2:=ics_rep (I:=I) fun p a=>h.fm.rep (yI _ a)
 rw[h.eR]at r1;rw[h.eI]at r2;have q1:Rep0 w (fun q=>q<w.heap.size) vr (.l 3 (RC RK)):=zi dc h.sd.rr r1 (by unfold maxLen;omega) fun q hq=>(h.sd.rr.lt q hq).2
 have q2:Rep0 w (fun q=>q<w.heap.size) vi (.l 2 (IC IK)):=zi dc h.sd.ri r2 (by unfold maxLen;omega) fun q hq=>(h.sd.ri.lt q hq).2
 have q3:Rep0 w (fun q=>q<w.heap.size) vm (.l 1 (MC M)):=zi dc h.sd.rm mcs_rep (by unfold maxLen;omega) fun q hq=>(h.sd.rm.lt q hq).2
 exact .g [vr,vi,vm] _ rfl fun j v x g1 g2=>by
  match j,g1,g2 with
  |0,g1,g2=>cases g1;cases g2;exact q1
  |1,g1,g2=>cases g1;cases g2;exact q2
  |2,g1,g2=>cases g1;cases g2;exact q3
end
section
variable {w0 w:World} {γ:Gh} {N c:Nat} {E:En} {Bx:Bs} {a:Act}
variable{t:Nat}
theorem PS.tell(S:PS w0 N c E Bx γ a w){d:Δ}(h:s2 w0 γ w d (a.tmps.getD t undef)):PS w0 N c ((t,d)::E) Bx γ a w:=
 ⟨S.W,S.sz,S.df,fun u d1 f=>by
   rcases dK f with ⟨rfl,rfl⟩|⟨_,f⟩
   ·exact h
   ·exact S.env u d1 f,S.box⟩
theorem PS.agg(S:PS w0 N c E Bx γ a w){L:List Value}(h:lk E t=some (.g (L.map Δ.k))):a.tmps.getD t undef= .agg L.toArray:=by
 obtain⟨xs,ex,hl⟩:=S.env t _ h;rw[ex,kl hl]
theorem lk_kE:∀{K:List (Nat×Value)} {p:Nat×Value},p∈K→∃y,(p.1,y)∈K∧lk (kE K) p.1=some (.k y)
 |q::r,p,a=>by
  by_cases e:q.1=p.1
  ·refine⟨q.2,by rw[←e];exact jM,?_⟩;show lk ((q.1,Δ.k q.2)::kE r) p.1=_;unfold lk;rw[e,Nat.beq_refl];rfl
  ·rcases dZ.1 a with rfl|a
   ·exact absurd rfl e
   ·obtain⟨y,h1,h2⟩:=lk_kE a;refine⟨y,jD _ h1,?_⟩;show lk ((q.1,Δ.k q.2)::kE r) p.1=_;unfold lk;rw[wM e];exact h2
theorem Ai{ops:Array Oper}{Q:Exit→Act→World→Prop}{κ:Bool}{f:FuncId}{s3 s4:Nat}{args:Array Operand}{A7:Array TypeId}{ta tb tc:TypeId}{pa pb C:String}{ea eb ec:Array Edge}{vs:List Value}{K:List (Nat×Value)}{RK:List (Bool×List Nat×List Nat)}{IK:List (Bool×List Nat)}{M:List Int}(S:PS w0 N c E Bx γ a w)(hj:TO w0)(hK:kpE E s3 K)(Z:kpE E s4 K)(G:Nat.blt s3 N=true)(F:Nat.blt s4 N=true)(A:Nat.beq s3 s4=false)(hf:Jb Tryz.prog f=true)(ha:args.toList.map a.eval=vs)(hc:Calls Tryz.prog f vs.toArray w (AR κ w RK IK M))
 (next:∀(a':Act) (w':World) (q b:Nat) (vr vi vm:Value) (R:List TQ) (I:List TZ),LS N ((s4,Pt q)::K) a'→Below w.heap.size w w'→w'.heap[q]? =some (.cells #[vr,vi,vm] 41 (0,0))→w.heap.size≤q→AD κ w w' b vr vi vm R I RK IK M→Q .normal a' w'):wpList Tryz.prog ops Q [⟨some s3,.call ⟨.value (.func f),args,A7⟩,ta,pa,ea,none⟩,⟨some s4,.alloc 41,tb,pb,eb,none⟩,⟨none,.store 41 (.tmp s4) (.tmp s3),tc,C,ec,none⟩] a w:=by
 have ls:LS N K a:=⟨S.sz,S.df,fun p l=>S.env p.1 _ (Ba hK p l).1⟩
 refine T_ hf ha hc (fun e w' h=>?_) fun v w1 hr=>?_
 ·obtain⟨_,vr,vi,vm,_,_,h,_⟩:=h;exact⟨_,h⟩
 obtain⟨b,vr,vi,vm,R,I,hv,hB,m,P,Y,eR,eI⟩:=hr
 cases hv
 have u:=ls.put (s:=s3) (v:= .agg #[vr,vi,vm]) G fun p l=>(Ba hK p l).2
 have U:TO w1:=(hj.up S.W.bel).up hB
 have T:=(u.ps U).tell (t:=s3) (d:= .g [.k vr,.k vi,.k vm]) (by rw[u.kp (s3,_) (.head _)];exact⟨[vr,vi,vm],rfl,rfl,rfl,rfl,trivial⟩)
 refine aj (k:=s4) T ZZ ?_ rfl rfl F
 intro γ2 a2 w2 T
 have l4:lk ((s4,Δ.p 0 0)::(s3,Δ.g [.k vr,.k vi,.k vm])::kE ((s3,Value.agg #[vr,vi,vm])::K)) s3=some (.g [.k vr,.k vi,.k vm]):=by
  unfold lk;rw[wM (fun e=>by rw[e,Nat.beq_refl]at A;cases A)];unfold lk;rw[Nat.beq_refl];rfl
 have l5:lk ((s4,Δ.p 0 0)::(s3,Δ.g [.k vr,.k vi,.k vm])::kE ((s3,Value.agg #[vr,vi,vm])::K)) s4=some (.p 0 0):=by
  unfold lk;rw[Nat.beq_refl];rfl
 obtain⟨_,_,O⟩:=iE m.rr
 obtain⟨_,_,J⟩:=iE m.ri
 obtain⟨_,_,H⟩:=iE m.rm
 refine Tz T l5 rfl l4 kf rfl (by rw[O,J,H];rfl) rfl ?_
 intro a3 w3 T
 refine h_ ?_
 obtain⟨q,hβ,e1,hq,hlo'⟩:=T.bk (t:=s4) (j:=0) (L:=[vr,vi,vm]) l5 rfl
 have z:=T.W.bel
 have hs1:=hB.size
 refine next a3 w3 q b vr vi vm R I ⟨T.sz,T.df,fun p l=>?_⟩ (dB hB z) hq om ((⟨m,P,Y,eR,eI⟩:AD κ w w1 b vr vi vm R I RK IK M).below z)
 rcases dZ.1 l with rfl|l
 ·exact e1
 ·have h1:=(Ba hK p l).2;have h2:=(Ba Z p l).2;obtain⟨y,hy,h0⟩:=lk_kE l;have h3:lk ((s4,Δ.p 0 0)::(s3,Δ.g [.k vr,.k vi,.k vm])::kE ((s3,Value.agg #[vr,vi,vm])::K)) p.1=some (.k y):=by
   unfold lk;rw[wM (Ne.symm h2)];unfold lk;rw[wM (Ne.symm h1)];show lk ((s3,Δ.k (Value.agg #[vr,vi,vm]))::kE K) p.1=_;unfold lk;rw[wM (Ne.symm h1)];exact h0
  have h4:a3.tmps.getD p.1 undef=y:=T.env p.1 _ h3;exact h4.trans ((ls.kp (p.1,y) hy).symm.trans (ls.kp p l))
end
end
section
open Go Go.RowKit Go.Proofs Ab
variable{vi x vj vl vp g1 g2 h1 h2 m1 m2 ui uj:Value}{RK l:List (Bool×List Nat×List Nat)}{IK:List (Bool×List Nat)}{M:List Int}{A0 D0 A1 D1 A3 A4:List Nat}{w':World}{a:Act}{Rp:Exit→Act→World→Prop}{b0 q3 q4 q7 q8 q13 Jf:Nat}{s3 s4:Bool}
theorem AD.base{κ:Bool}{w0 a w:World}{b:Nat}{vr vm:Value}{R:List TQ}{I:List TZ}(h:AD κ a w b vr vi vm R I RK IK M)(c:w0.heap.size≤a.heap.size):AD κ w0 w b vr vi vm R I RK IK M:=by
 refine⟨h.sd,fun q hq=>bK c (h.lo q hq),?_,h.eR,h.eI⟩;have:=h.fm;cases κ with
 |true=>exact⟨this.1.base c,this.2⟩
 |false=>exact this
structure BT(s0 s1 s3 s4:Bool)(A0 D0 A1 D1 A3 A4:List Nat)(l:List (Bool×List Nat×List Nat))(RK:List (Bool×List Nat×List Nat))(IK:List (Bool×List Nat))(M:List Int):Prop where
 lR:RK.length=12
 lI:IK.length=2
 lM:M.length=26
 bR:∀p,p∈RK→p.2.1.length≤1000000∧p.2.2.length≤1000000
 bI:∀p,p∈IK→p.2.length≤1000000
 ask:∀(w:World) (x1 x2 y1 y2 u v lv:Value),TO w→Rep0 w (fun q=>q<w.heap.size) x1 (.l 1 (W A0))→Rep0 w (fun q=>q<w.heap.size) x2 (.l 1 (W D0))→Rep0 w (fun q=>q<w.heap.size) y1 (.l 1 (W A1))→Rep0 w (fun q=>q<w.heap.size) y2 (.l 1 (W D1))→Rep0 w (fun q=>q<w.heap.size) u (.l 1 (W A3))→Rep0 w (fun q=>q<w.heap.size) v (.l 1 (W A4))→Rep0 w (fun q=>q<w.heap.size) lv (.l 3 (RC l))→Calls Tryz.prog 9 #[.agg #[.bool s0,x1,x2],.agg #[.bool s1,y1,y2],.agg #[.bool s3,u],.agg #[.bool s4,v],lv] w (AR true w RK IK M)
 wan:∀(w:World) (x1 x2 y1 y2 u v lv:Value),TO w→Rep0 w (fun q=>q<w.heap.size) x1 (.l 1 (W A0))→Rep0 w (fun q=>q<w.heap.size) x2 (.l 1 (W D0))→Rep0 w (fun q=>q<w.heap.size) y1 (.l 1 (W A1))→Rep0 w (fun q=>q<w.heap.size) y2 (.l 1 (W D1))→Rep0 w (fun q=>q<w.heap.size) u (.l 1 (W A3))→Rep0 w (fun q=>q<w.heap.size) v (.l 1 (W A4))→Rep0 w (fun q=>q<w.heap.size) lv (.l 3 (RC l))→Calls Tryz.prog 8 #[.agg #[.bool s0,x1,x2],.agg #[.bool s1,y1,y2],.agg #[.bool s3,u],.agg #[.bool s4,v],lv] w (AR false w RK IK M)
theorem bt_ex(s0 s1 s3 s4:Bool)(m:Wd A0)(c:Wd D0)(j:Wd A1)(a:Wd D1)(g:Wd A3)(f:Wd A4)(F:A0.length≤12)(z:D0.length≤12)(E:A1.length≤12)(y:D1.length≤12)(C:A3.length≤12)(A:A4.length≤12)(H:l.length≤30)(I:LOk l):∃RK IK M,BT s0 s1 s3 s4 A0 D0 A1 D1 A3 A4 l RK IK M:=by
 obtain⟨RK,IK,M,h1,h2,P,O,N,L,J⟩:=both s0 s1 s3 s4 m c j a g f F z E y C A H I;exact⟨RK,IK,M,h1,h2,P,O,N,fun w x1 x2 y1 y2 u v lv G=>L w _ x1 x2 y1 y2 u v lv G fun _ h=>h,fun w x1 x2 y1 y2 u v lv G=>J w _ x1 x2 y1 y2 u v lv G fun _ h=>h⟩
theorem uJ{w:World}{X:Nat→Prop}{V:V}(hb:Below w.heap.size w w')(h:Rep0 w (fun q=>q<w.heap.size∧¬X q) x V):Rep0 w' (fun q=>q<w'.heap.size) x V:=h.mono (fun q hq=>eu hq.1 hb.size) fun q hq=>hb.block q hq.1
theorem rO{w:World}{V:V}(hb:Below w.heap.size w w')(h:Rep0 w (fun q=>q<w.heap.size) x V):Rep0 w' (fun q=>q<w'.heap.size) x V:=h.mono (fun q hq=>eu hq hb.size) fun q hq=>hb.block q hq
theorem st_14{w:World}{X:Nat→Prop}{x1 x2 y1 y2 z0 z1 z2 u v e1 e2 e3 lv e4:Value}{s0 s1:Bool}{g1 g2 h1 h2 k1 k2 m1 m2 ui uj:Value}(j:TO w)(ls:LS 267 [(1,Pt b0),(3,Pt q3),(4,Pt q4),(5,vi),(6,vj),(7,Pt q7),(8,Pt q8),(9,vl),(10,vp)] a)(f:CS w X b0 x1 x2 y1 y2 z0 z1 z2 u v e1 e2 e3 lv e4 s0 s1 s3 s4 A0 D0 A1 D1 A3 A4 l)(hb:BT s0 s1 s3 s4 A0 D0 A1 D1 A3 A4 l RK IK M)
 (next:∀(g:Act) (w':World) (q b:Nat) (vr c vm:Value) (R:List TQ) (I:List TZ),LS 267 [(13,Pt q),(1,Pt b0),(3,Pt q3),(4,Pt q4),(5,vi),(6,vj),(7,Pt q7),(8,Pt q8),(9,vl),(10,vp)] g→Below w.heap.size w w'→w'.heap[q]? =some (.cells #[vr,c,vm] 41 (0,0))→w.heap.size≤q→AD false w w' b vr c vm R I RK IK M→(qd 10 (qf Tryz.f3)).wp Tryz.prog Rp g w'):(qd 9 (qf Tryz.f3)).wp Tryz.prog Rp a w:=by
 have S:=ls.ps j
 have o:=nJ (L:=[Value.bool s0,x1,x2,.bool s1,y1,y2,z0,z1,z2,.bool s3,u,.bool s4,v,e1,e2,e3,lv,e4]) f.bx
 refine ET ?_
 refine aj S (d_ (off:=0) rfl kf) fun _ _ _ S=>?_
 refine aj S (iG rfl o rfl) fun _ _ _ S=>?_
 refine aj S (d_ (off:=3) rfl kf) fun _ _ _ S=>?_
 refine aj S (iG rfl o rfl) fun _ _ _ S=>?_
 refine aj S (d_ (off:=9) rfl kf) fun _ _ _ S=>?_
 refine aj S (Bz rfl o rfl) fun _ _ _ S=>?_
 refine aj S (d_ (off:=11) rfl kf) fun _ _ _ S=>?_
 refine aj S (Bz rfl o rfl) fun _ _ _ S=>?_
 refine aj S (d_ (off:=16) rfl kf) fun _ _ _ S=>?_
 refine aj S (pI o rfl kf kf rfl) fun _ _ _ S=>?_
 have el:_=lv:=S.env 91 (.k lv) rfl
 refine Ai (K:=[(1,Pt b0),(3,Pt q3),(4,Pt q4),(5,vi),(6,vj),(7,Pt q7),(8,Pt q8),(9,vl),(10,vp)]) S j tv tv rfl rfl rfl kf (by simp only[dI,fJ,bU,S.agg (t:=83) (L:=[.bool s0,x1,x2]) rfl,S.agg (t:=85) (L:=[.bool s1,y1,y2]) rfl,S.agg (t:=87) (L:=[.bool s3,u]) rfl,S.agg (t:=89) (L:=[.bool s4,v]) rfl,el]) (hb.wan _ _ _ _ _ _ _ _ (j.up S.W.bel) (uJ S.W.bel f.r1) (uJ S.W.bel f.r2) (uJ S.W.bel f.r3) (uJ S.W.bel f.r4) (uJ S.W.bel f.r5) (uJ S.W.bel f.r6) (uJ S.W.bel f.rl)) ?_
 intro g w' q b vr c vm R I h1 h2 A C z
 have m:=S.W.bel
 have y:=m.size
 exact next g w' q b vr c vm R I h1 (dB m h2) A om (z.base y)
theorem st_15{w:World}{X:Nat→Prop}{x1 x2 y1 y2 z0 z1 z2 u v e1 e2 e3 lv e4:Value}{s0 s1:Bool}{k1 k2:Value}(j:TO w)(ls:LS 267 [(13,Pt q13),(1,Pt b0),(3,Pt q3),(4,Pt q4),(5,vi),(6,vj),(7,Pt q7),(8,Pt q8),(9,vl),(10,vp)] a)(f:LF w X q3 q4 q7 q8 vi vj g1 g2 h1 h2 k1 k2 m1 m2 ui uj s0 s1 s3 s4 A1 D1 A3 A4)(m:OA w g1 g2 h1 h2 A0 D0)(hl:Rep0 w (fun q=>q<w.heap.size∧¬X q) vl (.l 3 (RC l)))(hb:BT s0 s1 s3 s4 A0 D0 A1 D1 A3 A4 l RK IK M)
 (next:∀(g:Act) (w':World) (q b:Nat) (vr c vm:Value) (R:List TQ) (I:List TZ),LS 267 [(14,Pt q),(13,Pt q13),(1,Pt b0),(3,Pt q3),(4,Pt q4),(5,vi),(6,vj),(7,Pt q7),(8,Pt q8),(9,vl),(10,vp)] g→Below w.heap.size w w'→w'.heap[q]? =some (.cells #[vr,c,vm] 41 (0,0))→w.heap.size≤q→AD true w w' b vr c vm R I RK IK M→(qd 11 (qf Tryz.f3)).wp Tryz.prog Rp g w'):(qd 10 (qf Tryz.f3)).wp Tryz.prog Rp a w:=by
 have S:=ls.ps j
 have o3:=nJ (L:=[Value.bool s0,g1,g2,h1,h2]) f.b3
 have C:=nJ (L:=[Value.bool s1,k1,k2,m1,m2]) f.b4
 have A:=nJ (L:=[Value.bool s3,ui]) f.b7
 have z:=nJ (L:=[Value.bool s4,uj]) f.b8
 refine ET ?_
 refine aj S (d_ (off:=0) rfl kf) fun _ _ _ S=>?_
 refine aj S (iG rfl o3 rfl) fun _ _ _ S=>?_
 refine aj S (d_ (off:=0) rfl kf) fun _ _ _ S=>?_
 refine aj S (iG rfl C rfl) fun _ _ _ S=>?_
 refine aj S (Bz rfl A rfl) fun _ _ _ S=>?_
 refine aj S (Bz rfl z rfl) fun _ _ _ S=>?_
 refine aj S (nV rfl) fun _ _ _ S=>?_
 have el:_=vl:=S.env 99 (.k vl) rfl
 refine Ai (K:=[(13,Pt q13),(1,Pt b0),(3,Pt q3),(4,Pt q4),(5,vi),(6,vj),(7,Pt q7),(8,Pt q8),(9,vl),(10,vp)]) S j tv tv rfl rfl rfl kf (by simp only[dI,fJ,bU,S.agg (t:=94) (L:=[.bool s0,g1,g2]) rfl,S.agg (t:=96) (L:=[.bool s1,k1,k2]) rfl,S.agg (t:=97) (L:=[.bool s3,ui]) rfl,S.agg (t:=98) (L:=[.bool s4,uj]) rfl,el]) (hb.ask _ _ _ _ _ _ _ _ (j.up S.W.bel) (rO S.W.bel (kM m.rg1)) (rO S.W.bel (kM m.rg2)) (uJ S.W.bel f.rk1) (uJ S.W.bel f.rk2) (uJ S.W.bel f.rui) (uJ S.W.bel f.ruj) (uJ S.W.bel hl)) ?_
 intro g w' q b vr c vm R I h1 h2 G H F
 have y:=S.W.bel
 have E:=y.size
 exact next g w' q b vr c vm R I h1 (dB y h2) G om (F.base E)
theorem st_16{w:World}{X:Nat→Prop}{x1 x2 y1 y2 z0 z1 z2 u v e1 e2 e3 lv e4:Value}{s0 s1:Bool}{k1 k2:Value}(j:TO w)(ls:LS 267 [(14,Pt Jf),(13,Pt q13),(1,Pt b0),(3,Pt q3),(4,Pt q4),(5,vi),(6,vj),(7,Pt q7),(8,Pt q8),(9,vl),(10,vp)] a)(f:LF w X q3 q4 q7 q8 vi vj g1 g2 h1 h2 k1 k2 m1 m2 ui uj s0 s1 s3 s4 A1 D1 A3 A4)(m:OA w g1 g2 h1 h2 A0 D0)(hl:Rep0 w (fun q=>q<w.heap.size∧¬X q) vl (.l 3 (RC l)))(hb:BT s1 s0 s4 s3 A1 D1 A0 D0 A4 A3 l RK IK M)
 (next:∀(g:Act) (w':World) (q b:Nat) (vr c vm:Value) (R:List TQ) (I:List TZ),LS 267 [(15,Pt q),(14,Pt Jf),(13,Pt q13),(1,Pt b0),(3,Pt q3),(4,Pt q4),(5,vi),(6,vj),(7,Pt q7),(8,Pt q8),(9,vl),(10,vp)] g→Below w.heap.size w w'→w'.heap[q]? =some (.cells #[vr,c,vm] 41 (0,0))→w.heap.size≤q→AD true w w' b vr c vm R I RK IK M→(qd 12 (qf Tryz.f3)).wp Tryz.prog Rp g w'):(qd 11 (qf Tryz.f3)).wp Tryz.prog Rp a w:=by
 have S:=ls.ps j
 have o3:=nJ (L:=[Value.bool s0,g1,g2,h1,h2]) f.b3
 have C:=nJ (L:=[Value.bool s1,k1,k2,m1,m2]) f.b4
 have A:=nJ (L:=[Value.bool s3,ui]) f.b7
 have z:=nJ (L:=[Value.bool s4,uj]) f.b8
 refine ET ?_
 refine aj S (d_ (off:=0) rfl kf) fun _ _ _ S=>?_
 refine aj S (iG rfl C rfl) fun _ _ _ S=>?_
 refine aj S (d_ (off:=0) rfl kf) fun _ _ _ S=>?_
 refine aj S (iG rfl o3 rfl) fun _ _ _ S=>?_
 refine aj S (Bz rfl z rfl) fun _ _ _ S=>?_
 refine aj S (Bz rfl A rfl) fun _ _ _ S=>?_
 refine aj S (nV rfl) fun _ _ _ S=>?_
 have el:_=vl:=S.env 107 (.k vl) rfl
 refine Ai (K:=[(14,Pt Jf),(13,Pt q13),(1,Pt b0),(3,Pt q3),(4,Pt q4),(5,vi),(6,vj),(7,Pt q7),(8,Pt q8),(9,vl),(10,vp)]) S j tv tv rfl rfl rfl kf (by simp only[dI,fJ,bU,S.agg (t:=102) (L:=[.bool s1,k1,k2]) rfl,S.agg (t:=104) (L:=[.bool s0,g1,g2]) rfl,S.agg (t:=105) (L:=[.bool s4,uj]) rfl,S.agg (t:=106) (L:=[.bool s3,ui]) rfl,el]) (hb.ask _ _ _ _ _ _ _ _ (j.up S.W.bel) (uJ S.W.bel f.rk1) (uJ S.W.bel f.rk2) (rO S.W.bel (kM m.rg1)) (rO S.W.bel (kM m.rg2)) (uJ S.W.bel f.ruj) (uJ S.W.bel f.rui) (uJ S.W.bel hl)) ?_
 intro g w' q b vr c vm R I h1 h2 G H F
 have y:=S.W.bel
 have E:=y.size
 exact next g w' q b vr c vm R I h1 (dB y h2) G om (F.base E)
theorem st_17{w:World}{X:Nat→Prop}{x1 x2 y1 y2 z0 z1 z2 u v e1 e2 e3 lv e4:Value}{s0 s1:Bool}{k1 k2:Value}{g:Nat}(m:TO w)(ls:LS 267 [(15,Pt g),(14,Pt Jf),(13,Pt q13),(1,Pt b0),(3,Pt q3),(4,Pt q4),(5,vi),(6,vj),(7,Pt q7),(8,Pt q8),(9,vl),(10,vp)] a)(f:LF w X q3 q4 q7 q8 vi vj g1 g2 h1 h2 k1 k2 m1 m2 ui uj s0 s1 s3 s4 A1 D1 A3 A4)(y:OA w g1 g2 h1 h2 A0 D0)(hl:Rep0 w (fun q=>q<w.heap.size∧¬X q) vl (.l 3 (RC l)))(hb:BT s0 s1 s3 s4 A0 D0 A1 D1 A3 A4 l RK IK M)
 (next:∀(j:Act) (w':World) (q b:Nat) (vr c vm:Value) (R:List TQ) (I:List TZ),LS 267 [(16,Pt q),(15,Pt g),(14,Pt Jf),(13,Pt q13),(1,Pt b0),(3,Pt q3),(4,Pt q4),(5,vi),(6,vj),(7,Pt q7),(8,Pt q8),(9,vl),(10,vp)] j→Below w.heap.size w w'→w'.heap[q]? =some (.cells #[vr,c,vm] 41 (0,0))→w.heap.size≤q→AD true w w' b vr c vm R I RK IK M→(qd 13 (qf Tryz.f3)).wp Tryz.prog Rp j w'):(qd 12 (qf Tryz.f3)).wp Tryz.prog Rp a w:=by
 have S:=ls.ps m
 have o3:=nJ (L:=[Value.bool s0,g1,g2,h1,h2]) f.b3
 have E:=nJ (L:=[Value.bool s1,k1,k2,m1,m2]) f.b4
 have C:=nJ (L:=[Value.bool s3,ui]) f.b7
 have A:=nJ (L:=[Value.bool s4,uj]) f.b8
 refine ET ?_
 refine aj S (d_ (off:=0) rfl kf) fun _ _ _ S=>?_
 refine aj S (iG rfl o3 rfl) fun _ _ _ S=>?_
 refine aj S (d_ (off:=0) rfl kf) fun _ _ _ S=>?_
 refine aj S (iG rfl E rfl) fun _ _ _ S=>?_
 refine aj S (Bz rfl C rfl) fun _ _ _ S=>?_
 refine aj S (Bz rfl A rfl) fun _ _ _ S=>?_
 refine aj S (nV rfl) fun _ _ _ S=>?_
 have el:_=vl:=S.env 115 (.k vl) rfl
 refine Ai (K:=[(15,Pt g),(14,Pt Jf),(13,Pt q13),(1,Pt b0),(3,Pt q3),(4,Pt q4),(5,vi),(6,vj),(7,Pt q7),(8,Pt q8),(9,vl),(10,vp)]) S m tv tv rfl rfl rfl kf (by simp only[dI,fJ,bU,S.agg (t:=110) (L:=[.bool s0,g1,g2]) rfl,S.agg (t:=112) (L:=[.bool s1,k1,k2]) rfl,S.agg (t:=113) (L:=[.bool s3,ui]) rfl,S.agg (t:=114) (L:=[.bool s4,uj]) rfl,el]) (hb.ask _ _ _ _ _ _ _ _ (m.up S.W.bel) (rO S.W.bel (kM y.rg1)) (rO S.W.bel (kM y.rg2)) (uJ S.W.bel f.rk1) (uJ S.W.bel f.rk2) (uJ S.W.bel f.rui) (uJ S.W.bel f.ruj) (uJ S.W.bel hl)) ?_
 intro j w' q b vr c vm R I h1 h2 H J G
 have z:=S.W.bel
 have F:=z.size
 exact next j w' q b vr c vm R I h1 (dB z h2) H om (G.base F)
end
section
open Go Go.RowKit Go.Proofs Ab
inductive Dn where
 |k (v:Value)
 |r (V:V)
 |u
def Gz(w:World):Dn→Value→Prop
 | .k v,x=>x=v
 | .r V,x=>Rep0 w (fun q=>q<w.heap.size) x V
 | .u,_=>True
def Dn.isK:Dn→Bool
 | .k _=>true
 | .r _=>false
 | .u=>true
theorem Gz.up{w w':World}{d:Dn}{x:Value}(h:Gz w d x)(hb:d.isK=true∨Below w.heap.size w w'):Gz w' d x:=by
 cases d with
 |k v=>exact h
 |r V=>exact rO (hb.resolve_left (by intro h;cases h)) h
 |u=>trivial
abbrev Nn:=List (Nat×Dn)
structure OkN(P:Program)(N:Nat)(o:Oper)(R:Nat→Option Dn)(B:Bool)(T T':Act→World→Prop)(d:Dn):Prop where
 ok:∀(Q:Exit→Act→World→Prop) (a:Act) (w:World) (K:Act→World→Prop),a.tmps.size=N→(∀t d,R t=some d→Gz w d (a.tmps.getD t undef))→T a w→(∀v w',(B=true→Below w.heap.size w w')→Gz w' d v→T' (a.put o.dst v) w'→K (a.put o.dst v) w')→o.wp P a w K Q
def Rq(E:Nn)(Ds:List Dn)(r:Rl)(t:Nat):Option Dn:=match lk r t with
 |some (some k)=>Ds[k]?
 |some none=>lk E t
 |none=>none
def Aj(P:Program)(N:Nat)(B:Bool)(E:Nn)(D0:List Dn)(T:Nat→Act→World→Prop):List Oper→List Rl→List Dn→List (Option Nat)→Prop
 |o::os,r::rs,d::ds,s::ss=>(match s with
  |none=>∀m,OkN P N o (Rq E D0 r) B (T m) (T m) d
  |some k=>OkN P N o (Rq E D0 r) B (T k) (T (k+1)) d)∧Aj P N B E D0 T os rs ds ss
 |[],[],[],[]=>True
 |_,_,_,_=>False
variable{P:Program}{N:Nat}{T:Nat→Act→World→Prop}{E:Nn}{D0:List Dn}
theorem Aj.get{B:Bool}:∀{l:List Oper} {rs:List Rl} {ds:List Dn} {ss:List (Option Nat)} {j:Nat} {o:Oper},Aj P N B E D0 T l rs ds ss→l[j]? =some o→∃d s,ds[j]? =some d∧ss[j]? =some s∧(match s with
 |none=>∀m,OkN P N o (Rq E D0 (rs.getD j [])) B (T m) (T m) d
 |some k=>OkN P N o (Rq E D0 (rs.getD j [])) B (T k) (T (k+1)) d)
 |o1::os,r::rs,d::ds,s::ss,0,o,h,a=>by
  simp at a;subst a;exact⟨d,s,rfl,rfl,h.1⟩
 |o1::os,r::rs,d::ds,s::ss,j+1,o,h,a=>by
  obtain⟨d',c,h1,h2,f⟩:=Aj.get (j:=j) h.2 (by simpa using a);exact⟨d',c,by simpa using h1,by simpa using h2,by simpa using f⟩
 |[],_,_,_,_,_,_,a=>by simp at a
 |_::_,[],_,_,_,_,h,_=>by simp[Aj]at h
 |_::_,_::_,[],_,_,_,h,_=>by simp[Aj]at h
 |_::_,_::_,_::_,[],_,_,h,_=>by simp[Aj]at h
theorem Aj.len{B:Bool}:∀{l:List Oper} {rs:List Rl} {ds:List Dn} {ss:List (Option Nat)},Aj P N B E D0 T l rs ds ss→ds.length=l.length∧ss.length=l.length
 |_::_,_::_,_::_,_::_,h=>by simp[Aj.len h.2]
 |[],[],[],[],_=>⟨rfl,rfl⟩
 |[],_::_,_,_,h=>by simp[Aj]at h
 |[],[],_::_,_,h=>by simp[Aj]at h
 |[],[],[],_::_,h=>by simp[Aj]at h
 |_::_,[],_,_,h=>by simp[Aj]at h
 |_::_,_::_,[],_,h=>by simp[Aj]at h
 |_::_,_::_,_::_,[],h=>by simp[Aj]at h
def gN_(l:List Oper)(Ds:List Dn):Bool:=(List.range l.length).all fun i=>match l[i]? with
 |some o=>(match o.guard with
  |none=>true
  |some (j,want)=>match l[j]?,Ds[j]? with
   |some p,some (.k (.bool b))=>p.dst.isSome&&(b==want)&&(o.after.any fun e=>Region.binds .any e&&e.on==j)
   |_,_=>false)
 |none=>true
def dN_(l:List Oper):Bool:=(List.range l.length).all fun i=>match l[i]? with
 |some o=>o.dst.isSome
 |none=>true
def cN_(l:List Oper)(Sg:List (Option Nat))(M:Nat):Bool:=((List.range l.length).all fun j=>match Sg.getD j none with
 |none=>true
 |some k=>decide (k<M)&&((List.range l.length).all fun i=>decide (i=j)||Sg.getD i none != some k)&&(match k with
  |0=>true
  |k+1=>match l[j]? with|some o=>o.after.any (fun e=>Region.binds .any e&&Sg.getD e.on none==some k)|none=>false))&&(match M with|0=>true|m+1=>(List.range l.length).any fun j=>Sg.getD j none==some m)
theorem Rt{id M:Nat}{l:List Oper}{Q:Exit→Act→World→Prop}{a:Act}{w:World}(B:Bool)(E:Nn)(Ds:List Dn)(Sg:List (Option Nat))(rs:List Rl)(T:Nat→Act→World→Prop)(hz:a.tmps.size=N)(hd:a.defers=[])(hE:∀p,p∈E→a.tmps.getD p.1 undef=a.tmps.getD p.1 undef∧Gz w p.2 (a.tmps.getD p.1 undef))(h0:∀w',w'.heap=w.heap→Below w.heap.size w w'→T 0 a w')(hm:P.follows .mixedOrders=true)
 (hB:spB l l.length N=true) (hr:rM l l.length rs=true) (hg:gN_ l Ds=true) (hdn:dN_ l=true) (hc:cN_ l Sg M=true) (I:B=true∨(Ds.all Dn.isK&&E.all fun p=>p.2.isK)=true)
 (ops:Aj P N B E Ds T l rs Ds Sg)
 (fin:∀a' w',a'.tmps.size=N→a'.defers=[]→(∀t d,lk E t=some d→(∀(k:Nat) (o:Oper),l[k]? =some o→o.dst≠some t)→Gz w' d (a'.tmps.getD t undef))→(∀(k:Nat) (o:Oper) (t:Nat) (d:Dn),l[k]? =some o→o.dst=some t→Ds[k]? =some d→Gz w' d (a'.tmps.getD t undef))→T M a' w'→Q .normal a' w'):(Code.region id l.toArray true).wp P Q a w:=by
 obtain⟨hDl,hSl⟩:=ops.len
 simp only[spB,dA,qW]at hB
 obtain⟨⟨_,hbk⟩,hop⟩:=hB
 have op:∀(i:Nat) (o:Oper),l[i]? =some o→i<l.length∧∀k,o.dst=some k→k<N∧∀(j:Nat) (p:Oper),i≠j→l[j]? =some p→p.dst≠some k:=fun i o A=>by
  have J:i<l.length:=(iR.1 A).1;have h1:=dh.1 hop i (gQ.2 J);rw[A]at h1;refine⟨J,fun k I=>?_⟩;have h2:=h1;simp only[I,dA,qW]at h2;refine⟨h2.1,fun j p hij hp=>?_⟩;have c:j<l.length:=(iR.1 hp).1;have g:=dh.1 h2.2 j (gQ.2 c);rw[hp]at g;simp only[Bool.or_eq_true,qW,ku,ne_eq]at g;exact g.resolve_left hij
 simp only[cN_,dA]at hc
 obtain⟨hc1,hc2⟩:=hc
 have gS:∀{j:Nat} {s:Option Nat},Sg[j]? =some s→Sg.getD j none=s∧j<l.length:=fun {j s} h=>⟨by simp[List.getD,h],by rw[←hSl];exact(iR.1 h).1⟩
 have gS1:∀{j k:Nat},Sg.getD j none=some k→j<l.length∧Sg[j]? =some (some k):=fun {j k} h=>by
  unfold List.getD at h;cases c:Sg[j]? with
  |none=>rw[c]at h;cases h
  |some f=>rw[c]at h;cases h;exact⟨(gS c).2,rfl⟩
 have upD:∀{C w2:World} {k:Nat} {d:Dn} {x:Value},Ds[k]? =some d→(B=true→Below C.heap.size C w2)→Gz C d x→Gz w2 d x:=fun hd hb h=>h.up (by
  rcases I with h1|h1
  ·exact .inr (hb h1)
  ·simp only[dA]at h1;exact .inl (dh.1 h1.1 _ (dP hd)))
 have upE:∀{C w2:World} {t:Nat} {d:Dn} {x:Value},lk E t=some d→(B=true→Below C.heap.size C w2)→Gz C d x→Gz w2 d x:=fun hd hb h=>h.up (by
  rcases I with h1|h1
  ·exact .inr (hb h1)
  ·simp only[dA]at h1;exact .inl (dh.1 h1.2 _ (LJ hd)))
 refine wp_region_any hm ?_
 have hb0:Below w.heap.size w {w with drawn:=w.drawn+1}:=⟨rfl,rfl,rfl,aY _,fun _ _=>rfl⟩
 have e0:∀j,j<l.length→(Array.replicate l.toArray.size false).getD j true=false:=fun j c=>by simp[c]
 refine Iu (fun listed a w=>a.tmps.size=N∧a.defers=[]∧listed.size=l.length∧(∀t d,lk E t=some d→(∀(k:Nat) (o:Oper),l[k]? =some o→o.dst≠some t)→Gz w d (a.tmps.getD t undef))∧(∀(k:Nat) (o:Oper) (t:Nat) (d:Dn),l[k]? =some o→o.dst=some t→Ds[k]? =some d→listed.getD k true=true→Gz w d (a.tmps.getD t undef))∧∃m,m≤M∧T m a w∧∀j k,Sg[j]? =some (some k)→(listed.getD j true=true↔k<m)) hbk ?_ ?_ _ _ a {w with drawn:=w.drawn+1} sy (bK (List.length_filter_le _ _) sy) ⟨hz,hd,sy,fun t d h _=>upE h (fun _=>hb0) (hE _ (LJ h)).2,fun k o t d h1 _ _ G=>?_,0,aG _,h0 _ rfl hb0,fun j k h=>?_⟩
 ·rintro listed a C i o ⟨y,L,Fz,iold,ival,m,hmM,hT,z⟩ A hli Oa;rw[oQ]at A;obtain⟨J,hdst⟩:=op i o A;obtain⟨d,s,hd,hs,hok⟩:=ops.get A;have hil:i<listed.size:=by rw[Fz];exact J
  have hset:∀j,(listed.setIfInBounds i true).getD j true=if i=j then true else listed.getD j true:=fun j=>by
   rw[Gu];by_cases e:i=j
   ·rw[au ⟨e,hil⟩,au e]
   ·rw[ah (fun h=>e h.1),ah e]
  have Y:∀e,e∈o.after→Region.binds .any e=true→listed.getD e.on true=true:=fun e U hb=>Gs (Oa e U hb)
  have hR:∀t d,Rq E Ds (rs.getD i []) t=some d→Gz C d (a.tmps.getD t undef):=fun t d ht=>by
   have h1:=dh.1 hr i (gQ.2 J);unfold Rq at ht;split at ht
   ·rename_i k I;have h2:=dh.1 h1 _ (Iw I);simp only[dA,qW,A,Array.any_eq_true']at h2;obtain⟨⟨g,G⟩,e,U,h5,h6⟩:=h2;split at G
    ·rename_i o2 F;have h4':o2.dst=some t:=by simpa using G
     have Z:=Y e U h5;rw[show e.on=k from by simpa using h6]at Z;exact ival k o2 t d F h4' ht Z
    ·cases G
   ·rename_i I;have h2:=dh.1 h1 _ (Iw I);refine iold t d ht fun k o2 F=>?_
    have hk2:k<l.length:=(iR.1 F).1;have g:=dh.1 h2 k (gQ.2 hk2);rw[F]at g;simpa using g
   ·cases ht
  have hwt:Region.wanted o (yielded l.toArray a.tmps)=true:=by
   have h1:=dh.1 hg i (gQ.2 J);rw[A]at h1;cases O:o.guard with
   |none=>unfold Region.wanted;rw[O]
   |some jw=>
    obtain⟨j,want⟩:=jw;simp only[O]at h1;split at h1
    ·rename_i p b hp hsj;simp only[dA,Array.any_eq_true']at h1;obtain⟨⟨h2,g⟩,e,U,h5,h6⟩:=h1;obtain⟨u,hu⟩:=yH.1 h2;have Z:=Y e U h5;rw[show e.on=j from by simpa using h6]at Z;have h9:a.tmps.getD u undef= .bool b:=ival j p u _ hp hu hsj Z;exact(vN O (by rw[oQ,hp];exact hu) y h9 ((op j p hp).2 u hu).1).trans g
    ·cases h1
  refine TD (by rw[oQ];exact A) hwt ?_;have hds:o.dst.isSome=true:=by
   have h1:=dh.1 hdn i (gQ.2 J);rwa[A]at h1
  obtain⟨t,ht⟩:=yH.1 hds;obtain⟨htN,htd⟩:=hdst t ht;have hok2:∃m',m'≤M∧OkN P N o (Rq E Ds (rs.getD i [])) B (T m) (T m') d∧∀j k,Sg[j]? =some (some k)→((listed.setIfInBounds i true).getD j true=true↔k<m'):=by
   cases s with
   |none=>
    refine⟨m,hmM,hok m,fun j k c=>?_⟩;rw[hset,ah (fun e=>by subst e;rw[hs]at c;cases c)];exact z j k c
   |some H=>
    have h1:=dh.1 hc1 i (gQ.2 J);rw[(gS hs).1]at h1;simp only[dA,qW]at h1;obtain⟨⟨hkM,huq⟩,hch⟩:=h1;have hnk:¬H<m:=fun h=>by rw[(z i H hs).2 h]at hli;cases hli
    have hkm:H=m:=by
     cases H with
     |zero=>omega
     |succ H=>
      simp only[A,Array.any_eq_true',dA,beq_iff_eq]at hch;obtain⟨e,U,h5,h6⟩:=hch;have Z:=Y e U h5;have:=(z e.on H (gS1 h6).2).1 Z;omega
    subst hkm;refine⟨H+1,hkM,hok,fun j k c=>?_⟩;rw[hset];by_cases e:i=j
    ·subst e;rw[hs]at c;cases c;rw[au rfl];exact⟨fun _=>om,fun _=>rfl⟩
    ·rw[ah e,z j k c];have hne:k≠H:=fun e2=>by
      have h8:=dh.1 huq j (gQ.2 (gS c).2);rw[(gS c).1,e2]at h8;simp[Ne.symm e]at h8
     omega
  obtain⟨m',hm',hok3,hst'⟩:=hok2;refine hok3.ok Q a C _ y hR hT fun v w' hb hv hT'=>⟨?_,?_,by simpa using Fz,fun u d1 hu hn1=>?_,fun k o2 u d1 h1 h2 g G=>?_,m',hm',hT',hst'⟩
  ·rw[ht];show(a.tmps.setIfInBounds t v).size=N;simp[y]
  ·rw[ht];exact L
  ·rw[ht,tJ (fun e=>hn1 i o A (by rw[ht,e]))];exact upE hu hb (iold u d1 hu hn1)
  ·by_cases e:i=k
   ·subst e;rw[A]at h1;cases h1;rw[ht]at h2;cases h2;rw[hd]at g;cases g;rw[ht,put_eq (by rw[y];exact htN)];exact hv
   ·rw[hset,ah e]at G;rw[ht,tJ (fun e2=>htd k o2 e h1 (by rw[h2,e2]))];exact upD g hb (ival k o2 u d1 h1 h2 g G)
 ·rintro listed a C ⟨y,L,Fz,iold,ival,m,hmM,hT,z⟩ hall;have hmM':m=M:=by
   cases M with
   |zero=>omega
   |succ M=>
    simp only[List.any_eq_true,gQ,beq_iff_eq]at hc2;obtain⟨j,c,h9⟩:=hc2;have:=(z j M (gS1 h9).2).1 (hall j (by simpa using c));omega
  subst hmM';exact fin a C y L iold (fun k o t d h1 h2 g=>ival k o t d h1 h2 g (hall k (by simpa using(iR.1 h1).1))) hT
 ·rw[e0 k (iR.1 h1).1]at G;cases G
 ·rw[e0 j (gS h).2];exact⟨fun h=>(by cases h),fun h=>om⟩
end
section
open Go Go.RowKit Go.Proofs Ab
def Dn.tD:Dn→Option Δ
 | .k v=>some (.k v)
 | .r _=>none
 | .u=>none
abbrev tR(R:Nat→Option Dn)(t:Nat):Option Δ:=(R t).bind Dn.tD
def MK(d:Δ)(v:Value):Prop:=d= .k v∨∃L:List Value,d= .g (L.map Δ.k)∧v= .agg L.toArray
section
variable {N:Nat} {o:Oper} {R:Nat→Option Dn} {B:Bool} {T:Act→World→Prop} {v:Value} {d':Δ} {d:Dn} {dst:Option Tmp} {f:FuncId} {args:Array Operand} {A7:Array TypeId} {t:TypeId} {p:String} {e:Array Edge} {gd:Option (Nat×Bool)} {vs:List V} {b:Bool}
theorem bf(l:∀a w,T a w→TO w)(j:∀a w x w',T a w→Below w.heap.size w w'→T (a.put o.dst x) w')(h:∀a w,T a w→Ok Tryz.prog w N o 0 (tR R) [] d' none)(g:MK d' v):OkN Tryz.prog N o R B T T (.k v):=⟨fun Q a w K hz m c hK=>by
 refine(h a w c).ok Q g0 a w (fun i=>0≤i) K hz (Y6 (l a w c)) (aY 0) (fun t d ht=>?_) (fun _ _ h=>by cases h) fun γ' x w' _ hb _ f _=>hK x w' (fun _=>hb) ?_ (j a w x w' c hb)
 ·obtain⟨d1,h1,h2⟩:=Option.bind_eq_some_iff.1 ht;have y:=m t d1 h1;cases d1 with
  |k u=>
   cases h2;exact y
  |r V=>cases h2
  |u=>cases h2
 ·rcases g with rfl|⟨L,rfl,rfl⟩
  ·exact f
  ·obtain⟨xs,ex,hl⟩:=f;rw[kl hl]at ex;exact ex⟩
theorem Ru(j:∀a w x w',T a w→Below w.heap.size w w'→T (a.put dst x) w')(l:Jb Tryz.prog f=true)(m:∀a w,a.tmps.size=N→(∀t d,R t=some d→Gz w d (a.tmps.getD t undef))→T a w→Calls Tryz.prog f (args.toList.map a.eval).toArray w (fun e w'=>∃v,e= .returned v∧Below w.heap.size w w'∧Gz w' d v)):OkN Tryz.prog N ⟨dst,.call ⟨.value (.func f),args,A7⟩,t,p,e,gd⟩ R B T T d:=⟨fun Q a w K hz u c hK=>by
 unfold Oper.wp;rw[pG l,Oper.upon_enter];refine(m a w hz u c).mono ?_;rintro e w' ⟨v,rfl,hb,g⟩;exact hK v w' (fun _=>hb) g (j a w v w' c hb)⟩
theorem yX(y:∀a w,T a w→TO w)(j:∀a w x w',T a w→Below w.heap.size w w'→T (a.put dst x) w')(c:aT f vs (.b b))(l:Jb Tryz.prog f=true)(u:∀a w,(∀t d,R t=some d→Gz w d (a.tmps.getD t undef))→T a w→aB w (fun q=>q<w.heap.size) (args.toList.map a.eval) vs):OkN Tryz.prog N ⟨dst,.call ⟨.value (.func f),args,A7⟩,t,p,e,gd⟩ R B T T (.k (.bool b)):=
 Ru j l fun a w hz z g=>by
  refine((c.to0 rfl) w (fun q=>q<w.heap.size) _ trivial (y a w g) (fun _ h=>h) (u a w z g)).mono ?_;rintro e w' ⟨v,rfl,A,N,E,h⟩;refine⟨v,rfl,A,?_⟩;rcases h with h|⟨e,sz,cs,n,xs,m,_⟩|⟨r,h,_⟩
  ·exact(Rep.up (ov:=fun _=>none) h).qH
  ·cases m
  ·cases h
variable{T':Act→World→Prop}
theorem LY(j:Jb Tryz.prog f=true)(l:∀a w,a.tmps.size=N→(∀t d,R t=some d→Gz w d (a.tmps.getD t undef))→T a w→Calls Tryz.prog f (args.toList.map a.eval).toArray w (fun e w'=>∃v,e= .returned v∧Gz w' d v∧T' (a.put dst v) w')):OkN Tryz.prog N ⟨dst,.call ⟨.value (.func f),args,A7⟩,t,p,e,gd⟩ R false T T' d:=⟨fun Q a w K hz m c hK=>by
 unfold Oper.wp;rw[pG j,Oper.upon_enter];refine(l a w hz m c).mono ?_;rintro e w' ⟨v,rfl,g,h⟩;exact hK v w' (fun h=>by cases h) g h⟩
theorem okn_ex(h:∀a w,a.tmps.size=N→(∀t d,R t=some d→Gz w d (a.tmps.getD t undef))→T a w→∃v w',(execOp a.eval o).run Tryz.prog w= .ok (.value v) w'∧Gz w' d v∧T' (a.put o.dst v) w'):OkN Tryz.prog N o R false T T' d:=⟨fun Q a w K hz f c hK=>by
 obtain⟨v,w',h1,h2,g⟩:=h a w hz f c;unfold Oper.wp;rw[h1];exact hK v w' (fun h=>by cases h) h2 g⟩
end
def nK(K:List (Nat×Value)):Nn:=K.map fun p=>(p.1,.k p.2)
theorem lk_nK:∀{K:List (Nat×Value)} {p:Nat×Value},p∈K→∃y,(p.1,y)∈K∧lk (nK K) p.1=some (.k y)
 |q::r,p,a=>by
  by_cases e:q.1=p.1
  ·refine⟨q.2,by rw[←e];exact jM,?_⟩;show lk ((q.1,Dn.k q.2)::nK r) p.1=_;unfold lk;rw[e,Nat.beq_refl];rfl
  ·rcases dZ.1 a with rfl|a
   ·exact absurd rfl e
   ·obtain⟨y,h1,h2⟩:=lk_nK a;refine⟨y,jD _ h1,?_⟩;show lk ((q.1,Dn.k q.2)::nK r) p.1=_;unfold lk;rw[wM e];exact h2
variable{N:Nat}{K:List (Nat×Value)}{a:Act}
theorem LS.nE{w:World}(h:LS N K a):∀p,p∈nK K→a.tmps.getD p.1 undef=a.tmps.getD p.1 undef∧Gz w p.2 (a.tmps.getD p.1 undef):=fun p c=>by
 obtain⟨q,hq,rfl⟩:=eG.1 c;exact⟨rfl,h.kp q hq⟩
theorem LS.nx{c:Act}{w':World}{l:List Oper}(h:LS N K a)(hz:c.tmps.size=N)(hd:c.defers=[])(hold:∀t d,lk (nK K) t=some d→(∀(k:Nat) (o:Oper),l[k]? =some o→o.dst≠some t)→Gz w' d (c.tmps.getD t undef))(hK:(K.all fun p=>l.all fun o=>o.dst != some p.1)=true):LS N K c:=⟨hz,hd,fun p f=>by
 obtain⟨y,g,h1⟩:=lk_nK f;have h2:=dh.1 hK p f;have m:c.tmps.getD p.1 undef=y:=hold p.1 _ h1 fun k o j=>by
  have:=dh.1 h2 o (dP j);simpa using this
 exact m.trans ((h.kp (p.1,y) g).symm.trans (h.kp p f))⟩
end
section
open Go Go.RowKit Go.Proofs Ab
variable{RK:List (Bool×List Nat×List Nat)}{IK:List (Bool×List Nat)}{M:List Int}{w0:World}
theorem AR.out{κ:Bool}{w w':World}{e:Ending}(h:AR κ w RK IK M e w')(a:RK.length≤1000)(f:IK.length≤1000)(c:M.length≤1000):∃v,e= .returned v∧Below w.heap.size w w'∧Rep0 w' (fun q=>q<w'.heap.size) v (SV RK IK M):=by
 obtain⟨b,vr,vi,vm,R,I,rfl,g,h1,h2,m,l,j⟩:=h;exact⟨_,rfl,g,(⟨h1,h2,m,l,j⟩:AD κ w w' b vr vi vm R I RK IK M).rep a f c⟩
theorem jL{w:World}{q:Nat}{L:List Value}{t:TypeId}(h:w0.heap[q]? =some (.cells L.toArray t (0,0)))(hb:Below w0.heap.size w0 w):Old w q (L.map Δ.k):=nJ ((hb.block q (pW.1 h).1).trans h)
theorem CQ(g:RK.length=12)(l:IK.length=2)(j:M.length=26)(c:∀p,p∈RK→p.2.1.length≤1000000∧p.2.2.length≤1000000)(f:∀p,p∈IK→p.2.length≤1000000):aT 10 [SV RK IK M,SV RK IK M] (.b true):=
 QY RK IK M om om om (fun p a=>⟨by have:=(c p a).1;omega,by have:=(c p a).2;omega⟩) fun p a=>by have:=f p a;omega
theorem st_18{ac:Act}{X:Nat→Prop}{Rp:Exit→Act→World→Prop}{b0:Nat}{x1 x2 y1 y2 z0 z1 z2 u v e1 e2 e3 lv e4:Value}{s0 s1 s3 s4:Bool}{A0 D0 A1 D1 A3 A4:List Nat}{l:List (Bool×List Nat×List Nat)}{q3 q4 q7 q8:Nat}{vi vj vl vp:Value}{q13 Jf T Q:Nat}{g m j C J G A I F z H E:Value}{Z:List (Bool×List Nat×List Nat)}{IK2:List (Bool×List Nat)}{M2:List Int}(hj:TO w0)(ls:LS 267 [(16,Pt Q),(15,Pt T),(14,Pt Jf),(13,Pt q13),(1,Pt b0),(3,Pt q3),(4,Pt q4),(5,vi),(6,vj),(7,Pt q7),(8,Pt q8),(9,vl),(10,vp)] ac)(P:CS w0 X b0 x1 x2 y1 y2 z0 z1 z2 u v e1 e2 e3 lv e4 s0 s1 s3 s4 A0 D0 A1 D1 A3 A4 l)(U:BT s0 s1 s3 s4 A0 D0 A1 D1 A3 A4 l RK IK M)(y:BT s1 s0 s4 s3 A1 D1 A0 D0 A4 A3 l Z IK2 M2)
 (Y:w0.heap[q13]? =some (.cells [g,m,j].toArray 41 (0,0)))
 (hq14:w0.heap[Jf]? =some (.cells [C,J,G].toArray 41 (0,0)))
 (hq15:w0.heap[T]? =some (.cells [A,I,F].toArray 41 (0,0)))
 (hq16:w0.heap[Q]? =some (.cells [z,H,E].toArray 41 (0,0)))
 (a13:Rep0 w0 (fun q=>q<w0.heap.size) (.agg #[g,m,j]) (SV RK IK M))
 (a14:Rep0 w0 (fun q=>q<w0.heap.size) (.agg #[C,J,G]) (SV RK IK M))
 (a15:Rep0 w0 (fun q=>q<w0.heap.size) (.agg #[A,I,F]) (SV Z IK2 M2))
 (a16:Rep0 w0 (fun q=>q<w0.heap.size) (.agg #[z,H,E]) (SV RK IK M))
 (next:∀(a':Act) (w':World),LS 267 [(16,Pt Q),(15,Pt T),(14,Pt Jf),(13,Pt q13),(1,Pt b0),(3,Pt q3),(4,Pt q4),(5,vi),(6,vj),(7,Pt q7),(8,Pt q8),(9,vl),(10,vp)] a'→Below w0.heap.size w0 w'→(qd 14 (qf Tryz.f3)).wp Tryz.prog Rp a' w'):(qd 13 (qf Tryz.f3)).wp Tryz.prog Rp ac w0:=by
 have c1:=CQ U.lR U.lI U.lM U.bR U.bI
 have c2:=CQ y.lR y.lI y.lM y.bR y.bI
 have lY:∀(a:Act) (w:World),Below w0.heap.size w0 w→TO w:=fun a w h=>hj.up h
 have f:∀(_:Option Tmp) (a:Act) (w:World) (x:Value) (w':World),Below w0.heap.size w0 w→Below w.heap.size w w'→Below w0.heap.size w0 w':=fun _ _ _ _ _ h hb=>dB h hb
 refine wp_seq (wp_seq (Rt (M:=0) (N:=267) true (nK [(16,Pt Q),(15,Pt T),(14,Pt Jf),(13,Pt q13),(1,Pt b0),(3,Pt q3),(4,Pt q4),(5,vi),(6,vj),(7,Pt q7),(8,Pt q8),(9,vl),(10,vp)]) [_,_,_,_,_,_,_,_,_,_,_,_,_,_,_,_,_,_,_,_,_,_,_,_,_,_] [none,none,none,none,none,none,none,none,none,none,none,none,none,none,none,none,none,none,none,none,none,none,none,none,none,none] [[(14,none)],[(13,none)],[(117,some 0),(118,some 1)],[(119,some 2)],[(120,some 3)],[(16,none)],[(13,none)],[(122,some 5),(123,some 6)],[(124,some 7)],[(121,some 4),(125,some 8)],[(126,some 9)],[(15,none)],[(1,none)],[(129,some 12)],[(1,none)],[(131,some 14)],[(1,none)],[(133,some 16)],[(1,none)],[(135,some 18)],[(1,none)],[(137,some 20)],[(130,some 13),(132,some 15),(134,some 17),(136,some 19),(138,some 21)],[(128,some 11),(139,some 22)],[(140,some 23)],[(127,some 10),(141,some 24)]] (fun _ _ w=>Below w0.heap.size w0 w) ls.sz ls.df ls.nE (fun w' _ h=>h) aN kf kf kf kf kf (.inl rfl) ⟨fun _=>bf (lY) (f none) (fun a w c=>nH (n:=3) (jL (L:=[C,J,G]) hq14 c) rfl kf kf rfl) (.inr ⟨[C,J,G],rfl,rfl⟩),fun _=>bf (lY) (f none) (fun a w c=>nH (n:=3) (jL (L:=[g,m,j]) Y c) rfl kf kf rfl) (.inr ⟨[g,m,j],rfl,rfl⟩),fun _=>yX lY (f none) c1 kf (fun a w O c=>by
  have e1:a.tmps.getD 117 undef=_:=O 117 _ rfl;have e2:a.tmps.getD 118 undef=_:=O 118 _ rfl;simp only[dI,fJ,bU];rw[e1,e2];exact N9 (rO c a14) (rO c a13)),fun _=>bf (lY) (f none) (fun a w c=>DX rfl) (.inl rfl),fun _=>bf (lY) (f none) (fun a w c=>nV rfl) (.inl rfl),fun _=>bf (lY) (f none) (fun a w c=>nH (n:=3) (jL (L:=[z,H,E]) hq16 c) rfl kf kf rfl) (.inr ⟨[z,H,E],rfl,rfl⟩),fun _=>bf (lY) (f none) (fun a w c=>nH (n:=3) (jL (L:=[g,m,j]) Y c) rfl kf kf rfl) (.inr ⟨[g,m,j],rfl,rfl⟩),fun _=>yX lY (f none) c1 kf (fun a w O c=>by
  have e1:a.tmps.getD 122 undef=_:=O 122 _ rfl;have e2:a.tmps.getD 123 undef=_:=O 123 _ rfl;simp only[dI,fJ,bU];rw[e1,e2];exact N9 (rO c a16) (rO c a13)),fun _=>bf (lY) (f none) (fun a w c=>DX rfl) (.inl rfl),fun _=>bf (lY) (f none) (fun a w c=>Fh rfl rfl rfl) (.inl rfl),fun _=>bf (lY) (f none) (fun a w c=>nV rfl) (.inl rfl),fun _=>bf (lY) (f none) (fun a w c=>nH (n:=3) (jL (L:=[A,I,F]) hq15 c) rfl kf kf rfl) (.inr ⟨[A,I,F],rfl,rfl⟩),fun _=>bf (lY) (f none) (fun a w c=>d_ (off:=3) rfl kf) (.inl rfl),fun _=>bf (lY) (f none) (fun a w c=>nH (n:=3) (jL (L:=[Value.bool s0,x1,x2,.bool s1,y1,y2,z0,z1,z2,.bool s3,u,.bool s4,v,e1,e2,e3,lv,e4]) P.bx c) rfl kf kf rfl) (.inr ⟨[.bool s1,y1,y2],rfl,rfl⟩),fun _=>bf (lY) (f none) (fun a w c=>d_ (off:=0) rfl kf) (.inl rfl),fun _=>bf (lY) (f none) (fun a w c=>nH (n:=3) (jL (L:=[Value.bool s0,x1,x2,.bool s1,y1,y2,z0,z1,z2,.bool s3,u,.bool s4,v,e1,e2,e3,lv,e4]) P.bx c) rfl kf kf rfl) (.inr ⟨[.bool s0,x1,x2],rfl,rfl⟩),fun _=>bf (lY) (f none) (fun a w c=>d_ (off:=11) rfl kf) (.inl rfl),fun _=>bf (lY) (f none) (fun a w c=>nH (n:=2) (jL (L:=[Value.bool s0,x1,x2,.bool s1,y1,y2,z0,z1,z2,.bool s3,u,.bool s4,v,e1,e2,e3,lv,e4]) P.bx c) rfl kf kf rfl) (.inr ⟨[.bool s4,v],rfl,rfl⟩),fun _=>bf (lY) (f none) (fun a w c=>d_ (off:=9) rfl kf) (.inl rfl),fun _=>bf (lY) (f none) (fun a w c=>nH (n:=2) (jL (L:=[Value.bool s0,x1,x2,.bool s1,y1,y2,z0,z1,z2,.bool s3,u,.bool s4,v,e1,e2,e3,lv,e4]) P.bx c) rfl kf kf rfl) (.inr ⟨[.bool s3,u],rfl,rfl⟩),fun _=>bf (lY) (f none) (fun a w c=>d_ (off:=16) rfl kf) (.inl rfl),fun _=>bf (lY) (f none) (fun a w c=>pI (jL (L:=[Value.bool s0,x1,x2,.bool s1,y1,y2,z0,z1,z2,.bool s3,u,.bool s4,v,e1,e2,e3,lv,e4]) P.bx c) rfl kf kf rfl) (.inl rfl),fun _=>Ru (d:= .r (SV Z IK2 M2)) (f none) kf (fun a w hz O c=>by
  have e1:a.tmps.getD 130 undef=_:=O 130 _ rfl;have e2:a.tmps.getD 132 undef=_:=O 132 _ rfl;have e3:a.tmps.getD 134 undef=_:=O 134 _ rfl;have e4:a.tmps.getD 136 undef=_:=O 136 _ rfl;have e5:a.tmps.getD 138 undef=_:=O 138 _ rfl;simp only[dI,fJ,bU];rw[e1,e2,e3,e4,e5];exact(y.wan _ _ _ _ _ _ _ _ (hj.up c) (uJ c P.r3) (uJ c P.r4) (uJ c P.r1) (uJ c P.r2) (uJ c P.r6) (uJ c P.r5) (uJ c P.rl)).mono fun e w' h=>h.out (by rw[y.lR];decide) (by rw[y.lI];decide) (by rw[y.lM];decide)),fun _=>yX lY (f none) c2 kf (fun a w O c=>by
  have e1:a.tmps.getD 128 undef=_:=O 128 _ rfl;have e2:Rep0 w (fun q=>q<w.heap.size) (a.tmps.getD 139 undef) _:=O 139 _ rfl;simp only[dI,fJ,bU];rw[e1];exact N9 (rO c a15) e2),fun _=>bf (lY) (f none) (fun a w c=>DX rfl) (.inl rfl),fun _=>bf (lY) (f none) (fun a w c=>Fh rfl rfl rfl) (.inl rfl),trivial⟩ ?_))
 intro a' w' h1 h2 h3 h4 h5
 have hl:LS 267 [(16,Pt Q),(15,Pt T),(14,Pt Jf),(13,Pt q13),(1,Pt b0),(3,Pt q3),(4,Pt q4),(5,vi),(6,vj),(7,Pt q7),(8,Pt q8),(9,vl),(10,vp)] a':=ls.nx h1 h2 h3 kf
 refine wp_cond_false (h4 25 _ 142 _ rfl rfl rfl) (wp_skip ?_)
 exact next a' w' hl h5
end
