import Derived.Test.YtpopphdnlhihdaaGreatDoorU22
set_option linter.all false
set_option maxHeartbeats 10000000
set_option maxRecDepth 2000000
namespace Go.Proofs.YtpopphdnlhihdaaGreatDoor
open Go Go.RowKit Go.Proofs Ab
section
theorem f_zof0:Fn 68 [.k (.int .i64 0)] (nI 0 0):=by
 have h:=Zq (n:=0) dc;rwa[EU]at h
theorem ZT{z:Int}{m:Nat}(h:z.natAbs<B^m)(hm:m≤1000000000):Fn 77 [iD (decide (z<0)) (dg B z.natAbs)] (.k (.int .i64 (gp z))):=ZL (fD z) (af _) (bK (aA h) hm)
variable {s t:Bool} {a b d e:List Nat} {m:Nat}
theorem fq_simp(hm:m≤1100000)(u:16384≤m)(ha:Wd a)(hb:Wd b)(hd:Wd d)(he:Wd e)(la:a.length≤m)(lb:b.length≤m)(ld:d.length≤m)(le:e.length≤m)(g:nv B d≠0)(f:nv B e≠0)(hle:zv s a*(nv B e:Int)≤zv t b*(nv B d:Int)):
 Fn 20 [qD s a d,qD t b e] (.t [qO (FQ (rz (zv s a) (nv B d)) (aH (zv s a) (nv B d)) (rz (zv t b) (nv B e)) (aH (zv t b) (nv B e))).1 (FQ (rz (zv s a) (nv B d)) (aH (zv s a) (nv B d)) (rz (zv t b) (nv B e)) (aH (zv t b) (nv B e))).2 0 1,e0]):=by
 have F:=vJ s t a b d e m om ha hb hd he la lb ld le
 have C:nv B d*nv B e≠0:=mM g f
 rw[ah C,ja C]at F
 have hc:¬0<cz (zv s a*(nv B e:Int)) (zv t b*(nv B d:Int)):=by rw[Ii];omega
 have n1:=D7 (s:=s) om rfl ha la rfl hd ld g
 have n2:=D7 (s:=t) om rfl hb lb rfl he le f
 have bz:(rz (zv s a) (nv B d)).natAbs<B^m:=by rw[uH];exact cZ (fE _ _) (bF ha la)
 have G:(rz (zv t b) (nv B e)).natAbs<B^m:=by rw[uH];exact cZ (fE _ _) (bF hb lb)
 have Y:aH (zv s a) (nv B d)<B^m:=cZ (fE _ _) (bP hd ld)
 have be:aH (zv t b) (nv B e)<B^m:=cZ (fE _ _) (bP he le)
 have U:=Ig (zv s a) g
 have ce:=Ig (zv t b) f
 have T:=g_ (z:=zv s a) g
 have Q:=g_ (z:=zv t b) f
 have l:=(Vt g f).2 hle
 generalize cz (zv s a*(nv B e:Int)) (zv t b*(nv B d:Int))=c at*
 generalize rz (zv s a) (nv B d)=z at*
 generalize aH (zv s a) (nv B d)=x at*
 generalize rz (zv t b) (nv B e)=w at*
 generalize aH (zv t b) (nv B e)=y at*
 have J:=yT u
 have s1:=ZT bz om
 have s2:=ZT G om
 have P:=Ih z
 have O:=Qv w
 have g3:=zU w
 by_cases k1:z≤0
 ·by_cases k2:0≤w
  ·rw[show FQ z x w y=(0,1)from au ⟨k1,k2⟩];have r1:=n_red (a:=0) hm J om;rw[show qO ((0,1):Int×Nat).1 ((0,1):Int×Nat).2 0 1=nO 0 1 0 1 from CG 0 1 0 1];rw[←P]at k1;rw[←O]at k2;generalize gp z=M at*
   generalize gp w=N at*
   refine dV Tryz.func20 (code:=qf Tryz.f20) rfl rfl fun w ac S=>?_
   refine bM fun _ _ _ S=>?_;(refine aj S (pf (d:= .t [.k (.int .i64 c),e0]) F) fun _ _ _ S=>?_);refine bM fun _ _ _ S=>?_;refine eH S rfl (rfl) (wp_skip (bM ?_));clear S;intro _ _ _ S;refine eH S rfl (rfl) (wp_skip (bM ?_));clear S;intro _ _ _ S;(refine aj S (pc (n1)) fun _ _ _ S=>?_);refine bM fun _ _ _ S=>?_;(refine aj S (pc (n2)) fun _ _ _ S=>?_);refine bM fun _ _ _ S=>?_;refine wp_seq (wp_block (bM ?_));clear S;intro _ _ _ S;(refine aj S (pc (s1)) fun _ _ _ S=>?_);refine bM fun _ _ _ S=>?_;(refine Zd S (pc s2) rfl rfl rfl rfl fun _ _ _ S=>?_);refine bM fun _ _ _ S=>?_;refine jG S rfl (rfl) (bM ?_);(refine aj S (pc (f_zof0)) fun _ _ _ S=>?_);refine bM ?_;(refine aj S (pc (Ac (n:=1) dc)) fun _ _ _ S=>?_);refine bM ?_;(refine aj S (pc (r1)) fun _ _ _ S=>?_);refine bM fun _ _ _ S=>?_;exact wp_ret (gq [_,_] S rfl rfl ⟨⟨_,_,_,rfl,rfl,rfl⟩,rfl,trivial⟩)
  ·have kw:w<0:=om;have E:z<0:=by
    rcases(by omega:z<0∨0≤z)with h|h
    ·exact h
    ·exfalso;have h3:0≤z*(y:Int):=Int.mul_nonneg h om;have h4:w*(x:Int)<0:=Int.mul_neg_of_neg_of_pos kw om;omega
   have j:=DR E kw T Q U ce l;have bt:=f_btw (y+x) w.natAbs y z.natAbs x m j (aY _) hm u G be bz Y;obtain⟨p1,p2,p3,p4,_⟩:=tu (y+x) w.natAbs y z.natAbs x j (aY _);rw[show FQ z x w y=(-((uw (y+x) w.natAbs y z.natAbs x).1:Int),(uw (y+x) w.natAbs y z.natAbs x).2)from by unfold FQ;rw[ah om,au kw]];generalize uw (y+x) w.natAbs y z.natAbs x=r at*
   have L:=zk (fD w) (af _) (bK (aA G) om);rw[show-w=((w.natAbs:Nat):Int)from om,EU]at L;have zz:=zk (fD z) (af _) (bK (aA bz) om);rw[show-z=((z.natAbs:Nat):Int)from om,EU]at zz;have zr:=zk (Jd r.1) (af _) (bK (aA (show r.1<B^m by omega)) om);have I:gp z≤0:=by rw[P];exact k1
   have Z:¬0≤gp w:=by rw[O];exact k2
   have H:gp w<0:=by rw[g3];exact kw
   generalize gp z=M at*
   generalize gp w=N at*
   dsimp only;generalize -((r.1:Nat):Int)=nr at*
   generalize r.1=r1 at*
   generalize r.2=r2 at*
   refine dV Tryz.func20 (code:=qf Tryz.f20) rfl rfl fun w ac S=>?_
   refine bM fun _ _ _ S=>?_;(refine aj S (pf (d:= .t [.k (.int .i64 c),e0]) F) fun _ _ _ S=>?_);refine bM fun _ _ _ S=>?_;refine eH S rfl (rfl) (wp_skip (bM ?_));clear S;intro _ _ _ S;refine eH S rfl (rfl) (wp_skip (bM ?_));clear S;intro _ _ _ S;(refine aj S (pc (n1)) fun _ _ _ S=>?_);refine bM fun _ _ _ S=>?_;(refine aj S (pc (n2)) fun _ _ _ S=>?_);refine bM fun _ _ _ S=>?_;refine wp_seq (wp_block (bM ?_));clear S;intro _ _ _ S;(refine aj S (pc (s1)) fun _ _ _ S=>?_);refine bM fun _ _ _ S=>?_;(refine Zd S (pc s2) rfl rfl rfl rfl fun _ _ _ S=>?_);refine bM fun _ _ _ S=>?_;refine eH S rfl (rfl) (bM ?_);clear S;intro _ _ _ S;(refine aj S (pc (s2)) fun _ _ _ S=>?_);refine bM fun _ _ _ S=>?_;refine jG S rfl (rfl) (bM ?_);clear S;intro _ _ _ S;(refine wp_seq (gU 7 [_,_,_,_,_,_,_] [_,_,_,_,_,_,_] [[(2,none)],[(53,some 0)],[(54,some 1)],[(3,none)],[(56,some 3)],[(57,some 4)],[(2,none)]] rfl S aN kf kf kf ⟨px,px,pc (L),px,px,pc (zz),px,trivial⟩ ?_);clear S;intro _ _ _ S);(refine DZ S rfl rfl rfl kf rfl rfl ?_;clear S;intro _ _ S);refine bM fun _ _ _ S=>?_;(refine DZ S rfl rfl rfl kf rfl rfl ?_;clear S;intro _ _ S);refine bM fun _ _ _ S=>?_;(refine aj S (pc (bt)) fun _ _ _ S=>?_);refine bM fun _ _ _ S=>?_;(refine aj S (pc (zr)) fun _ _ _ S=>?_);refine bM fun _ _ _ S=>?_;(refine DZ S rfl rfl rfl kf rfl rfl ?_;clear S;intro _ _ S);refine bM fun _ _ _ S=>?_;exact wp_ret (gq [_,_] S rfl rfl ⟨⟨_,_,_,rfl,rfl,rfl⟩,rfl,trivial⟩)
 ·have E:0<z:=om;have kw:0<w:=by
   rcases(by omega:0<w∨w≤0)with h|h
   ·exact h
   ·exfalso;have h3:0<z*(y:Int):=Int.mul_pos E om;have h4:w*(x:Int)≤0:=GN h om;omega
  have j:=zX E kw T Q U ce l;have bt:=f_btw (x+y) z.natAbs x w.natAbs y m j (aY _) hm u bz Y G be;rw[show FQ z x w y=(((uw (x+y) z.natAbs x w.natAbs y).1:Int),(uw (x+y) z.natAbs x w.natAbs y).2)from by unfold FQ;rw[ah om,ah om]];generalize uw (x+y) z.natAbs x w.natAbs y=r at*
  dsimp only;rw[CG];obtain⟨A,rfl⟩:∃A:Nat,z=(A:Int):=⟨z.natAbs,om⟩;obtain⟨w',rfl⟩:∃w':Nat,w=(w':Int):=⟨w.natAbs,om⟩;rw[CG]at n1 n2;rw[vS]at s1 s2 bt;rw[vS]at bt;rw[show decide ((A:Int)<0)=false from aZ om]at s1;rw[show decide ((w':Int)<0)=false from aZ om]at s2;have I:¬gp (A:Int)≤0:=by rw[Ih];omega
  have H:¬gp (w':Int)<0:=by rw[zU];omega
  generalize gp (A:Int)=M at*
  generalize gp (w':Int)=N at*
  generalize r.1=r1 at*
  generalize r.2=r2 at*
  refine dV Tryz.func20 (code:=qf Tryz.f20) rfl rfl fun w ac S=>?_
  refine bM fun _ _ _ S=>?_;(refine aj S (pf (d:= .t [.k (.int .i64 c),e0]) F) fun _ _ _ S=>?_);refine bM fun _ _ _ S=>?_;refine eH S rfl (rfl) (wp_skip (bM ?_));clear S;intro _ _ _ S;refine eH S rfl (rfl) (wp_skip (bM ?_));clear S;intro _ _ _ S;(refine aj S (pc (n1)) fun _ _ _ S=>?_);refine bM fun _ _ _ S=>?_;(refine aj S (pc (n2)) fun _ _ _ S=>?_);refine bM fun _ _ _ S=>?_;refine wp_seq (wp_block (bM ?_));clear S;intro _ _ _ S;(refine aj S (pc (s1)) fun _ _ _ S=>?_);refine bM fun _ _ _ S=>?_;refine eH S rfl (rfl) (bM ?_);clear S;intro _ _ _ S;(refine aj S (pc (s2)) fun _ _ _ S=>?_);refine bM fun _ _ _ S=>?_;refine eH S rfl (rfl) (wp_skip (bM ?_));clear S;intro _ _ _ S;(refine aj S (pc (bt)) fun _ _ _ S=>?_);refine bM fun _ _ _ S=>?_;exact wp_ret (gq [_,_] S rfl rfl ⟨⟨_,_,_,rfl,rfl,rfl⟩,rfl,trivial⟩)
theorem x_simp(hm:m≤1100000)(ha:Wd a)(hb:Wd b)(hd:Wd d)(he:Wd e)(la:a.length≤m)(lb:b.length≤m)(ld:d.length≤m)(le:e.length≤m)(h0:nv B d*nv B e=0):Fn 20 [qD s a d,qD t b e] (.t [zO,e1]):=by
 have c:=vJ s t a b d e m om ha hb hd he la lb ld le;rw[au h0,h0,kS]at c;refine dV Tryz.func20 (code:=qf Tryz.f20) rfl rfl fun w ac S=>?_
 refine bM fun _ _ _ S=>?_;(refine aj S (pf (d:= .t [e0,e1]) c) fun _ _ _ S=>?_);refine bM fun _ _ _ S=>?_;refine jG S rfl (rfl) (VW ?_);clear S;intro _ _ _ S;exact wp_ret (gq [] S rfl rfl ⟨⟨_,_,_,rfl,rfl,rfl⟩,rfl,trivial⟩)
theorem x_simp7(hm:m≤1100000)(ha:Wd a)(hb:Wd b)(hd:Wd d)(he:Wd e)(la:a.length≤m)(lb:b.length≤m)(ld:d.length≤m)(le:e.length≤m)(h0:nv B d*nv B e≠0)(f:zv t b*(nv B d:Int)<zv s a*(nv B e:Int)):Fn 20 [qD s a d,qD t b e] (.t [zO,.k (.int .i64 7)]):=by
 have g:=vJ s t a b d e m om ha hb hd he la lb ld le;rw[ah h0,ja h0]at g;have j:0<cz (zv s a*(nv B e:Int)) (zv t b*(nv B d:Int)):=by rw[Ii];exact f
 generalize cz (zv s a*(nv B e:Int)) (zv t b*(nv B d:Int))=c at*
 refine dV Tryz.func20 (code:=qf Tryz.f20) rfl rfl fun w ac S=>?_
 refine bM fun _ _ _ S=>?_;(refine aj S (pf (d:= .t [.k (.int .i64 c),e0]) g) fun _ _ _ S=>?_);refine bM fun _ _ _ S=>?_;refine eH S rfl (rfl) (wp_skip (bM ?_));clear S;intro _ _ _ S;refine jG S rfl (rfl) (VW ?_);clear S;intro _ _ _ S;exact wp_ret (gq [] S rfl rfl ⟨⟨_,_,_,rfl,rfl,rfl⟩,rfl,trivial⟩)
end
section
section
variable {w0 w w':World} {γ:Gh} {N i c:Nat} {R:Nat→Option Δ} {Bx:Bs} {F:Nat→Prop} {P:Program}
variable {dst:Option Tmp} {x:Operand} {ty t:TypeId} {p:String} {e:Array Edge} {gd:Option (Nat×Bool)} {q k:Nat}
variable{f:FuncId}
theorem ok_cw{s:Nat}{A7:Array TypeId}{u y:Value}(h:∀w,Below w0.heap.size w0 w→Calls Tryz.prog f #[u] w (fun e w'=>e= .returned y∧Below w.heap.size w w'))(g:R s=some (.k u))(j:Jb Tryz.prog f=true):Ok Tryz.prog w0 N ⟨dst,.call ⟨.value (.func f),#[.tmp s],A7⟩,t,p,e,gd⟩ i R Bx (.k y) none:=⟨fun Q γ a w F K _ c z m A hK=>by
 have e1:a.eval (.tmp s)=u:=m s _ g;have l:=h w c.bel;unfold Oper.wp;rw[pG j,Oper.upon_enter];simp only[dI,fJ,e1];refine l.mono ?_;rintro e w' ⟨rfl,hb⟩;exact hK γ _ w' (.of hb) hb ((c.Tu (below_le c hb)).sub fun _ h=>h.1) rfl fun b h=>by cases h⟩
theorem ok_b1{y:Operand}{d:Δ}(j:lX R y d)(h2:d.w=true):Ok Tryz.prog w0 N ⟨dst,.build 27 #[(1,y)],t,p,e,gd⟩ i R Bx (.g [.k (.bool false),.k (.slice none 0 0),d]) none:=
 JL fun γ w a l=>by
  have q2:=Y4 (j.ev l) h2;obtain⟨f,n2,c2,c⟩:=q2.L_ h2;refine⟨#[.bool false,.slice none 0 0,.slice f n2 c2],?_,[.bool false,.slice none 0 0,.slice f n2 c2],rfl,rfl,rfl,c▸q2,trivial⟩;simp only[List.map_toArray,dI,fJ,c];kernel_rfl
theorem CJ(a:Wi w0 γ w F){v:Value}{A:List Nat}(h:Rep0 w0 (fun q=>q<w0.heap.size) v (.l 1 (W A))):s0 w0 γ w (.rd A) v:=
 ⟨fun q=>q<w0.heap.size,fun q hq=>⟨eu hq a.bel.size,fun i c=>by have:=(a.bn i q c).1;omega⟩,h.mono (fun _ h=>h) fun q hq=>a.bel.block q hq⟩
theorem l0.set:∀{ds:List Δ} {xs:List Value} {o:Nat} {d:Δ} {v:Value},l0 w0 γ w ds xs→s0 w0 γ w d v→l0 w0 γ w (ds.set o d) (xs.set o v)
 |[],[],_,_,_,h,_=>h
 |_::_,_::_,0,_,_,h,a=>⟨a,h.2⟩
 |_::_,_::_,_+1,_,_,h,a=>⟨h.1,l0.set h.2 a⟩
 |[],_::_,_,_,_,h,_=>h.elim
 |_::_,[],_,_,_,h,_=>h.elim
theorem IP{fn:Func}{code:Code}{ds:List Δ}{vs:List Value}{Q:Ending→World→Prop}(c:Jw w)(h:l1 w g0 w ds vs)(l:Tryz.prog.funcs[f]? =some fn)(hb:fn.body=some code)(g:Nat.ble ds.length fn.ntmps=true)(k:∀a:Act,PS w fn.ntmps 0 ((ds.zipIdx).map (fun p=>(p.2,p.1))) [] g0 a w→code.wp Tryz.prog (bodyPost Tryz.prog fn Q) a w):Calls Tryz.prog f vs.toArray w Q:=by
 have hl:=h.len;refine zY l hb (by rw[hl];exact qY g) fun a z e m=>?_
 refine k a ⟨Y6 c,z,m,fun t d ht=>?_,fun i b h=>by cases h⟩;have:=Y5 (E:=[]) (k:=0) h (fun j c=>by rw[eY];exact e j c) (fun t d h=>by cases h) t d (by rw[qF];exact ht);exact this
end
theorem PS.nb{w0 w:World}{γ:Gh}{N c:Nat}{E:En}{Bx:Bs}{a:Act}(S:PS w0 N c E Bx γ a w)(j k:Nat){bt:TypeId}{ds:List Δ}(hb:lk Bx j=some (bt,ds))(z:ds[k]? =some (.k (.slice none 0 0))):PS w0 N (c+1) E ((j,bt,ds.set k (.ow [] (4*c)))::Bx) (γ.cal c fun _=>some none) a w:=by
 obtain⟨A,hz,hd,C,l⟩:=S.nl0;refine⟨A,hz,hd,C,fun i b g=>?_⟩;rcases dK g with ⟨rfl,rfl⟩|⟨_,g⟩
 ·obtain⟨q,xs,G,F,u⟩:=l _ _ hb;obtain⟨x,f,y⟩:=u.get z;have e:x= .slice none 0 0:=y;subst e;have m:=u.set (o:=k) (d:= .ow [] (4*c)) (v:= .slice none 0 0) ⟨Own.nil _ _,by show(if 4*c≤4*c∧4*c<4*c+4 then some none else γ.κ (4*c))=_;rw[au ⟨aY _,om⟩];rfl⟩;rw[show xs.set k (.slice none 0 0)=xs from by
   apply List.ext_getElem?;intro n;rw[List.getElem?_set];split
   ·rename_i h;subst h;split
    ·exact f.symm
    ·rename_i h;rw[ng om]at f;cases f
   ·rfl]at m
  exact⟨q,xs,G,F,m⟩
 ·exact l i b g
theorem RC_at(l:List (Bool×List Nat×List Nat))(i:Nat)(c:i<l.length):(RC l)[i*3]? =some (.b (l.getD i iP).1)∧(RC l)[i*3+1]? =some (.l 1 (W (l.getD i iP).2.1))∧(RC l)[i*3+2]? =some (.l 1 (W (l.getD i iP).2.2)):=by
 have h:=xA l i c;have g:∀j,j<3→(RC l)[i*3+j]? =[V.b (l.getD i iP).1,.l 1 (W (l.getD i iP).2.1),.l 1 (W (l.getD i iP).2.2)][j]? :=fun j a=>by
  rw[←h,ou,au a,uB]
 exact⟨g 0 dc,g 1 dc,g 2 dc⟩
variable{H:Nat→Prop}{lv:Value}{l:List (Bool×List Nat×List Nat)}
theorem rc_at{w:World}(h:Rep0 w H lv (.l 3 (RC l)))(E:∀q,H q→q<w.heap.size)(i:Nat)(C:i<l.length):∃b o m x y,lv= .slice (some ⟨b,o,none⟩) l.length m∧b<w.heap.size∧(∀j u,[Value.bool (l.getD i iP).1,x,y][j]? =some u→w.cell? ⟨b,o+i*3+j,none⟩=some u)∧Rep0 w H x (.l 1 (W (l.getD i iP).2.1))∧Rep0 w H y (.l 1 (W (l.getD i iP).2.2)):=by
 obtain⟨a,n,cap,f,b,o,rfl,_,hl,_,_,ha,z,g⟩:=(Rep.up (ov:=fun _=>none) h).vV;rw[qh]at hl;obtain rfl:n=l.length:=om;rcases ha with ha|⟨rfl,hb⟩
 ·have:=congrArg List.length ha;rw[qh]at this;simp at this;omega
 obtain⟨g0,G,F⟩:=RC_at l i C;have r0:=(Rep.up (ov:=fun _=>none) (g _ _ g0)).qH;refine⟨b,o,cap,f (i*3+1),f (i*3+2),rfl,E b hb,fun j u c=>?_,g _ _ G,g _ _ F⟩;have hlen:=qh l;match j,c with
 |0,c=>cases c;rw[ik,z _ om,r0]
 |1,c=>cases c;rw[tY,z _ om]
 |2,c=>cases c;rw[tY,z _ om]
theorem sum_raw{w:World}(I:Jw w)(u:∀q,H q→q<w.heap.size)(A:Rep0 w H lv (.l 3 (RC l)))(Z:l.length≤30)(h:LOk l)(C:ce l=0):Calls Tryz.prog 58 #[lv] w (Ans w (.t [qO (kK l l.length).1 (kK l l.length).2 0 1,e0])):=by
 have j:=yQ l om fun p G=>⟨(h p G).2.1,by have:=(h p G).2.2.2;omega⟩
 rw[C]at j;refine IP (ds:=[.k lv]) (vs:=[lv]) (code:=qf Tryz.f58) I ⟨rfl,trivial⟩ Tryz.func58 rfl rfl fun ac S=>?_
 refine bM fun _ _ _ S=>?_;(refine aj S (ok_cw (fun w' hb=>Io (vs:=[lv]) j (TO.up I hb) (fun q hq=>eu (u q hq) hb.size) (rp1 (A.mono (fun _ h=>h) fun q hq=>hb.block q (u q hq)))) rfl kf) fun _ _ _ S=>?_);refine bM fun _ _ _ S=>?_;refine eH S rfl (rfl) (wp_skip (bM ?_));(refine aj S (pc (Ac (n:=1) dc)) fun _ _ _ S=>?_);refine bM ?_;(refine aj S (ok_b1 rfl rfl) fun _ _ _ S=>?_);refine bM fun _ _ _ S=>?_;have hlen:(RC l).length=l.length*3:=qh l;obtain⟨z,g,E⟩:∃z g,lv= .slice z l.length g:=by
  obtain⟨a,n,cap,f,b,o,rfl,_,hl,_⟩:=(Rep.up (ov:=fun _=>none) A).vV;rw[qh]at hl;obtain rfl:n=l.length:=om;exact⟨a,cap,rfl⟩
 subst E;(refine aj S (ok_lk rfl kf) fun _ _ _ S=>?_);refine bM fun _ _ _ S=>?_;refine wp_block ?_;obtain⟨γ1,S1⟩:=(S.nb (S.tg 5) 1 rfl rfl).tb 2 [_,_] [S.tg 2,S.tg 5] [(2,.p 0 0),(5,.p 1 0),(16,.k (.slice z l.length g)),(17,.k (.int .i64 (l.length:Int))),(18,.k (.int .i64 ((0:Nat):Int)))] [(0,27,[.k (.bool false),.k (.slice none 0 0),.k (.slice none 0 0)]),(1,27,[.k (.bool false),.ow [] 0,.ow (dg B 1) 1])] tv ⟨rfl,rfl,trivial⟩;refine oD (fun n a w'=>∃(i:Nat) (γ:Gh),i+n=l.length∧PS w 30 2 [(2,.p 0 0),(5,.p 1 0),(16,.k (.slice z l.length g)),(17,.k (.int .i64 (l.length:Int))),(18,.k (.int .i64 (i:Int)))] [(0,27,[.k (.bool false),.k (.slice none 0 0),.k (.slice none 0 0)]),(1,27,[.k (.bool (decide ((kK l i).1<0))),.ow (dg B (kK l i).1.natAbs) 0,.ow (dg B (kK l i).2) 1])] γ a w') l.length ⟨0,γ1,om,S1⟩ ?_;rintro n a1 w1 ⟨i,γ2,hi,S⟩;clear S1 γ1;by_cases c:i<l.length
 ·(repeat (first|(show wpList _ _ _ (_::_) _ _;refine bQ S uI fun _ _ _ S=>?_)|refine ET ?_|refine Zf ?_|refine h_ ?_));refine wp_seq ?_;refine jG S rfl (rfl) ?_;refine wp_skip ?_;refine wp_seq (wp_block ?_);obtain⟨b,o,m,x,y,e,hb,hcell,N,M⟩:=rc_at A u i c;cases e;obtain⟨L,wd,la,ld⟩:=h _ (getD_mem c);obtain⟨Q,P,O⟩:=KW h C i om;have z1:(13*i+1:Nat)≤400:=om;have ha:=IL (m:=400) dc (fD (kK l i).1) rfl (ae (kK l i).2) rfl (af _) L (af _) wd (bK (aA Q) z1) om (bK (aA P) z1) om O (ce_0 C c) (s:=decide ((kK l i).1<0)) (t:=(l.getD i iP).1);refine bM ?_;(refine aj S (Og (s:=3) rfl rfl kf ⟨om,om⟩) fun _ _ _ S=>?_);(refine aj S (ok_lr (ds:=[.k (.bool (l.getD i iP).1),.rd (l.getD i iP).2.1,.rd (l.getD i iP).2.2]) rfl ⟨hb,hcell⟩ rfl kf kf (fun γ U F J=>⟨rfl,CJ J (N.mono u fun _ _=>rfl),CJ J (M.mono u fun _ _=>rfl),trivial⟩)) fun _ _ _ S=>?_);refine bM fun _ _ _ S=>?_;refine wp_region_lit (bM ?_);clear S;intro _ _ _ S;(refine aj S (pc (ha)) fun _ _ _ S=>?_);refine bM fun _ _ _ S=>?_;refine wp_region_lit (bM ?_);clear S;intro _ _ _ S;have es:kK l (i+1)=(rz ((kK l i).1*(nv B (l.getD i iP).2.2:Int)+zv (l.getD i iP).1 (l.getD i iP).2.1*((kK l i).2:Int)) ((kK l i).2*nv B (l.getD i iP).2.2),aH ((kK l i).1*(nv B (l.getD i iP).2.2:Int)+zv (l.getD i iP).1 (l.getD i iP).2.1*((kK l i).2:Int)) ((kK l i).2*nv B (l.getD i iP).2.2)):=rfl;have:=congrArg Prod.fst es;refine⟨n-1,om,i+1,?_⟩;rw[es];obtain⟨γ3,T⟩:=S.tb 2 [_,_] [S.tg 2,S.tg 5] [(2,.p 0 0),(5,.p 1 0),(16,.k (.slice (some ⟨b,o,none⟩) l.length g)),(17,.k (.int .i64 (l.length:Int))),(18,.k (.int .i64 ((i+1:Nat):Int)))] [(0,_,[.k (.bool false),.k (.slice none 0 0),.k (.slice none 0 0)]),(1,_,[.k (.bool (decide (rz ((kK l i).1*(nv B (l.getD i iP).2.2:Int)+zv (l.getD i iP).1 (l.getD i iP).2.1*((kK l i).2:Int)) ((kK l i).2*nv B (l.getD i iP).2.2)<0))),.ow _ 0,.ow _ 1])] tv ⟨rfl,rfl,trivial⟩;exact⟨γ3,om,T⟩
 ·(repeat (first|(show wpList _ _ _ (_::_) _ _;refine bQ S uI fun _ _ _ S=>?_)|refine ET ?_|refine Zf ?_|refine h_ ?_));refine wp_seq ?_;refine eH S rfl (rfl) ?_;refine wp_exit (bM ?_);clear S;intro _ _ _ S;obtain rfl:i=l.length:=om;exact wp_ret (gq [_,_] S rfl rfl ⟨⟨_,_,_,rfl,rfl,rfl⟩,rfl,trivial⟩)
theorem x_sum{w:World}(f:Jw w)(g:∀q,H q→q<w.heap.size)(j:Rep0 w H lv (.l 3 (RC l)))(u:l.length≤30)(h:LOk l)(m:ce l=1):Calls Tryz.prog 58 #[lv] w (Ans w (.t [zO,e1])):=by
 have a:=yQ l om fun p c=>⟨(h p c).2.1,by have:=(h p c).2.2.2;omega⟩
 rw[m]at a;refine IP (ds:=[.k lv]) (vs:=[lv]) (code:=qf Tryz.f58) f ⟨rfl,trivial⟩ Tryz.func58 rfl rfl fun ac S=>?_
 refine bM fun _ _ _ S=>?_;(refine aj S (ok_cw (fun w' hb=>Io (vs:=[lv]) a (TO.up f hb) (fun q hq=>eu (g q hq) hb.size) (rp1 (j.mono (fun _ h=>h) fun q hq=>hb.block q (g q hq)))) rfl kf) fun _ _ _ S=>?_);refine bM fun _ _ _ S=>?_;refine jG S rfl (rfl) (VW ?_);clear S;intro _ _ _ S;exact wp_ret (gq [] S rfl rfl ⟨⟨_,_,_,rfl,rfl,rfl⟩,rfl,trivial⟩)
end
section
theorem oO{w:World}{B F e m k A n z:Nat}{v j:Value}{xs c:List Value}(h:w.ownsRow B e k v n xs)(E:w.ownsRow F m A j z c)(f:e≠m){q:Nat}(hq:v.ownBlock=some q):j.ownBlock≠some q:=fun a=>by
 rcases h.2 with ⟨rfl,_⟩|⟨g,cap,cur,rfl,_,C,_⟩
 ·cases hq
 ·rcases E.2 with ⟨rfl,_⟩|⟨G,y,u,rfl,_,l,_⟩
  ·cases a
  ·cases hq;cases a;rw[C]at l;cases l;exact f rfl
theorem QR{w:World}{H:Nat→Prop}{ov:Nat→Option Value}(a:Nat→Value):∀(l:List (Nat×V)),(∀p,p∈l→Rep w H ov (a p.1) p.2)→∀t,Rep w H ov (a t) (Ab.lk l t)
 |[],_,t=> .any _
 |(k,v)::r,h,t=>by
  unfold Ab.lk;split
  ·rename_i e;subst e;exact h (k,v) (.head _)
  ·exact QR a r (fun p c=>h p (.tail _ c)) t
variable{H:Nat→Prop}{ni nm:Nat}{Rv Iv Mv:List Value}
theorem c_of{w:World}{L xs:List Value}(h:aB w H xs (L.map V.c)):xs=L:=by
 have hl:xs.length=L.length:=by rw[h.1,iJ]
 refine List.ext_getElem? fun j=>?_
 rcases dW j L.length with a|a
 ·have g:xs[j]? =some xs[j]:=bC om;have f:=h.2 j _ (.c L[j]) g (by simp[a]);rw[g,bC a];generalize xs[j]=v at f;cases f;rfl
 ·rw[ng om,ng a]
structure Sd(w:World)(b:Nat)(vr vi vm:Value)(nr ni nm:Nat)(Rv Iv Mv:List Value):Prop where
 box:∃cap,w.ownsRow 0 41 3 (.slice (some ⟨b,0,none⟩) 1 cap) 1 [vr,vi,vm]
 rr:w.ownsRow 0 27 3 vr nr Rv
 ri:w.ownsRow 0 25 2 vi ni Iv
 rm:w.ownsRow 0 3 1 vm nm Mv
def Sq(b:Nat)(vr vi vm:Value)(q:Nat):Prop:=q=b∨vr.ownBlock=some q∨vi.ownBlock=some q∨vm.ownBlock=some q
section
variable {w w':World} {b nr ni nm:Nat} {vr vi vm:Value} {Rv Iv Mv:List Value}
theorem Sd.lt(h:Sd w b vr vi vm nr ni nm Rv Iv Mv):∀q,Sq b vr vi vm q→q<w.heap.size:=fun q hq=>by
 rcases hq with rfl|hq|hq|hq
 ·obtain⟨cap,a⟩:=h.box;exact(a.lt q rfl).2
 ·exact(h.rr.lt q hq).2
 ·exact(h.ri.lt q hq).2
 ·exact(h.rm.lt q hq).2
theorem Sd.keep(h:Sd w b vr vi vm nr ni nm Rv Iv Mv)(hb:∀q,Sq b vr vi vm q→w'.heap[q]? =w.heap[q]?):Sd w' b vr vi vm nr ni nm Rv Iv Mv:=
 ⟨by obtain⟨cap,a⟩:=h.box;exact⟨cap,bJ a fun q hq=>by cases hq;exact hb b (.inl rfl)⟩,bJ h.rr fun q hq=>hb q (.inr (.inl hq)),bJ h.ri fun q hq=>hb q (.inr (.inr (.inl hq))),bJ h.rm fun q hq=>hb q (.inr (.inr (.inr hq)))⟩
theorem Sd.below(h:Sd w b vr vi vm nr ni nm Rv Iv Mv)(hb:Below w.heap.size w w'):Sd w' b vr vi vm nr ni nm Rv Iv Mv:=h.keep fun q hq=>hb.block q (h.lt q hq)
end
def sO(nr ni nm:Nat)(rs is ms:List V):List (Nat×Option Ob):=[(0,some ⟨41,3,[.ow 3 1 nr,.ow 2 2 ni,.ow 1 3 nm],true,true⟩),(1,some ⟨27,3,rs,true,false⟩),(2,some ⟨25,2,is,true,false⟩),(3,some ⟨3,1,ms,true,false⟩)]
variable{rs is ms:List V}
theorem QS{nr:Nat}{i:Nat}{o:Ob}(h:lo (sO nr ni nm rs is ms) i=some o):i<4:=by
 simp only[sO,lo]at h;split at h
 ·omega
 ·split at h
  ·omega
  ·split at h
   ·omega
   ·split at h
    ·omega
    ·cases h
def sOv(b cap:Nat)(vr vi vm:Value)(i:Nat):Option Value:=match i with
 |0=>some (.slice (some ⟨b,0,none⟩) 1 cap)
 |1=>some vr
 |2=>some vi
 |3=>some vm
 |_=>none
theorem Sd.mem{w:World}{ks:List (Nat×Value)}{b nr:Nat}{vr vi vm:Value}(h:Sd w b vr vi vm nr ni nm Rv Iv Mv)(hT:TJ w H)(A:∀q,H q→q<w.heap.size)(z:∀q,Sq b vr vi vm q→¬H q)
 (hl:aB w H Rv rs) (O:aB w H Iv is) (J:aB w H Mv ms) (cl:∀x,x∈rs→x.cell=true) (Q:∀x,x∈is→x.cell=true) (P:∀x,x∈ms→x.cell=true) (E:nr≤1000000) (F:ni≤1000000) (mu:nm≤1000000):
 ∃cap,Mem w ⟨H,Sq b vr vi vm,ks⟩ w H (sOv b cap vr vi vm) (lo (sO nr ni nm rs is ms)):=by
 obtain⟨cap,hbox⟩:=h.box
 refine⟨cap,?_⟩
 have mx:∀n:Nat,n≤1000000→n≤maxLen:=fun n h=>by unfold maxLen;omega
 have bl:=xE h.rr
 have u:=xE h.ri
 have m:=xE h.rm
 have x1:vr.ownBlock≠some b:=oO hbox h.rr dc rfl
 have x2:vi.ownBlock≠some b:=oO hbox h.ri dc rfl
 have x3:vm.ownBlock≠some b:=oO hbox h.rm dc rfl
 refine⟨bT.refl _ _,hT,A,fun b h _=> .inl h,fun id o y=>?_,fun i j Y U I T q f N M c a hb=>?_⟩
 ·have L:=QS y;match id,L with
  |0,_=>
   cases y;refine⟨_,rfl,fun x G=> .inr ⟨rfl,?_⟩,fun q hq=>(by cases hq;exact .inr (.inl rfl)),fun q hq=>(by cases hq;exact⟨fun C=>absurd C (z b (.inl rfl)),fun C=>by cases C⟩),.inl ⟨rfl,.inr ⟨by show 0<3;decide,1,_,hbox,⟨rfl,fun j v x l g=>?_⟩,by unfold maxLen;omega⟩⟩⟩
   ·simp only[dZ,og,or_false]at G;rcases G with rfl|rfl|rfl<;>rfl
   ·match j,l,g with
    |0,l,g=>cases l;cases g;exact uF h.rr (mx _ E) rfl
    |1,l,g=>cases l;cases g;exact uF h.ri (mx _ F) rfl
    |2,l,g=>cases l;cases g;exact uF h.rm (mx _ mu) rfl
  |1,_=>cases y;exact⟨_,rfl,ji.row h.rr dc hl cl (mx _ E) (fun q hq=>z q (.inr (.inl (bl▸hq)))) (fun q hq=> .inr (.inr (.inl (bl▸hq)))) _⟩
  |2,_=>cases y;exact⟨_,rfl,ji.row h.ri dc O Q (mx _ F) (fun q hq=>z q (.inr (.inr (.inl (u▸hq))))) (fun q hq=> .inr (.inr (.inr (.inl (u▸hq))))) _⟩
  |3,_=>cases y;exact⟨_,rfl,ji.row h.rm dc J P (mx _ mu) (fun q hq=>z q (.inr (.inr (.inr (m▸hq))))) (fun q hq=> .inr (.inr (.inr (.inr (m▸hq))))) _⟩
 ·have l:=QS N;have g:=QS M;match i,j,l,g with
  |0,0,_,_=>exact absurd rfl f
  |1,1,_,_=>exact absurd rfl f
  |2,2,_,_=>exact absurd rfl f
  |3,3,_,_=>exact absurd rfl f
  |0,1,_,_=>cases c;cases a;cases hb;rw[bl];exact x1
  |0,2,_,_=>cases c;cases a;cases hb;rw[u];exact x2
  |0,3,_,_=>cases c;cases a;cases hb;rw[m];exact x3
  |1,0,_,_=>cases c;cases a;rw[bl]at hb;intro e;cases e;exact x1 hb
  |2,0,_,_=>cases c;cases a;rw[u]at hb;intro e;cases e;exact x2 hb
  |3,0,_,_=>cases c;cases a;rw[m]at hb;intro e;cases e;exact x3 hb
  |1,2,_,_=>cases c;cases a;rw[bl]at hb;rw[u];exact oO h.rr h.ri dc hb
  |1,3,_,_=>cases c;cases a;rw[bl]at hb;rw[m];exact oO h.rr h.rm dc hb
  |2,1,_,_=>cases c;cases a;rw[u]at hb;rw[bl];exact oO h.ri h.rr dc hb
  |2,3,_,_=>cases c;cases a;rw[u]at hb;rw[m];exact oO h.ri h.rm dc hb
  |3,1,_,_=>cases c;cases a;rw[m]at hb;rw[bl];exact oO h.rm h.rr dc hb
  |3,2,_,_=>cases c;cases a;rw[m]at hb;rw[u];exact oO h.rm h.ri dc hb
theorem Sd.of{w0 w:World}{H0:HS}{ov:Nat→Option Value}{N:Nat}{a:Act}{s:Ab.St}{b nr O M J:Nat}(Y:Conc w0 H0 w H ov N a s)(k0:a.tmps.getD 0 undef= .pointer (some ⟨b,0,none⟩))(g0:s.get 0= .pt 0 0)
 (o0:s.ob 0=some ⟨41,3,[.ow 3 O nr,.ow 2 M ni,.ow 1 J nm],true,true⟩) (o1:s.ob O=some ⟨27,3,Rv.map V.c,true,false⟩) (o2:s.ob M=some ⟨25,2,Iv.map V.c,true,false⟩) (o3:s.ob J=some ⟨3,1,Mv.map V.c,true,false⟩):
 ∃vr vi vm,Sd w b vr vi vm nr ni nm Rv Iv Mv∧∀q,Sq b vr vi vm q→¬H q∧(w0.heap.size≤q∨H0.e q):=by
 have he:=Y.env 0
 rw[k0,g0]at he
 obtain⟨b',u,eb,hu,m⟩:=he.uD
 cases eb
 obtain⟨u',I,A⟩:=Y.mem.obj 0 _ o0
 rw[hu]at I;cases I
 obtain⟨vl,F,E,Z,f⟩:∃vl F E,(∃cap,w.ownsRow 0 41 3 (.slice (some ⟨b,0,none⟩) 1 cap) 1 [vl,F,E])∧ug w H ov [vl,F,E] [.ow 3 O nr,.ow 2 M ni,.ow 1 J nm]:=by
  have three:∀l:List Value,l.length=3→∃x y z,l=[x,y,z]:=fun l hl=>by
   match l,hl with
   |[x,y,z],_=>exact⟨x,y,z,rfl⟩
  rcases A.bd with ⟨_,⟨b2,cur,rfl,_,hh,f⟩|⟨_,n,xs,hown,f,_⟩⟩|⟨h',_⟩
  ·cases m;obtain⟨x,y,z,hl⟩:=three cur.toList f.1;rw[hl]at f;have P:cur.size=3:=by rw[←Array.length_toList,hl];rfl
   exact⟨x,y,z,⟨1,rfl,.inr ⟨_,1,cur,rfl,aG _,hh,aY _,by unfold maxLen;omega,P,by rw[hl];rfl⟩⟩,f⟩
  ·obtain⟨x,y,z,rfl⟩:=three xs f.1;have C:=hown.1;obtain rfl:n=1:=by simp at C;omega
   rcases hown.2 with ⟨h2,h3⟩|⟨g,cap,cur,rfl,h3⟩
   ·cases h3
   ·cases m;exact⟨x,y,z,⟨cap,hown⟩,f⟩
  ·cases h'
 have row:∀(v:Value) (i n e sz:Nat) (L:List Value),Rep w H ov v (.ow sz i n)→s.ob i=some ⟨e,sz,L.map V.c,true,false⟩→w.ownsRow 0 e sz v n L∧∀q,v.ownBlock=some q→¬H q∧(w0.heap.size≤q∨H0.e q):=fun v i n e sz L hv ho=>by
  obtain⟨ba,cap,e1,T,hm,hcp,ha⟩:=hv.jK;obtain⟨u2,G,j⟩:=Y.mem.obj i _ ho;rw[T]at G;cases G;rcases j.bd with ⟨h',_⟩|⟨_,_,n',xs,hown,Q,hnm⟩
  ·cases h'
  ·have hb:=xE hown;have U:n'=n:=by
    rcases hown.2 with ⟨C,h2⟩|⟨g',cap',cur',C,_⟩
    ·rw[e1]at C;cases C;exact h2
    ·rw[e1]at C;cases C;rfl
   subst U;have:=c_of Q;subst this;exact⟨hown,fun q hq=>⟨fun h=>(by have:=(j.fz q (hb▸hq)).1 h;cases this),j.ow q (hb▸hq)⟩⟩
 obtain⟨l1,l4⟩:=row vl O nr _ _ Rv (f.2 0 vl _ rfl rfl) o1
 obtain⟨f1,f4⟩:=row F M ni _ _ Iv (f.2 1 F _ rfl rfl) o2
 obtain⟨u1,u4⟩:=row E J nm _ _ Mv (f.2 2 E _ rfl rfl) o3
 refine⟨vl,F,E,⟨Z,l1,f1,u1⟩,fun q hq=>?_⟩
 rcases hq with rfl|hq|hq|hq
 ·exact⟨fun h=>(by have:=(A.fz _ m).1 h;cases this),A.ow _ m⟩
 ·exact l4 q hq
 ·exact f4 q hq
 ·exact u4 q hq
end
def QT:=an @wi<|an @aI<|an @aW @aO
def sK(nr ni nm:Nat)(rs is ms:List V)(s:Ab.St):Prop:=
 ∃i1 i2 i3,s.ob 0=some ⟨41,3,[.ow 3 i1 nr,.ow 2 i2 ni,.ow 1 i3 nm],true,true⟩∧s.ob i1=some ⟨27,3,rs,true,false⟩∧s.ob i2=some ⟨25,2,is,true,false⟩∧s.ob i3=some ⟨3,1,ms,true,false⟩∧s.get 0= .pt 0 0
noncomputable def a27:AC:=gc Tryz.prog Tryz.f27
noncomputable def a40:AC:=gc Tryz.prog Tryz.f40
noncomputable def a43:AC:=gc Tryz.prog Tryz.f43
theorem QU(nr ni nm:Nat)(rs is ms:List V)(n e:Int)(g:nr≤1000)(j:ni≤1000)(hm:nm≤1000):
 yY aT (mG Tryz.prog) a43 (fun ex s=>(ex= .normal∨ex= .ret)∧sK nr ni (nm+2) rs is (ms++[.c (.int .i64 n),.c (.int .i64 e)]) s)
  ⟨[(0,.pt 0 0),(1,.c (.int .i64 n)),(2,.c (.int .i64 e))],sO nr ni nm rs is ms,4⟩:=by
 have f:(V.c (.int .i64 n)).cell=true:=rfl
 have a:(V.c (.int .i64 e)).cell=true:=rfl
 apply gm
 unfold a43
 conv in gc _ _=>reduce
 simp only[dw,eU,sO,Int.reduceOfNat,Int.reduceNegSucc]
 refine aX (ai @a<|ai @f @QT) ?_
 exact⟨.inl trivial,_,_,_,rfl,rfl,rfl,rfl,rfl⟩
theorem ZU(nr ni nm:Nat)(rs is ms:List V)(s:Bool)(a1 a:Option Addr)(n1 n2 c1 c2:Nat)(e:Int)(l:nr≤1000)(m:ni≤1000)(hm:nm≤1000):
 yY aT (mG Tryz.prog) a27 (fun ex st=>(ex= .normal∨ex= .ret)∧sK (nr+1) ni (nm+1) (rs++[.c (.bool s),.c (.slice a1 n1 c1),.c (.slice a n2 c2)]) is (ms++[.c (.int .i64 e)]) st)
  ⟨[(0,.pt 0 0),(1,.g [.c (.bool s),.c (.slice a1 n1 c1),.c (.slice a n2 c2)]),(2,.c (.int .i64 e))],sO nr ni nm rs is ms,4⟩:=by
 have j:(V.c (.bool s)).cell=true:=rfl
 have f:(V.c (.int .i64 e)).cell=true:=rfl
 have k1:(V.c (.slice a1 n1 c1)).cell=true:=rfl
 have k2:(V.c (.slice a n2 c2)).cell=true:=rfl
 apply gm
 unfold a27
 conv in gc _ _=>reduce
 simp only[dw,eU,sO,Int.reduceOfNat,Int.reduceNegSucc]
 repeat first
  |(refine hK _ ?_;clear hK K)
  |((first|refine ay (fun K hK=>?_)|refine ax (fun K hK=>?_)|refine ak (fun K hK=>?_));simp(disch:=(first|omega|assumption)) only[S1,seval,-Int.reduceToNat,-List.reduceReplicate,aK.sb,aK.mut,aU,↓aJ,aV,aC,QT,j,k1,k2,f];refine hK _ ?_;clear hK K)
  |simp only[Sv,↓reduceIte,Nat.reduceEqDiff]
 exact⟨.inl trivial,_,_,_,rfl,rfl,rfl,rfl,rfl⟩
theorem QV(nr ni nm:Nat)(rs is ms:List V)(s:Bool)(a1:Option Addr)(n1 c1:Nat)(e:Int)(j:nr≤1000)(l:ni≤1000)(hm:nm≤1000):
 yY aT (mG Tryz.prog) a40 (fun ex st=>(ex= .normal∨ex= .ret)∧sK nr (ni+1) (nm+1) rs (is++[.c (.bool s),.c (.slice a1 n1 c1)]) (ms++[.c (.int .i64 e)]) st)
  ⟨[(0,.pt 0 0),(1,.g [.c (.bool s),.c (.slice a1 n1 c1)]),(2,.c (.int .i64 e))],sO nr ni nm rs is ms,4⟩:=by
 have f:(V.c (.bool s)).cell=true:=rfl
 have a:(V.c (.int .i64 e)).cell=true:=rfl
 have k1:(V.c (.slice a1 n1 c1)).cell=true:=rfl
 apply gm
 unfold a40
 conv in gc _ _=>reduce
 simp only[dw,eU,sO,Int.reduceOfNat,Int.reduceNegSucc]
 repeat first
  |(refine hK _ ?_;clear hK K)
  |((first|refine ay (fun K hK=>?_)|refine ax (fun K hK=>?_)|refine ak (fun K hK=>?_));simp(disch:=(first|omega|assumption)) only[S1,seval,-Int.reduceToNat,-List.reduceReplicate,aK.sb,aK.mut,aU,↓aJ,aV,aC,QT,f,k1,a];refine hK _ ?_;clear hK K)
  |simp only[Sv,↓reduceIte,Nat.reduceEqDiff]
 exact⟨.inl trivial,_,_,_,rfl,rfl,rfl,rfl,rfl⟩
section
theorem Ah{w:World}{H:Nat→Prop}(L:List Value):aB w H L (L.map V.c):=⟨sy,fun j v x f a=>by
 simp only[iU,f,kZ,fU]at a;subst a;exact .c v⟩
def SdR(w:World)(b:Nat)(vr vi vm:Value)(nr ni nm:Nat)(Rv Iv Mv:List Value)(e:Ending)(w':World):Prop:=
 e= .returned (.tuple #[])∧bT w (Sq b vr vi vm) w'∧∃vr' vi' vm',Sd w' b vr' vi' vm' nr ni nm Rv Iv Mv∧∀q,Sq b vr' vi' vm' q→Sq b vr vi vm q∨w.heap.size≤q
section
variable {w:World} {b nr ni nm:Nat} {vr vi vm:Value} {Rv Iv Mv:List Value}
theorem IQ{f:FuncId}{fn:Func}{c:Code}{A:AC}{vs:List Value}{us:List V}{j y u:Nat}{Rv' Iv' Mv':List Value}(hf:Tryz.prog.funcs[f]? =some fn)(hb:fn.body=some c)(hA:jm Tryz.prog fn.ntmps c=some A)(E:Ab.Kv 0 A=true)(hn:vs.length+1≤fn.ntmps)(hres:kR fn.results.toList=some [])
 (h:Sd w b vr vi vm nr ni nm Rv Iv Mv) (hT:TJ w (fun q=>q<w.heap.size∧¬Sq b vr vi vm q)) (mr:nr≤1000) (mi:ni≤1000) (mm:nm≤1000) (o1:∀v,v∈Rv→v.oneCell'=true) (o2:∀v,v∈Iv→v.oneCell'=true) (o3:∀v,v∈Mv→v.oneCell'=true)
 (M:∀k,k<vs.length+1→∀H ov,0<k→Rep w H ov ((Value.pointer (some ⟨b,0,none⟩)::vs).getD k undef) ((⟨(0,.pt 0 0)::(us.zipIdx 1).map (fun p=>(p.2,p.1)),sO nr ni nm (Rv.map V.c) (Iv.map V.c) (Mv.map V.c),4⟩:Ab.St).get k)) (hrest:∀k,vs.length+1≤k→(⟨(0,.pt 0 0)::(us.zipIdx 1).map (fun p=>(p.2,p.1)),sO nr ni nm (Rv.map V.c) (Iv.map V.c) (Mv.map V.c),4⟩:Ab.St).get k= .any)
 (walk:yY aT (mG Tryz.prog) A (fun ex s=>(ex= .normal∨ex= .ret)∧sK j y u (Rv'.map V.c) (Iv'.map V.c) (Mv'.map V.c) s) ⟨(0,.pt 0 0)::(us.zipIdx 1).map (fun p=>(p.2,p.1)),sO nr ni nm (Rv.map V.c) (Iv.map V.c) (Mv.map V.c),4⟩):
 Calls Tryz.prog f (Value.pointer (some ⟨b,0,none⟩)::vs).toArray w (SdR w b vr vi vm j y u Rv' Iv' Mv'):=by
 have Q:∀{L:List Value},(∀v,v∈L→v.oneCell'=true)→∀x,x∈L.map V.c→x.cell=true:=fun h x hx=>by
  obtain⟨v,hv,rfl⟩:=eG.1 hx;exact h v hv
 obtain⟨cap,hM⟩:=h.mem (H:=fun q=>q<w.heap.size∧¬Sq b vr vi vm q) (ks:=[(0,.pointer (some ⟨b,0,none⟩))]) hT (fun q h=>h.1) (fun q hq h=>h.2 hq) (Ah _) (Ah _) (Ah _) (Q o1) (Q o2) (Q o3) om om om
 have nk:IZ ⟨fun q=>q<w.heap.size∧¬Sq b vr vi vm q,Sq b vr vi vm,[(0,.pointer (some ⟨b,0,none⟩))]⟩ A:=fun m v U=>by
  simp only[dZ,Prod.mk.injEq,og,or_false]at U;rw[U.1];exact E
 refine VZ hf hb (vs:=Value.pointer (some ⟨b,0,none⟩)::vs) (by simpa using hn) (s0:=⟨(0,.pt 0 0)::(us.zipIdx 1).map (fun p=>(p.2,p.1)),sO nr ni nm (Rv.map V.c) (Iv.map V.c) (Mv.map V.c),4⟩) hM (fun m v h=>?_) (fun k E=>?_) (fun k E=>hrest k (by simpa using E)) (fun id P=>?_) (fun act mY=>?_)
 ·simp only[dZ,Prod.mk.injEq,og,or_false]at h;obtain⟨rfl,rfl⟩:=h;exact⟨sy,rfl⟩
 ·cases k with
  |zero=>exact .pt 0 0 b _ rfl rfl
  |succ k=>exact M (k+1) (by simpa using E) _ _ om
 ·match id,P with
  |k+4,_=>rfl
 refine wp_mono (nM (J:=J0) (w0:=w) (N:=fn.ntmps) aN (fun w' _=>trivial) _ A hA nk _ _ act w _ _ mY walk) fun ex T w' hq=>?_
 have last:∀(z:Ab.St) (C:Nat→Prop) (g:Nat→Option Value),sK j y u (Rv'.map V.c) (Iv'.map V.c) (Mv'.map V.c) z→Conc w ⟨fun q=>q<w.heap.size∧¬Sq b vr vi vm q,Sq b vr vi vm,[(0,.pointer (some ⟨b,0,none⟩))]⟩ w' C g fn.ntmps T z→
  T.defers=[]∧∃r,(results fn T.tmps).run Tryz.prog w'= .ok r w'∧SdR w b vr vi vm j y u Rv' Iv' Mv' (.returned r) w':=by
  rintro z C g ⟨i1,i2,i3,Z,p1,p2,Y,g0⟩ a
  obtain⟨F,I,G,hS,O⟩:=Sd.of a (a.kp 0 _ (.head _)) g0 Z p1 p2 Y
  exact⟨a.I7,_,mV hres _ _,rfl,a.mem.bel,F,I,G,hS,fun q hq=>(O q hq).2.symm⟩
 cases ex with
 |normal=>obtain⟨z,C,g,hq,a⟩:=hq;exact⟨.inl rfl,last z C g hq.2 a⟩
 |ret=>obtain⟨z,C,g,hq,a⟩:=hq;exact⟨.inr rfl,last z C g hq.2 a⟩
 |exit i=>obtain⟨z,C,g,hq,a⟩:=hq;exact absurd hq.1 sy
 |goto l=>exact hq.elim
 |panic ch=>exact hq.elim
 |outgrown=>exact hq.elim
variable (h:Sd w b vr vi vm nr ni nm Rv Iv Mv) (hT:TJ w (fun q=>q<w.heap.size∧¬Sq b vr vi vm q)) (mr:nr≤1000) (mi:ni≤1000) (mm:nm≤1000) (o1:∀v,v∈Rv→v.oneCell'=true) (o2:∀v,v∈Iv→v.oneCell'=true) (o3:∀v,v∈Mv→v.oneCell'=true)
include h hT mr mi mm o1 o2 o3
theorem rat_raw(s:Bool)(a1 a:Option Addr)(n1 n2 c1 c2:Nat)(e:Int):Calls Tryz.prog 27 #[.pointer (some ⟨b,0,none⟩),.agg #[.bool s,.slice a1 n1 c1,.slice a n2 c2],.int .i64 e] w (SdR w b vr vi vm (nr+1) ni (nm+1) (Rv++[.bool s,.slice a1 n1 c1,.slice a n2 c2]) Iv (Mv++[.int .i64 e])):=by
 have j:=ZU nr ni nm (Rv.map V.c) (Iv.map V.c) (Mv.map V.c) s a1 a n1 n2 c1 c2 e mr mi mm;refine IQ (vs:=[.agg #[.bool s,.slice a1 n1 c1,.slice a n2 c2],.int .i64 e]) (us:=[.g [.c (.bool s),.c (.slice a1 n1 c1),.c (.slice a n2 c2)],.c (.int .i64 e)]) Tryz.func27 rfl (A:=a27) kf rfl (by show 3≤_;decide) rfl h hT mr mi mm o1 o2 o3 (fun k f H l m=>?_) (fun k f=>?_) (by simp only[w_,dI,fJ];exact j)
 ·match k,f with
  |1,_=>exact .base (.g [.bool s,.slice a1 n1 c1,.slice a n2 c2] _ rfl (Ah [.bool s,.slice a1 n1 c1,.slice a n2 c2]).2)
  |2,_=>exact .base (.c _)
 ·match k,f with
  |k+3,_=>rfl
theorem VO(s:Bool)(a1:Option Addr)(n1 c1:Nat)(e:Int):Calls Tryz.prog 40 #[.pointer (some ⟨b,0,none⟩),.agg #[.bool s,.slice a1 n1 c1],.int .i64 e] w (SdR w b vr vi vm nr (ni+1) (nm+1) Rv (Iv++[.bool s,.slice a1 n1 c1]) (Mv++[.int .i64 e])):=by
 have f:=QV nr ni nm (Rv.map V.c) (Iv.map V.c) (Mv.map V.c) s a1 n1 c1 e mr mi mm;refine IQ (vs:=[.agg #[.bool s,.slice a1 n1 c1],.int .i64 e]) (us:=[.g [.c (.bool s),.c (.slice a1 n1 c1)],.c (.int .i64 e)]) Tryz.func40 rfl (A:=a40) kf rfl (by show 3≤_;decide) rfl h hT mr mi mm o1 o2 o3 (fun k a H j l=>?_) (fun k a=>?_) (by simp only[w_,dI,fJ];exact f)
 ·match k,a with
  |1,_=>exact .base (.g [.bool s,.slice a1 n1 c1] _ rfl (Ah [.bool s,.slice a1 n1 c1]).2)
  |2,_=>exact .base (.c _)
 ·match k,a with
  |k+3,_=>rfl
theorem VP(n e:Int):Calls Tryz.prog 43 #[.pointer (some ⟨b,0,none⟩),.int .i64 n,.int .i64 e] w (SdR w b vr vi vm nr ni (nm+2) Rv Iv (Mv++[.int .i64 n,.int .i64 e])):=by
 have f:=QU nr ni nm (Rv.map V.c) (Iv.map V.c) (Mv.map V.c) n e mr mi mm;refine IQ (vs:=[.int .i64 n,.int .i64 e]) (us:=[.c (.int .i64 n),.c (.int .i64 e)]) Tryz.func43 rfl (A:=a43) kf rfl (by show 3≤_;decide) rfl h hT mr mi mm o1 o2 o3 (fun k a H g j=>?_) (fun k a=>?_) (by simp only[w_,dI,fJ];exact f)
 ·match k,a with
  |1,_=>exact .base (.c _)
  |2,_=>exact .base (.c _)
 ·match k,a with
  |k+3,_=>rfl
end
end
section
section
variable {w0 w w':World} {γ:Gh} {N i c:Nat} {R:Nat→Option Δ} {Bx:Bs} {F:Nat→Prop} {P:Program}
variable{Z H:Nat→Prop}
theorem QW(c:Wi w0 γ w F){v:Value}{A:List Nat}(a:∀q,H q→q<w0.heap.size∧¬Z q)(h:Rep0 w0 H v (.l 1 (W A))):s0 w0 γ w (.rz Z A) v:=
 ⟨H,fun q hq=>⟨⟨eu (a q hq).1 c.bel.size,fun i f=>by have:=(c.bn i q f).1;have:=(a q hq).1;omega⟩,(a q hq).2⟩,h.mono (fun _ h=>h) fun q hq=>c.bel.block q (a q hq).1⟩
section
variable {dst:Option Tmp} {x:Operand} {ty t:TypeId} {p:String} {e:Array Edge} {gd:Option (Nat×Bool)} {q k:Nat}
def Old(w0:World)(q:Nat)(ds:List Δ):Prop:=∃(xs:List Value) (bt:TypeId),w0.heap[q]? =some (.cells xs.toArray bt (0,0))∧∀γ w F,Wi w0 γ w F→l0 w0 γ w ds xs
theorem ok_w{o:Oper}{d:Δ}(h:∀(γ:Gh) (w:World) (a:Act) (F:Nat→Prop),Wi w0 γ w F→(∀t d,R t=some d→s2 w0 γ w d (a.tmps.getD t undef))→∃v,(execOp a.eval o).run P w= .ok (.value v) w∧s2 w0 γ w d v):Ok P w0 N o i R Bx d none:=⟨fun Q γ a w F K hz c l f m hK=>by
 obtain⟨v,j,g⟩:=h γ w a F c f;unfold Oper.wp;rw[j];exact hK γ v w (.rf _ _) (dQ w) (c.sub fun _ h=>h.1) g fun b hb=>by cases hb⟩
theorem nH{n:Nat}{ds:List Δ}(G:Old w0 q ds)(h:lX R x (.k (.pointer (some ⟨q,k,none⟩))))(H:(P.info? ty).map (·.size)=some n)(c:lN P ty=true)(A:Nat.ble (k+n) ds.length=true):Ok P w0 N ⟨dst,.load ty x,t,p,e,gd⟩ i R Bx (.g ((ds.drop k).take n)) none:=
 ok_w fun γ w a F C I=>by
  have J:a.eval x= .pointer (some ⟨q,k,none⟩):=h.ev I;obtain⟨xs,bt,l,j⟩:=G;have j:=j γ w F C;have hq:q<w0.heap.size:=(pW.1 l).1;replace l:=(C.bel.block q hq).trans l;have hl:xs.length=ds.length:=j.len;have A:=qY A;obtain⟨L,z,E⟩:=jT.1 H;obtain⟨y,hd⟩:∃y,P.underlying ty=some y:=by
   unfold lN at c;cases f:P.underlying ty with
   |some y=>exact⟨y,rfl⟩
   |none=>rw[f]at c;cases c
  have:=(vX (P:=P) (w:=w) ty q k n ((xs.drop k).take n) (by simp;omega) (fun m u f=>vY l (by
   rw[ou]at f;split at f
   ·rwa[uB]at f
   ·cases f)) z E hd).1 c
  exact⟨_,by simp[execOp,J,this],_,rfl,j.cut k n⟩
variable {ds:List Δ}
theorem iG(h:lX R x (.k (.pointer (some ⟨q,k,none⟩))))(a:Old w0 q ds)(c:Nat.ble (k+3) ds.length=true):Ok Tryz.prog w0 N ⟨dst,.load 27 x,t,p,e,gd⟩ i R Bx (.g ((ds.drop k).take 3)) none:=nH a h kf kf c
theorem Bz(h:lX R x (.k (.pointer (some ⟨q,k,none⟩))))(a:Old w0 q ds)(c:Nat.ble (k+2) ds.length=true):Ok Tryz.prog w0 N ⟨dst,.load 25 x,t,p,e,gd⟩ i R Bx (.g ((ds.drop k).take 2)) none:=nH a h kf kf c
end
def zzl(Z:Nat→Prop):List Δ→Prop
 |[]=>True
 |d::ds=>(match d with| .k _=>True| .rz Z' _=>Z'=Z|_=>False)∧zzl Z ds
def Δ.zz(Z:Nat→Prop):Δ→Prop
 | .k _=>True
 | .rz Z' _=>Z'=Z
 | .g ds=>zzl Z ds
 |_=>False
def Hz(γ:Gh)(w:World)(Z:Nat→Prop)(q:Nat):Prop:=Hn γ w q∧¬Z q
theorem s0.vz:∀{d:Δ} {x:Value},s0 w0 γ w d x→d.zz Z→Rep0 w (Hz γ w Z) x d.v0
 | .k v,x,h,_=>by
   have e:x=v:=h;subst e;exact Zg _
 | .rz j A,x,⟨H,a,c⟩,hz=>by
   have hz:j=Z:=hz;subst hz;exact c.mono (fun q hq=>⟨(a q hq).1,(a q hq).2⟩) fun _ _=>rfl
 | .ow _ _,_,_,h=>h.elim
 | .rd _,_,_,h=>h.elim
 | .p _ _,_,_,h=>h.elim
 | .sl _ _ _,_,_,h=>h.elim
 | .f _,_,_,h=>h.elim
 | .t _,_,_,h=>h.elim
 | .g _,_,h,_=>h.elim
theorem l0.vz:∀{ds:List Δ} {xs:List Value},l0 w0 γ w ds xs→zzl Z ds→aB w (Hz γ w Z) xs (ds.map Δ.v0)
 |[],[],_,_=>⟨rfl,fun j v x h=>by simp at h⟩
 |d::ds,x::xs,h,hz=>by
  have f:=l0.vz h.2 hz.2;have g:=hz.1;refine⟨by simpa using f.1,fun j v y c a=>?_⟩;cases j with
  |zero=>simp at c a;subst c;subst a;exact s0.vz h.1 (by cases d<;>first|exact g|exact g.elim)
  |succ j=>exact f.2 j v y (by simpa using c) (by simpa using a)
 |[],_::_,h,_=>h.elim
 |_::_,[],h,_=>h.elim
theorem s2.vz:∀{d:Δ} {x:Value},s2 w0 γ w d x→d.zz Z→Rep0 w (Hz γ w Z) x d.v1
 | .g _,_,⟨xs,e,h⟩,hz=>by subst e;exact .g xs _ (l0.vz h hz).1 (l0.vz h hz).2
 | .k _,_,h,hz=>s0.vz (w0:=w0) (d:= .k _) h hz
 | .rz _ _,_,h,hz=>s0.vz (w0:=w0) (d:= .rz _ _) h hz
 | .ow _ _,_,_,h=>h.elim
 | .rd _,_,_,h=>h.elim
 | .p _ _,_,_,h=>h.elim
 | .sl _ _ _,_,_,h=>h.elim
 | .f _,_,_,h=>h.elim
 | .t _,_,_,h=>h.elim
def Δ.zs(Z:Nat→Prop):Δ→Prop
 | .k (.bool _)| .k (.int _ _)=>True
 | .rz Z' _=>Z'=Z
 |_=>False
def zsl(Z:Nat→Prop):List Δ→Prop
 |[]=>True
 |d::ds=>d.zs Z∧zsl Z ds
theorem v0z(c:∀q,H q→(q<w.heap.size∧∀i,γ.β i≠some q)∧¬Z q){d:Δ}{x:Value}(h:Rep0 w H x d.v0)(hq:d.zs Z):s0 w0 γ w d x:=by
 unfold Δ.zs at hq;split at hq
 ·exact(Rep.up (ov:=fun _=>none) h).qH
 ·exact(Rep.up (ov:=fun _=>none) h).dU
 ·subst hq;exact⟨H,c,h⟩
 ·exact hq.elim
theorem v0zl{H Z:Nat→Prop}(a:∀q,H q→(q<w.heap.size∧∀i,γ.β i≠some q)∧¬Z q):∀{ds:List Δ} {xs:List Value},aB w H xs (ds.map Δ.v0)→zsl Z ds→l0 w0 γ w ds xs
 |[],[],_,_=>trivial
 |d::ds,x::xs,h,hq=>⟨v0z (w0:=w0) a (h.2 0 x _ rfl rfl) hq.1,v0zl a ⟨by simpa using h.1,fun j v y f c=>h.2 (j+1) v y (by simpa using f) (by simpa using c)⟩ hq.2⟩
 |[],_::_,h,_=>absurd h.1 sy
 |_::_,[],h,_=>absurd h.1 sy
def zzA(Z:Nat→Prop):List Δ→Prop
 |[]=>True
 |d::ds=>d.zz Z∧zzA Z ds
theorem Gt.vz{a:Act}(l:∀t d,R t=some d→s2 w0 γ w d (a.tmps.getD t undef)):∀{xs:List Operand} {ds:List Δ},Gt R xs=some ds→zzA Z ds→aB w (Hz γ w Z) (xs.map a.eval) (ds.map Δ.v1)
 |[],ds,h,_=>by cases h;exact⟨rfl,fun j v x h=>by simp at h⟩
 |x::xs,ds,h,ha=>by
  unfold Gt at h;split at h
  ·rename_i d z u m;cases h;have g:=Gt.vz l m ha.2;refine⟨by simpa using g.1,fun j v y f c=>?_⟩;cases j with
   |zero=>simp at f c;subst f;subst c;exact s2.vz ((rd1.lX u).ev l) ha.1
   |succ j=>exact g.2 j v y (by simpa using f) (by simpa using c)
  ·cases h
theorem ZV{dst:Option Tmp}{f:FuncId}{args:Array Operand}{A7:Array TypeId}{t:TypeId}{p:String}{e:Array Edge}{gd:Option (Nat×Bool)}{es:List Δ}{z:Int}{vs:List V}(c:aT f vs (.t [.g (es.map Δ.v0),.i .i64 z]))(hT:TJ w0 fun q=>q<w0.heap.size∧¬Z q)(I:∀q,Z q→q<w0.heap.size)
 (C:∀(γ:Gh) (a:Act) (w:World) (F:Nat→Prop),Wi w0 γ w F→(∀t d,R t=some d→s2 w0 γ w d (a.tmps.getD t undef))→aB w (Hz γ w Z) (args.toList.map a.eval) vs) (hq:zsl Z es) (G:Jb Tryz.prog f=true):Ok Tryz.prog w0 N ⟨dst,.call ⟨.value (.func f),args,A7⟩,t,p,e,gd⟩ i R Bx (.t [.g es,.k (.int .i64 z)]) none:=⟨fun Q γ a w F K _ l M J T hK=>by
 have H:=(c.to0 rfl) w (Hz γ w Z) _ trivial (TJ.mono hT (fun q h=>⟨⟨eu h.1 l.bel.size,fun i u=>by have:=(l.bn i q u).1;omega⟩,h.2⟩) fun q h=>l.bel.block q h.1) (fun q h=>h.1.1) (C γ a w F l J)
 unfold Oper.wp
 rw[pG G,Oper.upon_enter]
 refine H.mono ?_
 rintro e w' ⟨v,rfl,hb,U,L,h⟩
 rcases h with h|⟨e,sz,cs,n,xs,he,_⟩|⟨P,he,_⟩
 ·obtain⟨xs,rfl,m⟩:=(Rep.up (ov:=fun _=>none) h).RU;match xs,m with
  |[],j=>exact absurd j.1 sy
  |[_],j=>exact absurd j.1 sy
  |_::_::_::_,j=>exact absurd j.1 sy
  |[p,q],j=>
   obtain⟨A,rfl,E⟩:=(Rep.up (ov:=fun _=>none) (j.2 0 p _ rfl rfl)).GR;have O:=(Rep.up (ov:=fun _=>none) (j.2 1 q _ rfl rfl)).dU;subst O;refine hK γ _ w' (.of hb) hb ((l.Tu (below_le l hb)).sub fun _ h=>h.1) ⟨_,rfl,⟨A,rfl,v0zl (fun q hq=>?_) E hq⟩,rfl,trivial⟩ fun b h=>by cases h
   rcases hq with hq|hq
   ·exact⟨⟨eu hq.1.1 hb.size,hq.1.2⟩,hq.2⟩
   ·have:=L q hq;exact⟨⟨this.2,fun i u=>by have:=(l.bn i q u).2;omega⟩,fun h=>by have:=I q h;have:=l.bel.size;omega⟩
 ·cases he
 ·cases he⟩
end
end
section
def ZW(Lv:List Value):Prop:=∀(i j:Nat) (vi vj:Value) (q:Nat),i≠j→Lv[i]? =some vi→Lv[j]? =some vj→vi.ownBlock=some q→vj.ownBlock≠some q
structure Cl(w0 w:World)(L:List (Value×List Nat)):Prop where
 own:∀p,p∈L→∃m:Nat,m≤maxLen∧w.ownsRow w0.heap.size 49 1 p.1 m (Wv p.2)
 apt:ZW (L.map fun p=>p.1)
variable{w0 w1:World}{L M:List (Value×List Nat)}{κ:Bool}{N:Nat}{K:List (Nat×Value)}{OB:List (Nat×Array Value×TypeId)}{vr vi:Value}{a:Act}
theorem Cl.keep{w w':World}(h:Cl w0 w L)(hb:∀p q,p∈L→p.1.ownBlock=some q→w'.heap[q]? =w.heap[q]?):Cl w0 w' L:=
 ⟨fun p a=>by obtain⟨m,f,c⟩:=h.own p a;exact⟨m,f,bJ c fun q hq=>hb p q a hq⟩,h.apt⟩
theorem Cl.nil(w:World):Cl w w []:=⟨fun p a=>by simp at a,fun i j vi c q _ h=>by simp at h⟩
theorem Cl.lt{w:World}(h:Cl w0 w L){p:Value×List Nat}{q:Nat}(a:p∈L)(hq:p.1.ownBlock=some q):w0.heap.size≤q∧q<w.heap.size:=by
 obtain⟨m,_,c⟩:=h.own p a;exact c.lt q hq
theorem LH{L M:List Value}(h:ZW L)(h2:ZW M)(l:∀v u q,v∈L→u∈M→v.ownBlock=some q→u.ownBlock≠some q):ZW (L++M):=by
 intro i j vi f q g c a hq;rw[List.getElem?_append]at c a;split at c<;>split at a
 ·exact h i j vi f q g c a hq
 ·exact l vi f q (dP c) (dP a) hq
 ·exact fun e=>l f vi q (dP a) (dP c) e hq
 ·exact h2 _ _ vi f q om c a hq
theorem Cl.step{w:World}(h:Cl w0 w1 L)(y:w0.heap.size≤w1.heap.size)(hb:Below w1.heap.size w1 w)(h2:Cl w1 w M):Cl w0 w (L++M):=by
 have g:Cl w0 w L:=h.keep fun p q a hq=>hb.block q (h.lt a hq).2
 refine⟨fun p a=>?_,?_⟩
 ·rcases nC.1 a with a|a
  ·exact g.own p a
  ·obtain⟨m,A,z⟩:=h2.own p a;exact⟨m,A,oK z y⟩
 ·rw[w_];refine LH g.apt h2.apt fun v u q j l hq c=>?_
  obtain⟨p,a,rfl⟩:=eG.1 j;obtain⟨p2,f,rfl⟩:=eG.1 l;have:=(h.lt a hq).2;have:=(h2.lt f c).1;omega
theorem Cl.below{w:World}(h:Cl w0 w1 L)(hb:Below w1.heap.size w1 w):Cl w0 w L:=h.keep fun p q a hq=>hb.block q (h.lt a hq).2
theorem Cl.base{w:World}(h:Cl w1 w L)(a:w0.heap.size≤w1.heap.size):Cl w0 w L:=
 ⟨fun p c=>by obtain⟨m,g,f⟩:=h.own p c;exact⟨m,g,oK f a⟩,h.apt⟩
theorem TS(u:Value):ZW [u]:=fun i j vi m q c f a _=>by
 have l:=(iR.1 f).1;have g:=(iR.1 a).1;simp only[GM]at l g;omega
theorem Cl.one{w:World}{u:Value}{A:List Nat}{n:Nat}(c:w1.ownsRow w.heap.size 49 1 u n (Wv A))(f:n≤maxLen):Cl w w1 [(u,A)]:=
 ⟨fun p a=>by rw[l_.1 a];exact⟨n,f,c⟩,TS u⟩
abbrev TQ:=Bool×(Value×List Nat)×(Value×List Nat)
abbrev TZ:=Bool×(Value×List Nat)
def OO(R:List TQ):List Value:=R.flatMap fun p=>[.bool p.1,p.2.1.1,p.2.2.1]
def rls(R:List TQ):List (Value×List Nat):=R.flatMap fun p=>[p.2.1,p.2.2]
def OQ(I:List TZ):List Value:=I.flatMap fun p=>[.bool p.1,p.2.1]
def Fz(I:List TZ):List (Value×List Nat):=I.map fun p=>p.2
def Mc(M:List Int):List Value:=M.map fun n=> .int .i64 n
def Fm(κ:Bool)(w0 w:World)(Z:Nat→Prop)(L:List (Value×List Nat)):Prop:=match κ with
 |true=>Cl w0 w L∧∀p q,p∈L→p.1.ownBlock=some q→¬Z q
 |false=>∀p,p∈L→∃H:Nat→Prop,(∀q,H q→q<w.heap.size∧¬Z q)∧Rep0 w H p.1 (.l 1 (W p.2))
def Nk(κ:Bool)(w w1:World)(Z:Nat→Prop)(L:List (Value×List Nat)):Prop:=match κ with
 |true=>Cl w w1 L
 |false=>∀p,p∈L→∃H:Nat→Prop,(∀q,H q→q<w1.heap.size∧¬Z q)∧Rep0 w1 H p.1 (.l 1 (W p.2))
theorem Fm.step{w m:World}{Z u:Nat→Prop}(h:Fm κ w0 w Z L)(z:∀q,Z q→q<w.heap.size)(y:w0.heap.size≤w.heap.size)(hb:Below w.heap.size w w1)(j:Nk κ w w1 Z M)(he:bT w1 Z m)(g:∀q,u q→Z q∨w1.heap.size≤q):Fm κ w0 m u (L++M):=by
 have A:=hb.size;have C:=he.size;cases κ with
 |true=>
  have hz:∀p q,p∈L++M→p.1.ownBlock=some q→¬Z q∧q<w1.heap.size:=fun p q a hq=>by
   rcases nC.1 a with a|a
   ·exact⟨h.2 p q a hq,eu (h.1.lt a hq).2 A⟩
   ·have:=Cl.lt j a hq;exact⟨fun hz=>by have:=z q hz;omega,this.2⟩
  exact⟨(h.1.step y hb j).keep fun p q a hq=>he.block q (hz p q a hq).2 (hz p q a hq).1,fun p q a hq f=>(g q f).elim (hz p q a hq).1 fun h=>by have:=(hz p q a hq).2;omega⟩
 |false=>
  intro p a;rcases nC.1 a with a|a
  ·obtain⟨H,c,l⟩:=h p a;exact⟨H,fun q hq=>⟨by have:=(c q hq).1;omega,fun f=>(g q f).elim (c q hq).2 fun h=>by have:=(c q hq).1;omega⟩,l.mono (fun _ h=>h) fun q hq=>(he.block q (by have:=(c q hq).1;omega) (c q hq).2).trans (hb.block q (c q hq).1)⟩
  ·obtain⟨H,c,l⟩:=j p a;exact⟨H,fun q hq=>⟨by have:=(c q hq).1;omega,fun f=>(g q f).elim (c q hq).2 fun h=>by have:=(c q hq).1;omega⟩,l.mono (fun _ h=>h) fun q hq=>he.block q (c q hq).1 (c q hq).2⟩
structure AS(κ:Bool)(w0:World)(N b:Nat)(K:List (Nat×Value))(OB:List (Nat×Array Value×TypeId))(vr vi vm:Value)(R:List TQ)(I:List TZ)(M:List Int)(a:Act)(w:World):Prop where
 sz:a.tmps.size=N
 df:a.defers=[]
 kp:∀p,p∈K→a.tmps.getD p.1 undef=p.2
 bel:Below w0.heap.size w0 w
 ob:∀p,p∈OB→w.heap[p.1]? =some (.cells p.2.1 p.2.2 (0,0))∧¬Sq b vr vi vm p.1
 sd:Sd w b vr vi vm R.length I.length M.length (OO R) (OQ I) (Mc M)
 lo:∀q,Sq b vr vi vm q→w0.heap.size≤q
 fm:Fm κ w0 w (Sq b vr vi vm) (rls R++Fz I)
theorem LJ{α:Type}{r:List (Nat×α)}{t:Nat}{x:α}(h:lk r t=some x):(t,x)∈r:=by
 induction r with
 |nil=>cases h
 |cons p r a=>
  rcases dK (i:=p.1) (x:=p.2) h with ⟨rfl,rfl⟩|⟨_,h⟩
  ·exact jM
  ·exact jD _ (a h)
def kE(K:List (Nat×Value)):En:=K.map fun p=>(p.1,.k p.2)
variable{R:List TQ}{I:List TZ}
theorem AS.ps{w:World}{b:Nat}{vm:Value}{M:List Int}(h:AS κ w0 N b K OB vr vi vm R I M a w)(hJ:TO w0):PS w N 0 (kE K) [] g0 a w:=
 ⟨Y6 (hJ.up h.bel),h.sz,h.df,fun t d ht=>by
   have:=LJ ht;obtain⟨p,c,e⟩:=eG.1 this;cases e;exact h.kp p c,fun _ _ h=>by cases h⟩
theorem AS.tj{w:World}{b:Nat}{vm:Value}{M:List Int}(h:AS κ w0 N b K OB vr vi vm R I M a w)(hJ:TO w0)(hb:Below w.heap.size w w1):TJ w1 fun q=>q<w1.heap.size∧¬Sq b vr vi vm q:=by
 have f:=h.bel.size;have c:=hb.size;exact TJ.mono hJ (fun q hq=>⟨om,fun hz=>by have:=h.lo q hz;omega⟩) fun q hq=>(hb.block q om).trans (h.bel.block q hq)
def kpE(E:En)(s3:Nat):List (Nat×Value)→Prop
 |[]=>True
 |p::r=>(lk E p.1=some (.k p.2)∧Nat.beq p.1 s3=false)∧kpE E s3 r
theorem Ba{E:En}{s3:Nat}:∀{K:List (Nat×Value)},kpE E s3 K→∀p,p∈K→lk E p.1=some (.k p.2)∧p.1≠s3
 |q::r,h,p,a=>by
  rcases dZ.1 a with rfl|a
  ·exact⟨h.1.1,fun e=>by have:=h.1.2;rw[e,Nat.beq_refl]at this;cases this⟩
  ·exact Ba h.2 p a
section
variable {κ:Bool} {w0 w w1:World} {N b c:Nat} {K:List (Nat×Value)} {OB:List (Nat×Array Value×TypeId)} {vr vi vm:Value} {R:List TQ} {I:List TZ} {M:List Int} {a a1:Act} {E:En} {Bx:Bs} {γ:Gh}
theorem LK(c:∀p,p∈rls R→p.1.oneCell'=true):∀v,v∈OO R→v.oneCell'=true:=fun v f=>by
 obtain⟨p,a,h⟩:=nN.1 f;have j:=c p.2.1 (nN.2 ⟨p,a,sy⟩);have g:=c p.2.2 (nN.2 ⟨p,a,sy⟩);simp only[dZ,og,or_false]at h;rcases h with rfl|rfl|rfl
 ·rfl
 ·exact j
 ·exact g
theorem LM(f:∀p,p∈Fz I→p.1.oneCell'=true):∀v,v∈OQ I→v.oneCell'=true:=fun v a=>by
 obtain⟨p,c,h⟩:=nN.1 a;have g:=f p.2 (eG.2 ⟨p,c,rfl⟩);simp only[dZ,og,or_false]at h;rcases h with rfl|rfl
 ·rfl
 ·exact g
theorem LP:∀v,v∈Mc M→v.oneCell'=true:=fun v a=>by
 obtain⟨n,_,rfl⟩:=eG.1 a;rfl
theorem Fm.one{Z:Nat→Prop}(h:Fm κ w0 w Z L):∀p,p∈L→p.1.oneCell'=true:=fun p a=>by
 cases κ with
 |true=>
  obtain⟨m,_,c⟩:=h.1.own p a;obtain⟨x,y,e⟩:=iE c;rw[e];rfl
 |false=>
  obtain⟨H,_,f⟩:=h p a;obtain⟨x,y,z,e⟩:=gV f;rw[e];rfl
theorem AS.nx{R':List TQ}{I':List TZ}{M':List Int}{G:World}{e:Ending}{s3:Nat}{y:Value}(h:AS κ w0 N b K OB vr vi vm R I M a w)(S:PS w N c E Bx γ a1 w1)(hK:kpE E s3 K)(J:Nk κ w w1 (Sq b vr vi vm) L)(H:SdR w1 b vr vi vm R'.length I'.length M'.length (OO R') (OQ I') (Mc M') e G)(P:rls R'++Fz I'=(rls R++Fz I)++L):∃g l j,AS κ w0 N b K OB g l j R' I' M' (a1.put (some s3) y) G:=by
 obtain⟨_,f,g,l,j,O,hq⟩:=H;have u:Below w.heap.size w w1:=S.W.bel;have Q:=h.bel.size;have U:=u.size;have T:=f.size;have F:=h.sd.lt;refine⟨g,l,j,by show(a1.tmps.setIfInBounds s3 y).size=N;simp[S.sz],S.df,fun p C=>?_,⟨f.os.trans (u.os.trans h.bel.os),f.tape.trans (u.tape.trans h.bel.tape),f.output.trans (u.output.trans h.bel.output),om,fun q m=>(f.block q om fun hz=>by have:=h.lo q hz;omega).trans ((u.block q om).trans (h.bel.block q m))⟩,fun p C=>?_,O,fun q m=>(hq q m).elim (h.lo q) fun h=>om,?_⟩
 ·obtain⟨A,z⟩:=Ba hK p C;rw[tJ (Ne.symm z)];exact S.env _ _ A
 ·obtain⟨A,z⟩:=h.ob p C;have hl:p.1<w.heap.size:=(pW.1 A).1;exact⟨(f.block _ om z).trans ((u.block _ hl).trans A),fun hz=>(hq _ hz).elim z fun h=>om⟩
 ·rw[P];exact h.fm.step F Q u J f hq
end
end
section
def rw1(κ:Bool)(Z:Nat→Prop)(d:Δ)(A:List Nat):Prop:=match κ with
 |true=>∃t,d= .ow A t
 |false=>d= .rz Z A
def rw2(κ:Bool)(Z:Nat→Prop)(d1 d2:Δ)(A1 A2:List Nat):Prop:=match κ with
 |true=>∃t u,Nat.beq t u=false∧d1= .ow A1 t∧d2= .ow A2 u
 |false=>d1= .rz Z A1∧d2= .rz Z A2
section
variable {κ:Bool} {w0 w w1:World} {N b c:Nat} {K:List (Nat×Value)} {OB:List (Nat×Array Value×TypeId)} {vr vi vm:Value} {R:List TQ} {I:List TZ} {M:List Int} {a a1:Act} {E:En} {Bx:Bs} {γ:Gh} {F:Nat→Prop}
variable{Z:Nat→Prop}{A A1 A2:List Nat}{ops:Array Oper}{Q:Exit→Act→World→Prop}{s3 sp:Nat}{A7:Array TypeId}{t:TypeId}{p:String}{e:Int}
theorem nk1{d:Δ}{x:Value}(l:Wi w γ w1 F)(h:s0 w γ w1 d x)(hd:rw1 κ Z d A):Nk κ w w1 Z [(x,A)]:=by
 cases κ with
 |true=>
  obtain⟨t,rfl⟩:=hd;obtain⟨⟨m,g,f⟩,_⟩:=h;exact Cl.one f g
 |false=>
  have hd:d= .rz Z A:=hd;subst hd;obtain⟨H,a,j⟩:=h;intro p c;rw[l_.1 c];exact⟨H,fun q hq=>⟨(a q hq).1.1,(a q hq).2⟩,j⟩
variable{d1 d2:Δ}
theorem nk2{x1 x2:Value}(f:Wi w γ w1 F)(h1:s0 w γ w1 d1 x1)(h2:s0 w γ w1 d2 x2)(hd:rw2 κ Z d1 d2 A1 A2):Nk κ w w1 Z [(x1,A1),(x2,A2)]:=by
 cases κ with
 |true=>
  obtain⟨t,u,c,rfl,rfl⟩:=hd;have k1:=nk1 (κ:=true) (Z:=Z) f h1 ⟨t,rfl⟩;have k2:=nk1 (κ:=true) (Z:=Z) f h2 ⟨u,rfl⟩;refine⟨fun p a=>?_,LH (L:=[x1]) (M:=[x2]) k1.apt k2.apt fun v z q l hz j g=>?_⟩
  ·rcases dZ.1 a with rfl|a
   ·exact k1.own _ jM
   ·exact k2.own _ a
  ·rw[l_.1 l]at j;rw[l_.1 hz]at g;have:=f.ki t u q (by rw[h1.2,j]) (by rw[h2.2,g]);rw[this,Nat.beq_refl]at c;cases c
 |false=>
  have k1:=nk1 (κ:=false) f h1 hd.1;have k2:=nk1 (κ:=false) f h2 hd.2;intro p a;rcases dZ.1 a with rfl|a
  ·exact k1 _ jM
  ·exact k2 _ a
theorem rw1_w{d:Δ}(h:rw1 κ Z d A):d.w=true:=by
 cases κ with
 |true=>obtain⟨t,rfl⟩:=h;rfl
 |false=>have h:d= .rz Z A:=h;rw[h];rfl
theorem rw2_w(h:rw2 κ Z d1 d2 A1 A2):d1.w=true∧d2.w=true:=by
 cases κ with
 |true=>obtain⟨t,u,_,rfl,rfl⟩:=h;exact⟨rfl,rfl⟩
 |false=>obtain⟨e1,a⟩:d1= .rz Z A1∧d2= .rz Z A2:=h;rw[e1,a];exact⟨rfl,rfl⟩
theorem IU{f:FuncId}{args:Array Operand}{e:Array Edge}{vs:List Value}{R:Ending→World→Prop}(g:Jb Tryz.prog f=true)(ha:args.toList.map a.eval=vs)(h:Calls Tryz.prog f vs.toArray w R)(k:∀v w',R (.returned v) w'→Q .normal (a.put (some s3) v) w')(j:∀e w',R e w'→∃v,e= .returned v):wpList Tryz.prog ops Q [⟨some s3,.call ⟨.value (.func f),args,A7⟩,t,p,e,none⟩] a w:=by
 refine BigFrame.wpList_want rfl fun l hK=>?_
 unfold Oper.wp;rw[pG g,Oper.upon_enter,ha];refine h.mono ?_;rintro e w' c;obtain⟨v,rfl⟩:=j e w' c;exact hK _ _ (h_ (k v w' c))
variable (h:AS κ w0 N b K OB vr vi vm R I M a w) (hJ:TO w0) (S:PS w N c E Bx γ a1 w1) (mr:R.length≤1000) (mi:I.length≤1000) (mm:M.length≤1000)
include h hJ S mr mi mm
variable{ed:Array Edge}
theorem AS.rat{s1 s2:Nat}{s:Bool}(J:I=[])(j:lk E sp=some (.k (.pointer (some ⟨b,0,none⟩))))(G:lk E s1=some (.g [.k (.bool s),d1,d2]))(he:lk E s2=some (.k (.int .i64 e)))(hd:rw2 κ (Sq b vr vi vm) d1 d2 A1 A2)(hK:kpE E s3 K)
 (next:∀C w' x1 x2 a f c,AS κ w0 N b K OB a f c (R++[(s,(x1,A1),(x2,A2))]) I (M++[e]) C w'→Q .normal C w'):wpList Tryz.prog ops Q [⟨some s3,.call ⟨.value (.func 27),#[.tmp sp,.tmp s1,.tmp s2],A7⟩,t,p,ed,none⟩] a1 w1:=by
 have O:a1.tmps.getD sp undef= .pointer (some ⟨b,0,none⟩):=S.env sp _ j
 have P:a1.tmps.getD s2 undef= .int .i64 e:=S.env s2 _ he
 obtain⟨xs,ex,hl⟩:=S.env s1 _ G
 match xs,hl with
 |[F,x1,x2],hl=>
  have e0:F= .bool s:=hl.1;subst e0;obtain⟨u,m⟩:=rw2_w hd;obtain⟨p1,n1,c1,rfl⟩:=hl.2.1.L_ u;obtain⟨p2,n2,c2,rfl⟩:=hl.2.2.1.L_ m;have l:=h.fm.one;have H:=rat_raw (h.sd.below S.W.bel) (h.tj hJ S.W.bel) mr mi mm (LK fun p j=>l p (uC _ j)) (LM fun p j=>l p (yI _ j)) LP s p1 p2 n1 n2 c1 c2 e;refine IU kf (by simp only[dI,fJ,bU,O,ex,P]) H (fun v w' A=>?_) fun e w' A=>⟨_,A.1⟩
  have z:SdR w1 b vr vi vm (R++[(s,(Value.slice p1 n1 c1,A1),(Value.slice p2 n2 c2,A2))]).length I.length (M++[e]).length (OO (R++[(s,(Value.slice p1 n1 c1,A1),(Value.slice p2 n2 c2,A2))])) (OQ I) (Mc (M++[e])) (.returned v) w':=by
   simpa only[OO,Mc,List.flatMap_append,sH,List.flatMap_nil,w_,dI,fJ,bZ,dX,dJ,qF,eY]using A
  obtain⟨a,f,c,L⟩:=h.nx S hK (nk2 S.W hl.2.1 hl.2.2.1 hd) z (by subst J;simp[rls,Fz]) (s3:=s3) (y:=v);exact next _ _ _ _ _ _ _ L
theorem AS.whole{s1 s2:Nat}{s:Bool}(j:lk E sp=some (.k (.pointer (some ⟨b,0,none⟩))))(C:lk E s1=some (.g [.k (.bool s),d1]))(he:lk E s2=some (.k (.int .i64 e)))(hd:rw1 κ (Sq b vr vi vm) d1 A1)(hK:kpE E s3 K)
 (next:∀z w' x1 a f c,AS κ w0 N b K OB a f c R (I++[(s,(x1,A1))]) (M++[e]) z w'→Q .normal z w'):wpList Tryz.prog ops Q [⟨some s3,.call ⟨.value (.func 40),#[.tmp sp,.tmp s1,.tmp s2],A7⟩,t,p,ed,none⟩] a1 w1:=by
 have H:a1.tmps.getD sp undef= .pointer (some ⟨b,0,none⟩):=S.env sp _ j
 have J:a1.tmps.getD s2 undef= .int .i64 e:=S.env s2 _ he
 obtain⟨xs,ex,hl⟩:=S.env s1 _ C
 match xs,hl with
 |[A,x1],hl=>
  have e0:A= .bool s:=hl.1;subst e0;obtain⟨p1,n1,c1,rfl⟩:=hl.2.1.L_ (rw1_w hd);have l:=h.fm.one;have F:=VO (h.sd.below S.W.bel) (h.tj hJ S.W.bel) mr mi mm (LK fun p j=>l p (uC _ j)) (LM fun p j=>l p (yI _ j)) LP s p1 n1 c1 e;refine IU kf (by simp only[dI,fJ,bU,H,ex,J]) F (fun v w' u=>?_) fun e w' u=>⟨_,u.1⟩
  have m:SdR w1 b vr vi vm R.length (I++[(s,(Value.slice p1 n1 c1,A1))]).length (M++[e]).length (OO R) (OQ (I++[(s,(Value.slice p1 n1 c1,A1))])) (Mc (M++[e])) (.returned v) w':=by
   simpa only[OQ,Mc,List.flatMap_append,sH,List.flatMap_nil,w_,dI,fJ,bZ,dX,dJ,qF,eY]using u
  obtain⟨a,f,c,G⟩:=h.nx S hK (nk1 S.W hl.2.1 hd) m (by simp[Fz]) (s3:=s3) (y:=v);exact next _ _ _ _ _ _ G
theorem AS.plain{x1 x2:Operand}{n:Int}(a:lk E sp=some (.k (.pointer (some ⟨b,0,none⟩))))(A:lX (lk E) x1 (.k (.int .i64 n)))(he:lX (lk E) x2 (.k (.int .i64 e)))(hK:kpE E s3 K)
 (next:∀z w' c g f,AS κ w0 N b K OB c g f R I (M++[n,e]) z w'→Q .normal z w'):wpList Tryz.prog ops Q [⟨some s3,.call ⟨.value (.func 43),#[.tmp sp,x1,x2],A7⟩,t,p,ed,none⟩] a1 w1:=by
 have H:a1.tmps.getD sp undef= .pointer (some ⟨b,0,none⟩):=S.env sp _ a
 have ex:a1.eval x1= .int .i64 n:=A.ev S.env
 have J:a1.eval x2= .int .i64 e:=he.ev S.env
 have l:=h.fm.one
 have F:=VP (h.sd.below S.W.bel) (h.tj hJ S.W.bel) mr mi mm (LK fun p a=>l p (uC _ a)) (LM fun p a=>l p (yI _ a)) LP n e
 refine IU kf (by simp only[dI,fJ,bU,H,ex,J]) F (fun v w' u=>?_) fun e w' u=>⟨_,u.1⟩
 have m:SdR w1 b vr vi vm R.length I.length (M++[n,e]).length (OO R) (OQ I) (Mc (M++[n,e])) (.returned v) w':=by
  simpa only[Mc,w_,dI,fJ,bZ,dX,dJ,eY]using u
 have C:Nk κ w w1 (Sq b vr vi vm) []:=by
  cases κ with
  |true=>exact⟨fun p a=>(by cases a),fun i j vi L q _ h=>(by simp at h)⟩
  |false=>intro p a;cases a
 obtain⟨c,g,f,G⟩:=h.nx S hK C m sy (s3:=s3) (y:=v)
 exact next _ _ _ _ _ G
end
end
section
variable{w':World}{z x y:Int}{m j:Nat}{e:Ending}
theorem Ans.err3{w:World}(h:Ans w (.t [zO,.k (.int .i64 z)]) e w'):Ans w (.t [.g [.k (.bool false),.ow [] 0,.ow [] 1],.k (.int .i64 z)]) e w':=by
 obtain⟨κ,v,rfl,hb,_,_,xs,rfl,hl⟩:=h;refine⟨fun _=>some none,_,rfl,hb,fun t q h=>by simp at h,fun t u q h=>by simp at h,xs,rfl,?_⟩;match xs,hl with
 |[p,q],⟨⟨f,m,l⟩,hz⟩=>
  match f,l with
  |[y0,y1,j],⟨y,c,a,_⟩=>
   have c:y1= .slice none 0 0:=c;have a:j= .slice none 0 0:=a;subst c a;exact⟨⟨_,m,y,⟨Own.nil _ _,rfl⟩,⟨Own.nil _ _,rfl⟩,trivial⟩,hz⟩
theorem Ans.err2{w:World}(h:Ans w (.t [.g [.k (.bool false),.k (.slice none 0 0)],.k (.int .i64 z)]) e w'):Ans w (.t [.g [.k (.bool false),.ow [] 0],.k (.int .i64 z)]) e w':=by
 obtain⟨κ,v,rfl,hb,_,_,xs,rfl,hl⟩:=h;refine⟨fun _=>some none,_,rfl,hb,fun t q h=>by simp at h,fun t u q h=>by simp at h,xs,rfl,?_⟩;match xs,hl with
 |[p,q],⟨⟨c,j,f⟩,hz⟩=>
  match c,f with
  |[y0,y1],⟨l,a,_⟩=>
   have a:y1= .slice none 0 0:=a;subst a;exact⟨⟨_,j,l,⟨Own.nil _ _,rfl⟩,trivial⟩,hz⟩
def Sml(x:Nat):Prop:=(dg B x).length≤1000000
theorem sml{x:Nat}(h:x<B^m)(hm:m≤1000000):Sml x:=bK (aA h) hm
theorem smz{d:Nat}(h:z.natAbs<B^m)(hm:m≤1000000):Sml (rz z d).natAbs:=sml (cZ (xG _ _) h) hm
theorem smd{d:Nat}(h:d<B^m)(hm:m≤1000000):Sml (aH z d):=sml (cZ (pO _ _) h) hm
theorem mlt{x y i:Nat}(h:x<B^i)(h2:y<B^j):x*y<B^(i+j):=by rw[dn];exact Nat.mul_lt_mul'' h h2
theorem ZX{i:Nat}(h:x.natAbs<B^i)(h2:y.natAbs<B^j):(x*y).natAbs<B^(i+j):=by rw[jy];exact mlt h h2
theorem alz{i:Nat}(h:x.natAbs<B^i)(h2:y.natAbs<B^i):(x+y).natAbs<B^(i+1):=cZ (Int.natAbs_add_le _ _) (Bj h h2)
theorem nlz{i:Nat}(h:x.natAbs<B^i):(-x).natAbs<B^i:=by rw[kX];exact h
theorem sqz{i:Nat}(h:x.natAbs<B^i):(x^2).natAbs<B^(i+i):=by rw[Int.natAbs_pow,Nat.pow_two];exact mlt h h
theorem sqn{x:Nat}{i:Nat}(h:x<B^i):x^2<B^(i+i):=by rw[Nat.pow_two];exact mlt h h
theorem rzl{d:Nat}(h:z.natAbs<B^m):(rz z d).natAbs<B^m:=cZ (xG _ _) h
theorem rdl{d:Nat}(h:d<B^m):aH z d<B^m:=cZ (pO _ _) h
theorem fdl{d:Nat}(h:z.natAbs<B^m):(z.fdiv (d:Int)).natAbs<B^m:=by
 rw[yG _ (Int.natCast_nonneg d)];exact cZ (Int.natAbs_ediv_le_natAbs _ _) h
theorem ntz{d:Nat}(h:d<B^m):((d:Int)).natAbs<B^m:=by rw[vS];exact h
theorem mzl(h:x.natAbs<B^m):(mz x y).natAbs<B^m:=by
 unfold mz;split
 ·exact nlz h
 ·exact h
theorem two1:(2:Nat)<B^1:=dc
theorem smpB{w:Int}{d e:Nat}(hd:d≠0)(he:e≠0)(c1:Nat.gcd z.natAbs d=1)(c2:Nat.gcd w.natAbs e=1)(h:z*(e:Int)≤w*(d:Int))(bz:z.natAbs<B^m)(y:w.natAbs<B^m)(A:d<B^m)(be:e<B^m)(hm:1≤m):(FQ z d w e).1.natAbs<B^m∧(FQ z d w e).2<B^m:=by
 unfold FQ;split
 ·exact⟨bg B0,eu (by decide:1<B^1) (gX B0 hm)⟩
 ·rename_i C;split
  ·rename_i j;have hz:z<0:=by
    rcases(by omega:z<0∨0≤z)with a|a
    ·exact a
    ·exfalso;have u:0≤z*(e:Int):=Int.mul_nonneg a om;have l:w*(d:Int)<0:=Int.mul_neg_of_neg_of_pos j om;omega
   obtain⟨_,_,_,f,c,_⟩:=tu (e+d) w.natAbs e z.natAbs d (DR hz j hd he c1 c2 h) (aY _);refine⟨?_,cZ c be⟩;show(-((uw (e+d) w.natAbs e z.natAbs d).1:Int)).natAbs<_;rw[kX,vS];exact cZ f y
  ·have j:0≤w:=om;have hz:0<z:=om;have g:0<w:=by
    rcases(by omega:0<w∨w≤0)with a|a
    ·exact a
    ·exfalso;have u:0<z*(e:Int):=Int.mul_pos hz om;have l:w*(d:Int)≤0:=GN a om;omega
   obtain⟨_,_,_,f,c,_⟩:=tu (d+e) z.natAbs d w.natAbs e (zX hz g hd he c1 c2 h) (aY _);exact⟨cZ f bz,cZ c A⟩
def J3(f g:FuncId)(ds:List Δ)(vs:List V):Prop:=∃(s:Bool) (A D:List Nat) (e:Int),(A.length≤1000000∧D.length≤1000000)∧Fn f ds (.t [.g [.k (.bool s),.ow A 0,.ow D 1],.k (.int .i64 e)])∧aT g vs (.t [rL s A D,.i .i64 e])
def J2(f g:FuncId)(ds:List Δ)(vs:List V):Prop:=∃(s:Bool) (A:List Nat) (e:Int),A.length≤1000000∧Fn f ds (.t [.g [.k (.bool s),.ow A 0],.k (.int .i64 e)])∧aT g vs (.t [zL s A,.i .i64 e])
def J1(f g:FuncId)(vs:List V):Prop:=∃(n e:Int),aT f vs (.t [.i .i64 n,.i .i64 e])∧aT g vs (.t [.i .i64 n,.i .i64 e])
section
variable {f g:FuncId} {ds:List Δ} {vs:List V}
theorem j3{n:Nat}(h:Fn f ds (.t [qO z n 0 1,e0]))(h2:aT g vs (.t [rN z n,.i .i64 0]))(b1:Sml z.natAbs)(a:Sml n):J3 f g ds vs:=⟨_,_,_,0,⟨b1,a⟩,h,h2⟩
theorem VX{e:Int}(h:Fn f ds (.t [zO,.k (.int .i64 e)]))(h2:aT g vs (.t [.g [.b false,.l 1 [],.l 1 []],.i .i64 e])):J3 f g ds vs:=⟨false,[],[],e,⟨sy,sy⟩,⟨fun w vs a hl=>(h.fn w vs a hl).mono fun e w' h=>h.err3⟩,h2⟩
theorem j2(h:Fn f ds (.t [iO z 0,e0]))(h2:aT g vs (.t [zN z,.i .i64 0]))(b1:Sml z.natAbs):J2 f g ds vs:=⟨_,_,0,b1,h,h2⟩
theorem j2e{e:Int}(h:Fn f ds (.t [.g [.k (.bool false),.k (.slice none 0 0)],.k (.int .i64 e)]))(h2:aT g vs (.t [.g [.b false,.l 1 []],.i .i64 e])):J2 f g ds vs:=⟨false,[],e,sy,⟨fun w vs a hl=>(h.fn w vs a hl).mono fun e w' h=>h.err2⟩,h2⟩
end
theorem mid_e{S:Int}{D0:Nat}(h0:D0≠0):rz (rz S D0) (aH S D0*2)=rz S (D0*2)∧aH (rz S D0) (aH S D0*2)=aH S (D0*2):=by
 have g0:0<rG S D0:=oZ h0;have k1:=zW (z:=rz S D0) (d:=aH S D0*2) g0;have k2:=wK (z:=rz S D0) (d:=aH S D0*2) g0;rw[tK,Nat.mul_right_comm,oI]at k1 k2;exact⟨k1.symm,k2.symm⟩
section
variable {s t:Bool} {a b d e:List Nat} (ha:Wd a) (hb:Wd b) (hd:Wd d) (he:Wd e) (la:a.length≤12) (lb:b.length≤12) (ld:d.length≤12) (le:e.length≤12)
section
include ha hd la ld
theorem j_norm:J3 50 28 [qD s a d] [rL s a d]:=by
 have r:=Ql s a d 12 dc ha hd la ld;by_cases c:nv B d=0
 ·rw[c,wH,kS]at r;exact VX (QQ (hd:=hd) (ld:=by omega) (hD:=c)) r
 ·rw[rX _ c,ja c]at r;refine j3 (D7 (hm:=by decide) rfl ha la rfl hd ld c) r ?_ ?_
  ·exact smz (bF ha la) dc
  ·exact smd (bP hd ld) dc
theorem j_neg:J3 56 35 [qD s a d] [rL s a d]:=by
 have r:=Vz s a d 12 dc ha hd la ld;by_cases c:nv B d=0
 ·rw[c,wH,kS]at r;exact VX (x_neg (hd:=hd) (ld:=by omega) (hD:=c) rfl ha om) r
 ·rw[rX _ c,ja c]at r;refine j3 (fq_neg (hm:=by decide) rfl ha la rfl hd ld c) r ?_ ?_
  ·exact smz (nlz (bF ha la)) dc
  ·exact smd (bP hd ld) dc
theorem j_pow:J3 57 36 [qD s a d,.k (.int .i64 2)] [rL s a d,.i .i64 2]:=by
 have r:=VA s a d 2 12 2 dc dc ha hd la ld (.inr dc);unfold pV pE at r;by_cases c:nv B d=0
 ·rw[au (.inl c),au c]at r;exact VX (x_pow (hd:=hd) (ld:=by omega) (hD:=c)) r
 ·rw[ah om,ah c,ah om]at r;unfold pv pe at r;rw[ah om,ah om]at r;refine j3 (fq_pow2 (m:=12) dc rfl ha la rfl hd ld c) r ?_ ?_
  ·exact smz (sqz (rzl (bF ha la))) dc
  ·exact smd (sqn (rdl (bP hd ld))) dc
theorem j_floor:J2 18 41 [qD s a d,.k (.int .i64 1)] [rL s a d,.i .i64 1]:=by
 have r:=Ae s a d 1 16385 dc dc ha hd om om;by_cases c:nv B d=0
 ·rw[IE (.inl c)]at r;unfold IY at r;rw[au c]at r;exact j2e (TR (hd:=hd) (ld:=by omega) (h0:=c)) r
 ·have e1:=JM (z:=zv s a) (d:=nv B d) (n:=1) c dc;rw[show((1:Nat):Int)=1 from rfl]at e1;unfold IY at r;rw[e1,ah c,ah om]at r;refine j2 (IM (k:=1) (m:=12) dc dc rfl rfl ha hd la ld c) r ?_
  ·exact sml (fdl (ZX (bF ha la) (by decide:((2:Int)^1).natAbs<B^1))) dc
theorem j_ceil:J2 60 42 [qD s a d,.k (.int .i64 0)] [rL s a d,.i .i64 0]:=by
 have r:=II s a d 0 16385 dc dc ha hd om om;by_cases c:nv B d=0
 ·rw[IE (.inl c)]at r;unfold IY at r;rw[au c]at r;exact j2e (x_ceil (hd:=hd) (ld:=by omega) (h0:=c) rfl ha om) r
 ·have e1:=JM (z:= -(zv s a)) (d:=nv B d) (n:=0) c dc;rw[show((0:Nat):Int)=0 from rfl]at e1;unfold IY at r;rw[e1,ah c,ah om]at r;refine j2 (TN (k:=0) (m:=12) dc dc rfl rfl ha hd la ld c) r ?_
  ·exact sml (nlz (fdl (ZX (nlz (bF ha la)) (by decide:((2:Int)^0).natAbs<B^1)))) dc
theorem j_sign:J1 62 45 [rL s a d]:=⟨_,_,Qn s a d 12 dc ha hd la ld,Qo s a d 12 dc ha hd la ld⟩
theorem j_level:J1 63 46 [rL s a d]:=⟨_,_,Oq s a d 12 dc ha hd la ld,Ot s a d 12 dc ha hd la ld⟩
theorem j_finer:J1 64 47 [rL s a d]:=by
 by_cases c:nv B d=0
 ·exact⟨_,_,ZA s a d 12 dc hd ld c,ZH s a d 12 dc hd ld c⟩
 ·by_cases f:0<zv s a
  ·obtain⟨k,g,_⟩:=Zx (u:=nv B a) (d:=nv B d) (fun h=>by rw[KU.2 h]at f;omega);exact⟨_,_,Zy s a d k 12 dc ha hd la ld c f g,ZF s a d k 12 dc ha hd la ld c f g⟩
  ·exact⟨_,_,Zz s a d 12 dc ha hd la ld c om,ZG s a d 12 dc ha hd la ld c om⟩
theorem j_print:∃(p:List UInt8) (e:Int),aT 17 [rL s a d] (.t [.s p,.i .i64 e])∧aT 48 [rL s a d] (.t [.s p,.i .i64 e]):=⟨_,_,Ou s a d 12 dc ha hd la ld,LG s a d 12 dc ha hd la ld⟩
end
include hd ld in
theorem j_check:∃e:Int,aT 65 [rL s a d] (.i .i64 e)∧aT 49 [rL s a d] (.i .i64 e):=⟨_,mD s a d hd om,NQ s a d hd om⟩
section
include ha la
theorem j_dy:J3 52 30 [iD s a,.k (.int .i64 (-3))] [zL s a,.i .i64 (-3)]:=by
 have r:=YI s a (-3) 16385 dc dc ha om;unfold dyV dyE at r;rw[ah dc,au dc,ah dc]at r;refine j3 (f_dyn (m:=16385) (k:=3) dc dc dc dc rfl ha om) r ?_ ?_
 ·exact smz (bF ha la) dc
 ·exact smd (m:=1) dc dc
include hb lb
theorem j_make:J3 51 29 [iD s a,iD t b] [zL s a,zL t b]:=by
 have r:=Qm s t a b 12 dc ha hb la lb;by_cases f:zv t b=0
 ·have c:nv B b=0:=KU.1 f;rw[c,wH,kS]at r;exact VX (ZM f hb om) r
 ·have c:nv B b≠0:=fun h=>f (KU.2 h)
  have e1:(zv t b).natAbs=nv B b:=zV t b;rw[rX _ c,ja c,←e1]at r;refine j3 (TP (m:=12) dc rfl ha la rfl hb lb f) r ?_ ?_
  ·exact smz (mzl (bF ha la)) dc
  ·exact smd (bF hb lb) dc
include hd he ld le
theorem j_add:J3 22 31 [qD s a d,qD t b e] [rL s a d,rL t b e]:=by
 have r:=Vu s t a b d e 12 dc ha hb hd he la lb ld le;by_cases c:nv B d*nv B e=0
 ·rw[c,wH,kS]at r;exact VX (ZP (hd:=hd) (he:=he) (ld:=by omega) (le:=by omega) (h0:=c)) r
 ·rw[rX _ c,ja c]at r;refine j3 (IL (m:=12) dc rfl rfl rfl rfl ha hb hd he la lb ld le (fun h=>c (by rw[h,iT])) (fun h=>c (by rw[h,kG]))) r ?_ ?_
  ·exact smz (alz (ZX (bF ha la) (ntz (bP he le))) (ZX (bF hb lb) (ntz (bP hd ld)))) dc
  ·exact smd (mlt (bP hd ld) (bP he le)) dc
theorem j_sub:J3 53 32 [qD s a d,qD t b e] [rL s a d,rL t b e]:=by
 have r:=Vw s t a b d e 12 dc ha hb hd he la lb ld le;by_cases c:nv B d*nv B e=0
 ·rw[c,wH,kS]at r;exact VX (x_sub (hd:=hd) (he:=he) (ld:=by omega) (le:=by omega) (h0:=c) rfl hb om) r
 ·rw[rX _ c,ja c,Int.sub_eq_add_neg,←Int.neg_mul]at r;refine j3 (ZN (m:=12) dc rfl rfl rfl rfl ha hb hd he la lb ld le (fun h=>c (by rw[h,iT])) (fun h=>c (by rw[h,kG]))) r ?_ ?_
  ·exact smz (alz (ZX (bF ha la) (ntz (bP he le))) (ZX (nlz (bF hb lb)) (ntz (bP hd ld)))) dc
  ·exact smd (mlt (bP hd ld) (bP he le)) dc
theorem j_mul:J3 54 33 [qD s a d,qD t b e] [rL s a d,rL t b e]:=by
 have r:=Vx s t a b d e 12 dc ha hb hd he la lb ld le;by_cases c:nv B d*nv B e=0
 ·rw[c,wH,kS]at r;exact VX (x_mul (hd:=hd) (he:=he) (ld:=by omega) (le:=by omega) (h0:=c)) r
 ·rw[rX _ c,ja c]at r;refine j3 (fq_mul (m:=12) dc rfl rfl rfl rfl ha hb hd he la lb ld le (fun h=>c (by rw[h,iT])) (fun h=>c (by rw[h,kG]))) r ?_ ?_
  ·exact smz (ZX (bF ha la) (bF hb lb)) dc
  ·exact smd (mlt (bP hd ld) (bP he le)) dc
theorem j_quo:J3 55 34 [qD s a d,qD t b e] [rL s a d,rL t b e]:=by
 have r:=Vy s t a b d e 12 dc ha hb hd he la lb ld le;unfold qv qqe at r;by_cases c:nv B d*nv B e=0
 ·rw[au c,au c]at r;exact VX (x_quo (hd:=hd) (he:=he) (ld:=by omega) (le:=by omega) (h0:=c)) r
 ·have f:nv B d≠0:=fun h=>c (by rw[h,iT])
  have e1:nv B e≠0:=fun h=>c (by rw[h,kG])
  rw[ah c,ah c]at r;by_cases hz:zv t b=0
  ·rw[hz,Int.zero_mul,Int.natAbs_zero,wH,kS]at r;exact VX (x_quo0 (m:=12) dc rfl hz rfl rfl ha hb hd he la lb ld le f e1) r
  ·have g:(zv t b*(nv B d:Int)).natAbs≠0:=by
    rw[jy,vS];exact mM (fun h=>hz (Int.natAbs_eq_zero.1 h)) f
   rw[rX _ g,ja g]at r;refine j3 (ZO (m:=12) dc rfl rfl rfl rfl ha hb hd he la lb ld le f e1 hz) r ?_ ?_
   ·exact smz (mzl (ZX (bF ha la) (ntz (bP he le)))) dc
   ·exact smd (ZX (bF hb lb) (ntz (bP hd ld))) dc
theorem j_mid:J3 59 38 [qD s a d,qD t b e] [rL s a d,rL t b e]:=by
 have r:=VK s t a b d e 12 dc dc ha hb hd he la lb ld le;by_cases c:nv B d*nv B e=0
 ·rw[c,iT,wH,kS]at r;exact VX (x_mid (hd:=hd) (he:=he) (ld:=by omega) (le:=by omega) (h0:=c)) r
 ·have f:nv B d*nv B e*2≠0:=mM c dc;rw[rX _ f,ja f,←(mid_e c).1,←(mid_e c).2]at r;refine j3 (fq_mid (m:=12) dc rfl rfl rfl rfl ha hb hd he la lb ld le (fun h=>c (by rw[h,iT])) (fun h=>c (by rw[h,kG]))) r ?_ ?_
  ·exact smz (rzl (alz (ZX (bF ha la) (ntz (bP he le))) (ZX (bF hb lb) (ntz (bP hd ld))))) dc
  ·exact smd (mlt (rdl (mlt (bP hd ld) (bP he le))) two1) dc
theorem j_simp:J3 20 39 [qD s a d,qD t b e] [rL s a d,rL t b e]:=by
 by_cases bad:nv B d*nv B e=0
 ·exact VX (x_simp (m:=16385) dc ha hb hd he om om om om bad) (rsimp_e s t a b d e 16385 dc hd he om om bad)
 ·by_cases g:0<cz (zv s a*(nv B e:Int)) (zv t b*(nv B d:Int))
  ·exact VX (x_simp7 (m:=16385) dc ha hb hd he om om om om bad (by rw[Ii]at g;omega)) (ZI s t a b d e 16385 dc ha hb hd he om om om om bad g)
  ·have f:nv B d≠0:=fun h=>bad (by rw[h,iT])
   have c:nv B e≠0:=fun h=>bad (by rw[h,kG])
   have hle:zv s a*(nv B e:Int)≤zv t b*(nv B d:Int):=by rw[Ii]at g;omega
   refine j3 (fq_simp (m:=16385) dc dc ha hb hd he om om om om f c hle) (QP s t a b d e 16385 dc dc ha hb hd he om om om om f c hle) ?_ ?_
   ·exact sml (smpB (g_ f) (g_ c) (Ig _ f) (Ig _ c) ((Vt f c).2 hle) (rzl (bF ha la)) (rzl (bF hb lb)) (rdl (bP hd ld)) (rdl (bP he le)) dc).1 dc
   ·exact sml (smpB (g_ f) (g_ c) (Ig _ f) (Ig _ c) ((Vt f c).2 hle) (rzl (bF ha la)) (rzl (bF hb lb)) (rdl (bP hd ld)) (rdl (bP he le)) dc).2 dc
theorem j_cmp:J1 61 44 [rL s a d,rL t b e]:=⟨_,_,vJ s t a b d e 12 dc ha hb hd he la lb ld le,Vm s t a b d e 12 dc ha hb hd he la lb ld le⟩
end
end
theorem j_sum{l:List (Bool×List Nat×List Nat)}(u:l.length≤30)(h:LOk l):∃(s:Bool) (A D:List Nat) (e:Int),(A.length≤1000000∧D.length≤1000000)∧
 (∀(w:World) (H:Nat→Prop) (lv:Value),Jw w→(∀q,H q→q<w.heap.size)→Rep0 w H lv (.l 3 (RC l))→Calls Tryz.prog 58 #[lv] w (Ans w (.t [.g [.k (.bool s),.ow A 0,.ow D 1],.k (.int .i64 e)])))∧aT 37 [.l 3 (RC l)] (.t [rL s A D,.i .i64 e]):=by
 have r:=VB l om h
 unfold sumV at r
 by_cases a:ce l=1
 ·rw[au a,a]at r;exact⟨false,[],[],1,⟨sy,sy⟩,fun w H lv f j c=>(x_sum f j c u h a).mono fun e w' h=>h.err3,r⟩
 ·have m:ce l=0:=by unfold ce at a ⊢;split<;>simp_all
  rw[ah a,m]at r;obtain⟨q1,q2,_⟩:=KW h m l.length (aY _);exact⟨_,_,_,0,⟨sml q1 om,sml q2 om⟩,fun w H lv f j c=>sum_raw f j c u h m,r⟩
end
section
abbrev Pt(q:Nat):Value:= .pointer (some ⟨q,0,none⟩)
abbrev vn:Value:= .slice none 0 0
theorem kl{w0 w:World}{γ:Gh}:∀{L xs:List Value},l0 w0 γ w (L.map Δ.k) xs→xs=L
 |[],[],_=>rfl
 |v::L,x::xs,h=>by rw[show x=v from h.1,kl (L:=L) (xs:=xs) h.2]
 |[],_::_,h=>h.elim
 |_::_,[],h=>h.elim
section
variable {w0 w w1:World} {γ:Gh} {N c:Nat} {E:En} {Bx:Bs} {a:Act}
theorem PS.bk(S:PS w0 N c E Bx γ a w){t j:Nat}{bt:TypeId}{L:List Value}(ht:lk E t=some (.p j 0))(hb:lk Bx j=some (bt,L.map Δ.k)):∃q,γ.β j=some q∧a.tmps.getD t undef=Pt q∧w.heap[q]? =some (.cells L.toArray bt (0,0))∧w0.heap.size≤q:=by
 obtain⟨q,f,y⟩:=S.env t _ ht;obtain⟨g,xs,u,m,l⟩:=S.box j _ hb;obtain rfl:q=g:=dS (f.symm.trans u);obtain rfl:=kl l;exact⟨q,f,y,m,(S.W.bn j q f).1⟩
theorem sd_new{b:Nat}(h:w.heap[b]? =some (.cells #[vn,vn,vn] 41 (0,0))):Sd w b vn vn vn 0 0 0 [] [] []:=
 ⟨⟨1,rfl,.inr ⟨b,1,_,rfl,aG _,h,aY _,dc,rfl,rfl⟩⟩,⟨rfl,.inl ⟨rfl,rfl⟩⟩,⟨rfl,.inl ⟨rfl,rfl⟩⟩,⟨rfl,.inl ⟨rfl,rfl⟩⟩⟩
theorem as_0(κ:Bool){lv:Value}{A z t2 y:TypeId}{c0 c1 c2 c3:List Value}(S:PS w0 N c E Bx γ a w1)
 (e4:lk E 4=some (.k lv)) (e5:lk E 5=some (.p 0 0)) (e6:lk E 6=some (.p 1 0)) (e7:lk E 7=some (.p 2 0)) (Z:lk E 8=some (.p 3 0)) (u:lk E 10=some (.p 4 0)) (m:lk E 11=some (.p 5 0))
 (b0:lk Bx 0=some (A,c0.map Δ.k)) (b1:lk Bx 1=some (z,c1.map Δ.k)) (b2:lk Bx 2=some (t2,c2.map Δ.k)) (b3:lk Bx 3=some (y,c3.map Δ.k)) (b4:lk Bx 4=some (41,[vn,vn,vn].map Δ.k)) (b5:lk Bx 5=some (41,[vn,vn,vn].map Δ.k)):
 ∃q0 q1 q2 l g b,w0.heap.size≤g∧AS κ w0 N b [(4,lv),(5,Pt q0),(6,Pt q1),(7,Pt q2),(8,Pt l),(10,Pt g),(11,Pt b)] [(q0,c0.toArray,A),(q1,c1.toArray,z),(q2,c2.toArray,t2),(l,c3.toArray,y),(g,#[vn,vn,vn],41)] vn vn vn [] [] [] a w1:=by
 obtain⟨q0,Q,y0,z0,_⟩:=S.bk e5 b0
 obtain⟨q1,x1,y1,z1,_⟩:=S.bk e6 b1
 obtain⟨q2,x2,M,H,_⟩:=S.bk e7 b2
 obtain⟨l,x3,L,G,_⟩:=S.bk Z b3
 obtain⟨g,P,J,F,U⟩:=S.bk u b4
 obtain⟨b,O,I,C,T⟩:=S.bk m b5
 have ne:∀{j q:Nat},γ.β j=some q→j≠5→¬Sq b vn vn vn q:=fun Y h hq=>by
  rcases hq with rfl|hq|hq|hq
  ·exact h (S.W.bi _ _ _ Y O)
  ·cases hq
  ·cases hq
  ·cases hq
 refine⟨q0,q1,q2,l,g,b,U,S.sz,S.df,fun p f=>?_,S.W.bel,fun p f=>?_,sd_new C,fun q hq=>?_,?_⟩
 ·simp only[dZ,og,or_false]at f;rcases f with rfl|rfl|rfl|rfl|rfl|rfl|rfl
  ·exact S.env 4 _ e4
  ·exact y0
  ·exact y1
  ·exact M
  ·exact L
  ·exact J
  ·exact I
 ·simp only[dZ,og,or_false]at f;rcases f with rfl|rfl|rfl|rfl|rfl
  ·exact⟨z0,ne Q dc⟩
  ·exact⟨z1,ne x1 dc⟩
  ·exact⟨H,ne x2 dc⟩
  ·exact⟨G,ne x3 dc⟩
  ·exact⟨F,ne P dc⟩
 ·rcases hq with rfl|hq|hq|hq
  ·exact T
  ·cases hq
  ·cases hq
  ·cases hq
 ·cases κ with
  |true=>exact⟨⟨fun p f=>(by cases f),fun i j vi vj q _ h=>(by simp[rls,Fz]at h)⟩,fun p q f=>(by cases f)⟩
  |false=>exact fun p f=>by cases f
end
section
variable {κ:Bool} {w0 w:World} {N b:Nat} {K:List (Nat×Value)} {OB:List (Nat×Array Value×TypeId)} {vr vi vm:Value} {R:List TQ} {I:List TZ} {M:List Int} {a:Act}
variable{H:Nat→Prop}{o:Nat}{t:TypeId}{x1:Value}{A:List Nat}
theorem AS.up(h:AS κ w0 N b K OB vr vi vm R I M a w)(c:∀q,H q→q<w0.heap.size){v:Value}{V:V}(h1:Rep0 w0 H v V):Rep0 w H v V:=h1.mono (fun _ h=>h) fun q hq=>h.bel.block q (c q hq)
theorem AS.out(h:AS κ w0 N b K OB vr vi vm R I M a w)(c:∀q,H q→q<w0.heap.size):∀q,H q→q<w.heap.size∧¬Sq b vr vi vm q:=fun q hq=>⟨eu (c q hq) h.bel.size,fun hz=>by have:=h.lo q hz;have:=c q hq;omega⟩
theorem AS.o3(h:AS κ w0 N b K OB vr vi vm R I M a w){s:Bool}{x2:Value}{D:List Nat}(hm:(o,#[.bool s,x1,x2],t)∈OB)(c:∀q,H q→q<w0.heap.size)(h1:Rep0 w0 H x1 (.l 1 (W A)))(h2:Rep0 w0 H x2 (.l 1 (W D))):Old w o [.k (.bool s),.rz (Sq b vr vi vm) A,.rz (Sq b vr vi vm) D]:=
 ⟨[.bool s,x1,x2],t,(h.ob _ hm).1,fun γ w' F f=>⟨rfl,QW f (h.out c) (h.up c h1),QW f (h.out c) (h.up c h2),trivial⟩⟩
theorem AS.o2(h:AS κ w0 N b K OB vr vi vm R I M a w){s:Bool}(hm:(o,#[.bool s,x1],t)∈OB)(c:∀q,H q→q<w0.heap.size)(h1:Rep0 w0 H x1 (.l 1 (W A))):Old w o [.k (.bool s),.rz (Sq b vr vi vm) A]:=
 ⟨[.bool s,x1],t,(h.ob _ hm).1,fun γ w' F f=>⟨rfl,QW f (h.out c) (h.up c h1),trivial⟩⟩
end
section
variable {w0:World} {N i:Nat} {R:Nat→Option Δ} {Bx:Bs} {dst:Option Tmp} {f:FuncId} {args:Array Operand} {A7:Array TypeId} {t:TypeId} {p:String} {e:Array Edge} {gd:Option (Nat×Bool)} {Z:Nat→Prop} {s:Bool} {A D:List Nat} {z:Int} {vs:List V} {ds:List Δ}
theorem ZY(hT:TJ w0 fun q=>q<w0.heap.size∧¬Z q)(u:∀q,Z q→q<w0.heap.size)(c:aT f vs (.t [rL s A D,.i .i64 z]))(hz:zzA Z ds)(j:Gt R args.toList=some ds:=by exact rfl)(l:ds.map Δ.v1=vs:=by rfl)(m:Jb Tryz.prog f=true:=by kernel_rfl):Ok Tryz.prog w0 N ⟨dst,.call ⟨.value (.func f),args,A7⟩,t,p,e,gd⟩ i R Bx (.t [.g [.k (.bool s),.rz Z A,.rz Z D],.k (.int .i64 z)]) none:=
 ZV (es:=[.k (.bool s),.rz Z A,.rz Z D]) c hT u (fun γ a w F C y=>l▸Gt.vz y j hz) ⟨trivial,rfl,rfl,trivial⟩ m
theorem pz2(hT:TJ w0 fun q=>q<w0.heap.size∧¬Z q)(u:∀q,Z q→q<w0.heap.size)(c:aT f vs (.t [zL s A,.i .i64 z]))(hz:zzA Z ds)(j:Gt R args.toList=some ds:=by exact rfl)(l:ds.map Δ.v1=vs:=by rfl)(m:Jb Tryz.prog f=true:=by kernel_rfl):Ok Tryz.prog w0 N ⟨dst,.call ⟨.value (.func f),args,A7⟩,t,p,e,gd⟩ i R Bx (.t [.g [.k (.bool s),.rz Z A],.k (.int .i64 z)]) none:=
 ZV (es:=[.k (.bool s),.rz Z A]) c hT u (fun γ a w F C y=>l▸Gt.vz y j hz) ⟨trivial,rfl,trivial⟩ m
variable{lv:Value}{sl:Nat}{H:Nat→Prop}{P:Program}{ty:TypeId}{vl:V}
theorem pzs(hT:TJ w0 fun q=>q<w0.heap.size∧¬Z q)(J:∀q,Z q→q<w0.heap.size)(c:aT f [vl] (.t [rL s A D,.i .i64 z]))(C:R sl=some (.k lv))(l:∀q,H q→q<w0.heap.size∧¬Z q)(E:Rep0 w0 H lv vl)(I:Jb Tryz.prog f=true:=by kernel_rfl):Ok Tryz.prog w0 N ⟨dst,.call ⟨.value (.func f),#[.tmp sl],A7⟩,t,p,e,gd⟩ i R Bx (.t [.g [.k (.bool s),.rz Z A,.rz Z D],.k (.int .i64 z)]) none:=
 ZV (es:=[.k (.bool s),.rz Z A,.rz Z D]) c hT J (fun γ a w F m L=>by
  have e1:a.eval (.tmp sl)=lv:=L sl _ C;simp only[dI,fJ,e1];refine⟨rfl,fun j v x u y=>?_⟩;cases j with
  |zero=>
   simp at u y;subst u;subst y;exact E.mono (fun q hq=>⟨⟨eu (l q hq).1 m.bel.size,fun i G=>by have:=(m.bn i q G).1;have:=(l q hq).1;omega⟩,(l q hq).2⟩) fun q hq=>m.bel.block q (l q hq).1
  |succ j=>simp at u) ⟨trivial,rfl,rfl,trivial⟩ I
theorem pqs{d:Δ}(c:∀(w:World) (H:Nat→Prop) (lv:Value),Jw w→(∀q,H q→q<w.heap.size)→Rep0 w H lv vl→Calls Tryz.prog f #[lv] w (Ans w d))(m:R sl=some (.k lv))(l:∀q,H q→q<w0.heap.size)(u:Rep0 w0 H lv vl)(hd:d.r2=true:=by rfl)(y:Jb Tryz.prog f=true:=by kernel_rfl):Ok Tryz.prog w0 N ⟨dst,.call ⟨.value (.func f),#[.tmp sl],A7⟩,t,p,e,gd⟩ i R Bx (d.rn i) none:=
 ok_cR y (fun γ a w F g z=>by
  have e1:a.eval (.tmp sl)=lv:=z sl _ m;simp only[dI,fJ,e1];exact c w H lv (g.j.up g.bel) (fun q hq=>eu (l q hq) g.bel.size) (u.mono (fun _ h=>h) fun q hq=>g.bel.block q (l q hq))) hd
theorem ok_ps{pl:List UInt8}(c:aT f vs (.t [.s pl,.i .i64 z]))(A:Gt R args.toList=some ds:=by exact rfl)(g:ds.map Δ.v1=vs:=by rfl)(ha:ds.all Δ.nt=true:=by rfl)(E:Jb Tryz.prog f=true:=by kernel_rfl):Ok Tryz.prog w0 N ⟨dst,.call ⟨.value (.func f),args,A7⟩,t,p,e,gd⟩ i R Bx (.t [.k (.string ⟨pl.toArray⟩),.k (.int .i64 z)]) none:=⟨fun Q γ a w F K hz l I H P hK=>by
 have G:=(c.to0 rfl) w (Hn γ w) _ trivial (TJ.mono l.j (fun q h=>⟨eu h l.bel.size,fun i C=>by have:=(l.bn i q C).1;omega⟩) fun q h=>l.bel.block q h) (fun q h=>h.1) (g▸Gt.v l H A ha);unfold Oper.wp;rw[pG E,Oper.upon_enter];refine G.mono ?_;rintro e w' ⟨v,rfl,hb,T,O,h⟩;rcases h with h|⟨e,sz,cs,n,xs,he,_⟩|⟨M,he,_⟩
 ·have u:=l.Tu (below_le l hb);obtain⟨xs,rfl,m⟩:=(Rep.up (ov:=fun _=>none) h).RU;match xs,m with
  |[],g=>exact absurd g.1 sy
  |[_],g=>exact absurd g.1 sy
  |_::_::_::_,g=>exact absurd g.1 sy
  |[p,q],g=>
   have L:=(Rep.up (ov:=fun _=>none) (g.2 0 p _ rfl rfl)).BB;have J:=(Rep.up (ov:=fun _=>none) (g.2 1 q _ rfl rfl)).dU;subst L J;exact hK γ _ w' (.of hb) hb (u.sub fun _ h=>h.1) ⟨_,rfl,rfl,rfl,trivial⟩ fun b h=>by cases h
 ·cases he
 ·cases he⟩
theorem ZZ:Ok Tryz.prog w0 N ⟨dst,.alloc 41,t,p,e,gd⟩ i R Bx (.p i 0) (some (41,[.k vn,.k vn,.k vn])):=JK (z:= .agg #[vn,vn,vn]) kf
def isStr(P:Program)(ty:TypeId):Bool:=match P.underlying ty with
 |some .string=>true
 |_=>false
theorem len_st{t:TypeId}{st:ByteArray}(a:isStr P ty=true)(w:World):(Builtin.len_ #[ty] t #[.string st]).run P w= .ok (.int .i64 (st.size:Int)) w:=by
 unfold isStr at a;split at a
 ·rename_i c;simp[Builtin.len_,run_underlying c,goInt]
 ·cases a
theorem Z4{x:Operand}{st:ByteArray}(h:lX R x (.k (.string st)))(c:isStr P ty=true):Ok P w0 N ⟨dst,.call ⟨.builtin .len,#[x],#[ty]⟩,t,p,e,gd⟩ i R Bx (.k (.int .i64 (st.size:Int))) none:=
 wV fun γ w a f _=>by
  have g:a.eval x= .string st:=h.ev f;exact⟨_,by simp[execOp,resolve,invoke,builtin,g,len_st c,Result.andThen],rfl⟩
end
end
section
def AR(κ:Bool)(w0:World)(RK:List (Bool×List Nat×List Nat))(IK:List (Bool×List Nat))(M:List Int)(e:Ending)(w':World):Prop:=∃(b:Nat) (vr vi vm:Value) (R:List TQ) (I:List TZ),e= .returned (.agg #[vr,vi,vm])∧Below w0.heap.size w0 w'∧Sd w' b vr vi vm R.length I.length M.length (OO R) (OQ I) (Mc M)∧(∀q,Sq b vr vi vm q→w0.heap.size≤q)∧Fm κ w0 w' (Sq b vr vi vm) (rls R++Fz I)∧R.map (fun p=>(p.1,p.2.1.2,p.2.2.2))=RK∧I.map (fun p=>(p.1,p.2.2))=IK
theorem rep_off{w:World}{H:Nat→Prop}{v:Value}{A:List Nat}{q:Nat}{t:TypeId}(h:Rep0 w H v (.l 1 (W A)))(hq:w.heap[q]? =some (.cells #[vn,vn,vn] t (0,0))):Rep0 w (fun p=>H p∧p≠q) v (.l 1 (W A)):=by
 obtain⟨a,n,cap,f,b,o,rfl,G,hl,F,m,ha,C,y⟩:=(Rep.up (ov:=fun _=>none) h).vV;refine .l a n cap 1 _ f b o G hl F m ?_ C fun j x g=>?_
 ·rcases ha with ha|⟨ha,hb⟩
  ·exact .inl ha
  ·by_cases E:W A=[]
   ·exact .inl E
   ·refine .inr ⟨ha,hb,fun e=>?_⟩;subst e;have z:0<(W A).length:=yD.2 E;have c0:=C 0 z;obtain⟨x,g⟩:∃x,(W A)[0]? =some x:=⟨_,bC z⟩;have r0:=y 0 x g;have c:∃k,x= .i .u64 k:=by
     have:=dP g;obtain⟨k,_,e⟩:=eG.1 this;exact⟨_,e.symm⟩
    obtain⟨k,rfl⟩:=c;have:=(Rep.up (ov:=fun _=>none) r0).dU;rw[this]at c0;have c1:=cell_of_row w b (o+0) #[vn,vn,vn] t (0,0) hq;simp only[ik]at c0;rw[show w.cell? ⟨b,o,none⟩=(#[vn,vn,vn]:Array Value)[o]? from by simp[World.cell?,hq]]at c0;match o,c0 with
    |0,c0=>cases c0
    |1,c0=>cases c0
    |2,c0=>cases c0
    |o+3,c0=>simp at c0
 ·have:=y j x g;have c:∃k,x= .i .u64 k:=by
   have:=dP g;obtain⟨k,_,e⟩:=eG.1 this;exact⟨_,e.symm⟩
  obtain⟨k,rfl⟩:=c;rw[(Rep.up (ov:=fun _=>none) this).dU];exact .i _ _
section
variable {κ:Bool} {w0 w:World} {N b:Nat} {K:List (Nat×Value)} {OB:List (Nat×Array Value×TypeId)} {vr vi vm:Value} {R:List TQ} {I:List TZ} {M:List Int} {a:Act} {q:Nat} {RK:List (Bool×List Nat×List Nat)} {IK:List (Bool×List Nat)}
theorem as_ar(h:AS κ w0 N b K OB vr vi vm R I M a w)(A:(q,#[vn,vn,vn],41)∈OB)(C:w0.heap.size≤q)(F:R.map (fun p=>(p.1,p.2.1.2,p.2.2.2))=RK)(G:I.map (fun p=>(p.1,p.2.2))=IK){cs:Array Value}:AR κ w0 RK IK M (.returned (.agg #[vr,vi,vm])) (w.setRow q cs):=by
 obtain⟨hq,hz⟩:=h.ob _ A;have y:(w.setRow q cs).heap.size=w.heap.size:=by simp[World.setRow]
 have hb:∀p,p≠q→(w.setRow q cs).heap[p]? =w.heap[p]? :=fun p f=>setRow_other w q p cs f
 have z:q<w.heap.size:=(pW.1 hq).1;have J:=h.bel.size;refine⟨b,vr,vi,vm,R,I,rfl,⟨h.bel.os,h.bel.tape,h.bel.output,om,fun p f=>(hb p om).trans (h.bel.block p f)⟩,h.sd.keep fun p f=>hb p fun e=>hz (e▸f),h.lo,?_,F,G⟩;have j:=h.fm;cases κ with
 |true=>
  refine⟨j.1.keep fun p r f c=>hb r fun e=>?_,j.2⟩;subst e;obtain⟨m,_,u⟩:=j.1.own p f;rcases u.2 with ⟨e1,_⟩|⟨g,cap,cur,e1,_,l,_⟩
  ·rw[e1]at c;cases c
  ·rw[e1]at c;cases c;rw[l]at hq;cases hq
 |false=>
  intro p f;obtain⟨H,l,E⟩:=j p f;refine⟨fun p=>H p∧p≠q,fun r c=>⟨by rw[y];exact(l r c.1).1,(l r c.1).2⟩,(rep_off E hq).mono (fun _ h=>h) fun r c=>hb r c.2⟩
theorem Z5{ops:Array Oper}{Q:Exit→Act→World→Prop}{Y t2:TypeId}{p1 p2:String}{e1 e2:Array Edge}{fn:Func}(h:AS κ w0 N b K OB vr vi vm R I M a w)(hk:(10,Pt q)∈K)(hb:(11,Pt b)∈K)(Z:(q,#[vn,vn,vn],41)∈OB)(hN:Nat.blt 124 N=true)(hres:fn.results.toList=[.cell 10 41])(J:w0.heap.size≤q)(eR:R.map (fun p=>(p.1,p.2.1.2,p.2.2.2))=RK)(eI:I.map (fun p=>(p.1,p.2.2))=IK)
 (hQ:∀(U:Act) (w':World),U.defers=[]→(results fn U.tmps).run Tryz.prog w'= .ok (.agg #[vr,vi,vm]) w'→AR κ w0 RK IK M (.returned (.agg #[vr,vi,vm])) w'→Q .normal U w'):
 wpList Tryz.prog ops Q [⟨some 124,.load 41 (.tmp 11),Y,p1,e1,none⟩,⟨none,.store 41 (.tmp 10) (.tmp 124),t2,p2,e2,none⟩] a w:=by
 have C:a.tmps.getD 10 undef=Pt q:=h.kp _ hk
 have A:a.tmps.getD 11 undef=Pt b:=h.kp _ hb
 obtain⟨hq,hz⟩:=h.ob _ Z
 obtain⟨cap,hbox⟩:=h.sd.box
 obtain⟨_,H⟩:=hbox
 rcases H with ⟨e1,_⟩|⟨g,cap',cur,e1,_,hg,_,_,hsz,E⟩
 ·cases e1
 cases e1
 have T:w.heap[b]? =some (.cells cur.toList.toArray 41 (0,0)):=by simpa using hg
 have L:(Instr.loadAt 41 (Pt b)).run Tryz.prog w= .ok (.agg #[vr,vi,vm]) w:=by
  obtain⟨ti,G,hs⟩:=jT.1 (show(Tryz.prog.info? 41).map (·.size)=some 3 by kernel_rfl);have c:lN Tryz.prog 41=true:=by kernel_rfl
  obtain⟨f,hd⟩:∃f,Tryz.prog.underlying 41=some f:=by
   unfold lN at c;cases y:Tryz.prog.underlying 41 with
   |some f=>exact⟨f,rfl⟩
   |none=>rw[y]at c;cases c
  exact(vX (P:=Tryz.prog) (w:=w) _ b 0 3 [vr,vi,vm] rfl (fun j u y=>vY T (by
   rw[eY];have:(cur.toList.take (1*3))[j]? =some u:=by rw[E];exact y
   rw[ou]at this;split at this
   ·exact this
   ·cases this)) G hs hd).1 c
 refine BigFrame.wpList_want rfl fun F hF=>?_
 unfold Oper.wp
 rw[show(execOp a.eval (⟨some 124,.load 41 (.tmp 11),Y,p1,_,none⟩:Oper)).run Tryz.prog w= .ok (.value (.agg #[vr,vi,vm])) w from by simp[execOp,bU,A,L]]
 refine hF _ _ ?_
 have z:124<a.tmps.size:=by rw[h.sz];exact Nat.blt_eq▸hN
 obtain⟨r1,r2,s1⟩:=iE h.sd.rr
 obtain⟨r3,r4,s2⟩:=iE h.sd.ri
 obtain⟨r5,r6,s3⟩:=iE h.sd.rm
 have m:(a.put (some 124) (.agg #[vr,vi,vm])).tmps.getD 10 undef=Pt q:=by rw[tJ dc];exact C
 refine wpList_store_row rfl 41 (.tmp 10) (.tmp 124) rfl q #[vr,vi,vm] m (put_eq z) 41 #[vn,vn,vn] hq kf rfl (by rw[s1,s2,s3];simp[Value.oneCell']) ?_
 have O:(w.setRow q #[vr,vi,vm]).heap[q]? =some (.cells #[vr,vi,vm] 41 (0,0)):=setRow_heap w q _ _ _ _ hq
 refine hQ _ _ h.df ?_ (as_ar h Z J eR eI)
 have c:lN Tryz.prog 41=true:=by kernel_rfl
 obtain⟨f,hd⟩:∃f,Tryz.prog.underlying 41=some f:=by
  unfold lN at c;cases y:Tryz.prog.underlying 41 with
  |some f=>exact⟨f,rfl⟩
  |none=>rw[y]at c;cases c
 have hl:=run_loadVar_row (P:=Tryz.prog) (w.setRow q #[vr,vi,vm]) q _ 41 #[vr,vi,vm] (0,0) f O hd (by unfold lN at c;rw[hd]at c;cases f<;>first|rfl|cases c) kf
 have:(fn.results.toList.mapM (rvF ((a.put (some 124) (.agg #[vr,vi,vm])).put none undef).tmps)).run Tryz.prog (w.setRow q #[vr,vi,vm])= .ok [.agg #[vr,vi,vm]] (w.setRow q #[vr,vi,vm]):=by
  rw[hres];have l:((a.put (some 124) (.agg #[vr,vi,vm])).put none undef).tmps.getD 10 undef=Pt q:=m;simp only[List.mapM_cons,List.mapM_nil,Sem.run_bind,Sem.run_pure,rvF,l,asAddr,hl,Result.andThen_ok]
 rw[Lj this]
 rfl
end
end
