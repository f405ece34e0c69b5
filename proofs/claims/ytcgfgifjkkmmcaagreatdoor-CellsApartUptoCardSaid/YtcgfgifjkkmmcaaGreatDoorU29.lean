import Derived.Test.YtcgfgifjkkmmcaaGreatDoorU28
set_option linter.all false
set_option maxHeartbeats 10000000
set_option maxRecDepth 2000000
namespace Go.Proofs.YtcgfgifjkkmmcaaGreatDoor
open Go Go.RowKit Go.Proofs Ab
section
variable {w0 w w':World} {γ:Gh} {N i c:Nat} {R:Nat→Option Δ} {Bx:Bs} {F:Nat→Prop} {P:Program}
theorem b_raw{f:FuncId}{args:List V}{x:Bool}{w:World}{H:Nat→Prop}{vs:List Value}(c:ah Tryz.prog J0 f args (.b x))(hH:∀q,H q→q<w.heap.size)(hr:aj w H vs args):Calls Tryz.prog f vs.toArray w (fun e w'=>e= .returned (.bool x)∧Below w.heap.size w w'):=by
 refine((c.Vf rfl) w H vs trivial (NI _ _) hH hr).mono ?_;rintro e w' ⟨v,rfl,hB,N,hN,h⟩;rcases h with h|⟨e,sz,cs,n,xs,he,_⟩|⟨r,h,_⟩
 ·cases h;exact⟨rfl,hB⟩
 ·cases he
 ·cases h
def kE(a:Act):En→Prop
 |[]=>True
 |(t,.k v)::r=>a.tmps.getD t undef=v∧kE a r
 |_::_=>False
theorem Zq{a:Act}:∀{E:En} {t:Nat} {d:Δ},kE a E→lk E t=some d→s2 w0 γ w d (a.tmps.getD t undef)
 |[],_,_,_,h=>by cases h
 |(u,.k v)::r,t,d,hk,h=>by
  rcases aG h with ⟨rfl,rfl⟩|⟨_,h⟩
  ·exact hk.1
  ·exact Zq hk.2 h
 |(_,.ow _ _)::_,_,_,hk,_=>hk.elim
 |(_,.rd _)::_,_,_,hk,_=>hk.elim
 |(_,.rz _ _)::_,_,_,hk,_=>hk.elim
 |(_,.p _ _)::_,_,_,hk,_=>hk.elim
 |(_,.sl _ _ _)::_,_,_,hk,_=>hk.elim
 |(_,.f _)::_,_,_,hk,_=>hk.elim
 |(_,.g _)::_,_,_,hk,_=>hk.elim
 |(_,.t _)::_,_,_,hk,_=>hk.elim
theorem sU{a:Act}{E:En}(hj:Jw w)(hz:a.tmps.size=N)(hd:a.defers=[])(hE:kE a E):PS w N 0 E [] g0 a w:=
 ⟨wi_0 hj,hz,hd,fun _ _ h=>Zq hE h,fun _ _ h=>(by cases h)⟩
theorem bW{q:Nat}{xs:List Value}{bt:TypeId}(h:w.heap[q]? =some (.cells xs.toArray bt (0,0))):Old w q (xs.map .k):=
 ⟨xs,bt,h,fun _ _ _ _=>l0_k xs⟩
theorem Yf{B e sz n g cap:Nat}{xs:List Value}(h:w.ownsRow B e sz (.slice (some ⟨g,0,none⟩) n cap) n xs):∃gs:List Value,Old w g (xs.map .k++gs.map .k):=by
 rcases h.2 with ⟨h,_⟩|⟨g',cap',cur,e1,_,h2,_,_,_,h4⟩
 ·cases h
 ·cases e1;refine⟨cur.toList.drop (n*sz),?_⟩;rw[←List.map_append,←h4,List.take_append_drop];exact bW (by simpa using h2)
section
variable {dst:Option Tmp} {x y:Operand} {ty t:TypeId} {p:String} {e:Array Edge} {gd:Option (Nat×Bool)} {q k n m s:Nat} {kk:IntKind} {z:Int} {ds:List Δ} {d:Δ}
theorem LG(h:bI R x (.k (.slice (some ⟨q,0,none⟩) n m)))(hy:bI R y (.k (.int kk z)))(hu:slE P ty s=true)(hz:(decide (0≤z)&&decide (z<(n:Int)))=true):Ok P w0 N ⟨dst,.indexAddr ty x y,t,p,e,gd⟩ i R Bx (.k (.pointer (some ⟨q,z.toNat*s,none⟩))) none:=
 mD fun γ w a hR _=>by
  have h2:a.eval x= .slice (some ⟨q,0,none⟩) n m:=h.ev hR;have h3:a.eval y= .int kk z:=hy.ev hR;exact⟨_,by simp[execOp,h2,h3,Zj hu hz,Result.andThen],rfl⟩
theorem fk_p1(h:bI R x (.k (.pointer (some ⟨q,k,none⟩)))):Ok Tryz.prog w0 N ⟨dst,.fieldAddr 41 x 1,t,p,e,gd⟩ i R Bx (.k (.pointer (some ⟨q,k+3,none⟩))) none:=uF h kf
theorem fk_p2(h:bI R x (.k (.pointer (some ⟨q,k,none⟩)))):Ok Tryz.prog w0 N ⟨dst,.fieldAddr 41 x 2,t,p,e,gd⟩ i R Bx (.k (.pointer (some ⟨q,k+4,none⟩))) none:=uF h kf
theorem fk_p3(h:bI R x (.k (.pointer (some ⟨q,k,none⟩)))):Ok Tryz.prog w0 N ⟨dst,.fieldAddr 41 x 3,t,p,e,gd⟩ i R Bx (.k (.pointer (some ⟨q,k+5,none⟩))) none:=uF h kf
theorem fk_p4(h:bI R x (.k (.pointer (some ⟨q,k,none⟩)))):Ok Tryz.prog w0 N ⟨dst,.fieldAddr 41 x 4,t,p,e,gd⟩ i R Bx (.k (.pointer (some ⟨q,k+6,none⟩))) none:=uF h kf
theorem fk_i1(h:bI R x (.k (.pointer (some ⟨q,k,none⟩)))):Ok Tryz.prog w0 N ⟨dst,.fieldAddr 25 x 1,t,p,e,gd⟩ i R Bx (.k (.pointer (some ⟨q,k+1,none⟩))) none:=uF h kf
theorem fk_q0(h:bI R x (.k (.pointer (some ⟨q,k,none⟩)))):Ok Tryz.prog w0 N ⟨dst,.fieldAddr 29 x 0,t,p,e,gd⟩ i R Bx (.k (.pointer (some ⟨q,k+0,none⟩))) none:=uF h kf
theorem fk_q1(h:bI R x (.k (.pointer (some ⟨q,k,none⟩)))):Ok Tryz.prog w0 N ⟨dst,.fieldAddr 29 x 1,t,p,e,gd⟩ i R Bx (.k (.pointer (some ⟨q,k+2,none⟩))) none:=uF h kf
theorem lo_s(h:bI R x (.k (.pointer (some ⟨q,k,none⟩))))(ho:Old w0 q ds)(hd:ds[k]? =some d):Ok Tryz.prog w0 N ⟨dst,.load 38 x,t,p,e,gd⟩ i R Bx d none:=Dh ho h kf kf hd
theorem lo_t(h:bI R x (.k (.pointer (some ⟨q,k,none⟩))))(ho:Old w0 q ds)(hd:ds[k]? =some d):Ok Tryz.prog w0 N ⟨dst,.load 39 x,t,p,e,gd⟩ i R Bx d none:=Dh ho h kf kf hd
theorem lo_u(h:bI R x (.k (.pointer (some ⟨q,k,none⟩))))(ho:Old w0 q ds)(hd:ds[k]? =some d):Ok Tryz.prog w0 N ⟨dst,.load 62 x,t,p,e,gd⟩ i R Bx d none:=Dh ho h kf kf hd
theorem lo_v(h:bI R x (.k (.pointer (some ⟨q,k,none⟩))))(ho:Old w0 q ds)(hd:ds[k]? =some d):Ok Tryz.prog w0 N ⟨dst,.load 64 x,t,p,e,gd⟩ i R Bx d none:=Dh ho h kf kf hd
theorem lo_n(h:bI R x (.k (.pointer (some ⟨q,k,none⟩))))(ho:Old w0 q ds)(hd:ds[k]? =some d):Ok Tryz.prog w0 N ⟨dst,.load 23 x,t,p,e,gd⟩ i R Bx d none:=Dh ho h kf kf hd
theorem ik_s(h:bI R x (.k (.slice (some ⟨q,0,none⟩) n m)))(hy:bI R y (.k (.int kk z)))(hz:(decide (0≤z)&&decide (z<(n:Int)))=true):Ok Tryz.prog w0 N ⟨dst,.indexAddr 38 x y,t,p,e,gd⟩ i R Bx (.k (.pointer (some ⟨q,z.toNat*1,none⟩))) none:=LG h hy kf hz
theorem ik_t(h:bI R x (.k (.slice (some ⟨q,0,none⟩) n m)))(hy:bI R y (.k (.int kk z)))(hz:(decide (0≤z)&&decide (z<(n:Int)))=true):Ok Tryz.prog w0 N ⟨dst,.indexAddr 39 x y,t,p,e,gd⟩ i R Bx (.k (.pointer (some ⟨q,z.toNat*1,none⟩))) none:=LG h hy kf hz
theorem ik_u(h:bI R x (.k (.slice (some ⟨q,0,none⟩) n m)))(hy:bI R y (.k (.int kk z)))(hz:(decide (0≤z)&&decide (z<(n:Int)))=true):Ok Tryz.prog w0 N ⟨dst,.indexAddr 62 x y,t,p,e,gd⟩ i R Bx (.k (.pointer (some ⟨q,z.toNat*2,none⟩))) none:=LG h hy kf hz
theorem ik_v(h:bI R x (.k (.slice (some ⟨q,0,none⟩) n m)))(hy:bI R y (.k (.int kk z)))(hz:(decide (0≤z)&&decide (z<(n:Int)))=true):Ok Tryz.prog w0 N ⟨dst,.indexAddr 64 x y,t,p,e,gd⟩ i R Bx (.k (.pointer (some ⟨q,z.toNat*3,none⟩))) none:=LG h hy kf hz
theorem aY{p:Prop}(h:p:=by first
 |exact kU rfl|exact GI rfl|exact Za rfl
 |exact fk_p1 rfl|exact fk_p2 rfl|exact fk_p3 rfl|exact fk_p4 rfl|exact fk_b rfl|exact fk_i1 rfl|exact fk_q0 rfl|exact fk_q1 rfl
 |exact lo_s rfl (by assumption) rfl|exact lo_t rfl (by assumption) rfl|exact lo_u rfl (by assumption) rfl|exact lo_v rfl (by assumption) rfl|exact lo_n rfl (by assumption) rfl
 |exact Zi rfl kf
 |exact ik_s rfl rfl rfl|exact ik_t rfl rfl rfl|exact ik_u rfl rfl rfl|exact ik_v rfl rfl rfl
 |exact uD rfl rfl rfl rfl|exact sO rfl|exact qV rfl rfl rfl):p:=h
end
theorem goK{p:Prop}(h:p:=by first|exact GK aY|exact KZ aY rfl rfl rfl rfl|exact K_ rfl rfl rfl rfl|exact TD rfl rfl rfl kf rfl rfl rfl):p:=h
theorem ve{p q:Prop}(k:q)(h:PLift q→p:=by
 intro hq;(repeat (first|(show wpList _ _ _ (_::_) _ _;refine XM S goK ?_;intro x1 x2 x3 S)|refine wsr ?_|refine wsq ?_|refine b_ ?_));first|(revert x1 x2 x3;exact hq.down)|exact hq.down):p:=h ⟨k⟩
end
section
variable {w0 w:World} {b:Nat} {vl vf vu v3 v4:Value} {es:List Ro} {Us:List Value} {X:Nat→Prop}
abbrev iy:Value:= .slice none 0 0
theorem NB.untouched(h:NB w0 w b (v3,v4,iy,iy) vl vf vu es Us X)(hl:es.length≤1000)(hr:∀e,e∈es→e.2.2.length≤100000000):Calls Tryz.prog 49 #[.pointer (some ⟨b,0,none⟩)] w (fun e w'=>e= .returned (.bool true)∧Below w.heap.size w w'):=by
 refine b_raw (vs:=[.pointer (some ⟨b,0,none⟩)]) (H:=fun q=>q<w.heap.size) (AV (es.map fun e=>e.2.2++List.replicate 5 0) .any .any .any .any .any (by simp;omega) fun a ha=>?_) (fun q h=>h) (EM ?_)
 ·obtain⟨e,he,rfl⟩:=List.mem_map.1 ha;have:=hr e he;simp;omega
 refine h.bn.ip (fun q hq=>h.bn.lt q hq) sy (by simp[h.lu]) (by simp;omega) (fun j x A h1 h2=>?_) (fun j x A h1 h2=>?_)
 ·rw[List.getElem?_map,Option.map_eq_some_iff]at h1 h2;obtain⟨e,h3,rfl⟩:=h1;obtain⟨e',h4,rfl⟩:=h2;rw[h3]at h4;cases h4;have he:=List.mem_of_getElem? h3;have:=hr e he;exact CX Nat.one_pos (h.own e he) (D_ _) (by unfold maxLen;omega) fun q hq=>by cases hq;exact(h.lt he).2
 ·rw[List.getElem?_map,Option.map_eq_some_iff]at h2;obtain⟨e,h3,rfl⟩:=h2;obtain⟨Hu,h4,h5⟩:=h.un j x e h1 h3;exact h5.mono (fun q hq=>(h4 q hq).1.1) fun _ _=>rfl
theorem Bn.old{w:World}{rs:Rs}{Lv Fv Uv:List Value}(h:Bn w b rs vl vf vu Lv Fv Uv):∃gs:List Value,Old w b (.k vl:: .k vf:: .k vu:: .k rs.1:: .k rs.2.1:: .k rs.2.2.1:: .k rs.2.2.2::gs.map .k):=by
 obtain⟨cap,ho⟩:=h.box;obtain⟨gs,hg⟩:=Yf ho;exact⟨gs,by simpa using hg⟩
theorem JW(h:NB w0 w b (v3,v4,iy,iy) vl vf vu es Us X)(hl:es.length≤1000)(hr:∀e,e∈es→e.2.2.length≤100000000)(hj:Jw w):Calls Tryz.prog 16 #[.pointer (some ⟨b,0,none⟩)] w (fun e w'=>e= .returned (.bool true)∧Below w.heap.size w w'):=by
 refine dm (vs:=[.pointer (some ⟨b,0,none⟩)]) Tryz.func16 (c:=qf Tryz.f16) rfl (by show 1≤_;decide) fun a0 z0 e0 d0=>?_
 have S:PS w 102 0 [(0,.k (.pointer (some ⟨b,0,none⟩)))] [] g0 a0 w:=sU hj z0 d0 ⟨e0 0 (by show 0<1;decide),trivial⟩;obtain⟨gs,hold⟩:=h.bn.old;have hu:∀w1,Below w.heap.size w w1→Calls Tryz.prog 49 #[.pointer (some ⟨b,0,none⟩)] w1 (fun e w'=>e= .returned (.bool true)∧Below w1.heap.size w1 w'):=fun w1 hb=>(h.keep hb).untouched hl hr
 clear h e0 z0 d0;refine ve ?_;clear S;intro _ _ _ S;refine wp_block ?_;refine wp_loop_rounds 1 (ve ?_);clear S;intro _ _ _ S;refine aK S rfl rfl (wp_exit (ve ?_));clear S;intro _ _ _ S;refine wp_block ?_;refine wp_loop_rounds 1 (ve ?_);clear S;intro _ _ _ S;refine aK S rfl rfl (wp_exit (ve ?_));clear S;intro _ _ _ S;(refine ax S (Zb hu rfl kf) ?_;clear S;intro _ _ _ S);refine ve ?_;clear S;intro _ _ _ S;refine wp_ret ?_;exact⟨S.df,_,results_tmp rfl _ _ _,congrArg Ending.returned (S.env 2 _ rfl),S.W.bel⟩
end
section
variable {w0 w w':World} {γ:Gh} {N i c:Nat} {R:Nat→Option Δ} {E:En} {Bx:Bs} {a:Act} {P:Program}
def Φr(et:TypeId)(sz:Nat)(vs:List Value)(n B:Nat):Fx where
 φ γ w x:=∃q cap gs,x= .slice (some ⟨q,0,none⟩) n cap∧B≤q∧q<w.heap.size∧(∀i,γ.β i≠some q)∧w.heap[q]? =some (.cells (vs++gs).toArray et (0,0))∧n≤cap∧cap≤maxLen∧(vs++gs).length=cap*sz
 one:=true
 up:=fun hs ⟨q,cap,gs,e,h1,h2,h3,h4,h5⟩=>⟨q,cap,gs,e,h1,Nat.lt_of_lt_of_le h2 hs.sz,fun i hi=>(hs.nb i q hi).elim (h3 i) fun h=>om,(hs.np q h2 h3).trans h4,h5⟩
 h1:=fun _ _ _ _ ⟨_,_,_,e,_⟩=>by rw[e];rfl
section
variable {dst:Option Tmp} {x y:Operand} {ty et X_ t:TypeId} {p:String} {e:Array Edge} {gd:Option (Nat×Bool)} {n sz:Nat} {v u:Value}
theorem LH{ps:Array (Nat×Operand)}{xs:List Value}(h:∀(γ:Gh) (w:World) (a:Act),(∀t d,R t=some d→s2 w0 γ w d (a.tmps.getD t undef))→∃(ie:TypeInfo) (z:Value),Tryz.prog.underlying ty=some (.slice et)∧Tryz.prog.info? et=some ie∧ie.zero=some z∧¬n*ie.size>2^24∧¬n*ie.size=0∧Instr.fill (fun i=>some (i*ie.size,ie.size)) ((Array.range (n*ie.size)).map (z.cells[· %z.cells.size]!)) (ps.map fun(i,x)=>(i,a.eval x)).toList=some xs.toArray)(hl:xs.length=n*sz)(hn:n≤1000):Ok Tryz.prog w0 N ⟨dst,.buildSlice ty n ps,t,p,e,gd⟩ i R Bx (.f (Φr et sz xs n w0.heap.size)) none:=⟨fun Q γ a w F K hz hW hF hR hB hK=>by
 obtain⟨ie,z,h1,h2,h3,h4,h5,h6⟩:=h γ w a hR;have hb:=jG w (.cells xs.toArray et);refine wp_buildSlice ty et n ps rfl xs.toArray ie z h1 h2 h3 h4 h5 h6 ?_;refine hK γ _ _ (.of hb) hb ((hW.Ep (below_le hW hb)).sub fun _ h=>h.1) ⟨w.heap.size,n,[],rfl,hW.bel.size,by rw[World.size_alloc];omega,fun i hi=>Nat.lt_irrefl _ (hW.bn i _ hi).2,by rw[List.append_nil];exact heap_alloc_new w _,Nat.le_refl _,by unfold maxLen;omega,by rw[List.append_nil];exact hl⟩ fun b h=>by cases h⟩
theorem br_s(hy:bI R y (.k v):=by exact rfl)(hv:∃a n c,v= .slice a n c:=by first|exact⟨_,_,_,rfl⟩|assumption):Ok Tryz.prog w0 N ⟨dst,.buildSlice 38 1 #[(0,y)],t,p,e,gd⟩ i R Bx (.f (Φr 62 1 [v] 1 w0.heap.size)) none:=
 LH (fun γ w a hR=>by
  obtain⟨a1,n1,c1,rfl⟩:=hv;have e2:a.eval y= .slice a1 n1 c1:=hy.ev hR;refine⟨_,.slice none 0 0,rfl,rfl,rfl,dc,dc,?_⟩;simp only[List.map_toArray,List.map_cons,List.map_nil,e2];kernel_rfl) rfl dc
theorem br_t(hy:bI R y (.k v):=by exact rfl)(hv:∃a n c,v= .slice a n c:=by first|exact⟨_,_,_,rfl⟩|assumption):Ok Tryz.prog w0 N ⟨dst,.buildSlice 39 1 #[(0,y)],t,p,e,gd⟩ i R Bx (.f (Φr 64 1 [v] 1 w0.heap.size)) none:=
 LH (fun γ w a hR=>by
  obtain⟨a1,n1,c1,rfl⟩:=hv;have e2:a.eval y= .slice a1 n1 c1:=hy.ev hR;refine⟨_,.slice none 0 0,rfl,rfl,rfl,dc,dc,?_⟩;simp only[List.map_toArray,List.map_cons,List.map_nil,e2];kernel_rfl) rfl dc
theorem Om(hy:bI R y (.k v):=by exact rfl)(hv:∃a n c,v= .slice a n c:=by first|exact⟨_,_,_,rfl⟩|assumption)(hu:Tryz.prog.underlying ty=some (.slice 23):=by kernel_rfl):Ok Tryz.prog w0 N ⟨dst,.buildSlice ty 1 #[(0,y)],t,p,e,gd⟩ i R Bx (.f (Φr 23 1 [v] 1 w0.heap.size)) none:=
 LH (fun γ w a hR=>by
  obtain⟨a1,n1,c1,rfl⟩:=hv;have e2:a.eval y= .slice a1 n1 c1:=hy.ev hR;refine⟨_,.slice none 0 0,hu,rfl,rfl,dc,dc,?_⟩;simp only[List.map_toArray,List.map_cons,List.map_nil,e2];kernel_rfl) rfl dc
theorem Un(hy:bI R x (.k v):=by exact rfl)(hv:∃a n c,v= .slice a n c:=by first|exact⟨_,_,_,rfl⟩|assumption)(hy2:bI R y (.k u):=by exact rfl)(hu2:∃a n c,u= .slice a n c:=by first|exact⟨_,_,_,rfl⟩|assumption)(hu:Tryz.prog.underlying ty=some (.slice 23):=by kernel_rfl):Ok Tryz.prog w0 N ⟨dst,.buildSlice ty 2 #[(0,x),(1,y)],t,p,e,gd⟩ i R Bx (.f (Φr 23 1 [v,u] 2 w0.heap.size)) none:=
 LH (fun γ w a hR=>by
  obtain⟨a1,n1,c1,rfl⟩:=hv;obtain⟨a2,n2,c2,rfl⟩:=hu2;have e2:a.eval x= .slice a1 n1 c1:=hy.ev hR;have e3:a.eval y= .slice a2 n2 c2:=hy2.ev hR;refine⟨_,.slice none 0 0,hu,rfl,rfl,dc,dc,?_⟩;simp only[List.map_toArray,List.map_cons,List.map_nil,e2,e3];kernel_rfl) rfl dc
theorem Zt{vs:List Value}{b:Nat}(hx:bI R x (.k (.slice none 0 0)):=by exact rfl)(hy:bI R y (.f (Φr X_ sz vs 1 b)):=by exact rfl)(hl:vs.length=sz:=by rfl)(h1:vs.all (·.oneCell')=true:=by rfl)(hB:apB P ty et sz=true:=by kernel_rfl):Ok P w0 N ⟨dst,.call ⟨.builtin .append,#[x,y],#[ty,ty]⟩,t,p,e,gd⟩ i R Bx (.f (Φr et sz vs 1 w0.heap.size)) none:=⟨fun Q γ a w F K hz' hW hF hR hB' hK=>by
 obtain⟨ie,z,hu,hi,hz,hsz,hby,hzs,h0⟩:=wW hB;have ex:a.eval x= .slice none 0 0:=hx.ev hR;obtain⟨r,cap,gs,ey,_,hr,_,hgr,hcap,hcm,hlen⟩:=hy.ev hR;have Uk:∀u,u∈vs→u.oneCell'=true:=fun u hu=>List.all_eq_true.1 h1 u hu
 obtain⟨v',w',hrun,how,hgrow,_,hat⟩:=run_append_own_at (P:=P) w w.heap.size ty t et ie z sz ie.bytes hu hi hz hsz rfl hzs h0 (.slice none 0 0) 0 [] (World.ownsRow_nil w _ et sz) ⟨r,0,none⟩ 1 cap vs om (fun j u h=>pX hgr (n:=vs.length) j u (by rw[List.take_left];exact h)) Uk (by unfold maxLen;omega) om (Nat.le_refl _);rw[Nat.zero_add,List.nil_append]at how;unfold Oper.wp execOp;simp only[resolve,invoke,builtin,Sem.run_bind,Sem.run_pure,Result.andThen_ok,List.map_toArray,List.map_cons,List.map_nil,ex,ey,hrun];rcases how.2 with ⟨_,h⟩|⟨g,cap,cur,rfl,hbg,hgg,hnc,hcm,hcs,htk⟩
 ·omega
 have hbl:Below w.heap.size w w':=⟨hgrow.os,hgrow.tape,hgrow.output,hgrow.size,fun k hk=>hgrow.block k hk (by simp[Value.ownBlock])⟩;have hlt:g<w'.heap.size:=(Array.getElem?_eq_some_iff.1 hgg).1;have wX:cur.toList=vs++cur.toList.drop (1*sz):=by
  rw[←htk,List.take_append_drop]
 refine hK γ _ w' (.of hbl) hbl ((hW.Ep (below_le hW hbl)).sub fun _ h=>h.1) ⟨g,cap,cur.toList.drop (1*sz),rfl,Nat.le_trans hW.bel.size hbg,hlt,fun i hi=>by have:=(hW.bn i g hi).2;omega,?_,hnc,hcm,?_⟩ fun b h=>by cases h
 ·rw[←wX];simpa using hgg
 ·rw[←wX];simpa using hcs⟩
end
theorem Zu{ops:Array Oper}{rest:List Oper}{Q:Exit→Act→World→Prop}{dst:Option Tmp}{ty t:TypeId}{x y:Operand}{p:String}{e:Array Edge}{q o:Nat}(S:PS w0 N c E Bx γ a w)(hx:bI (lk E) x (.k (.pointer (some ⟨q,o,none⟩))))(hc:(w.cell? ⟨q,o,none⟩).isSome=true)(hf:w.frozen? ⟨q,o,none⟩=false)(h1:(a.eval y).oneCell'=true)(next:wpList P ops Q rest a (w.setCells q o [a.eval y]))(hi:(P.info? ty).map (·.size)=some 1:=by kernel_rfl)(hd:dst=none:=by rfl):wpList P ops Q (⟨dst,.store ty x y,t,p,e,none⟩::rest) a w:=by
 have ex:a.eval x= .pointer (some ⟨q,o,none⟩):=hx.ev S.env;refine wpList_plain rfl fun K hK=>?_
 unfold Oper.wp execOp;simp only[ex,Instr.storeAt,Instr.sureAddr,Sem.run_bind,Sem.run_pure,Result.andThen_ok,qY (P:=P) (w:=w) (b:=q) (o:=o) (ty:=ty) hc hf hi h1];refine hK _ _ ?_;subst hd;exact next
theorem Bn.set{b k:Nat}{rs rs':Rs}{vl vf vu x:Value}{Lv Fv Uv:List Value}(h:Bn w b rs vl vf vu Lv Fv Uv)(hk:3≤k)(hk7:k<7)(he:[vl,vf,vu,rs.1,rs.2.1,rs.2.2.1,rs.2.2.2].set k x=[vl,vf,vu,rs'.1,rs'.2.1,rs'.2.2.1,rs'.2.2.2])(h1:rs'.1.oneCell'=true∧rs'.2.1.oneCell'=true∧rs'.2.2.1.oneCell'=true∧rs'.2.2.2.oneCell'=true):
 (w.cell? ⟨b,k,none⟩).isSome=true∧w.frozen? ⟨b,k,none⟩=false∧Bn (w.setCells b k [x]) b rs' vl vf vu Lv Fv Uv∧aI w (fun q=>q=b) (w.setCells b k [x]):=by
 obtain⟨cap,ho⟩:=h.box
 have hne:=Q9 h
 rcases ho.2 with ⟨h2,_⟩|⟨g',cap',cur,e1,h2,h3,h4,h5,h6,h7⟩
 ·cases h2
 cases e1
 have hl:cur.toList.length=cap*7:=by simpa using h6
 obtain⟨g1,ho',hsz,hos,htp,hou⟩:=oC b _ [x] k w cur.toList (by simpa using h3)
 have hk':k<cur.toList.length:=om
 have bel:aI w (fun q=>q=b) (w.setCells b k [x]):=⟨hos,htp,hou,Nat.le_of_eq hsz.symm,fun q _ hq=>ho' q hq⟩
 refine⟨by rw[jM (xs:=cur.toList) (by simpa using h3) (List.getElem?_eq_getElem hk')];rfl,by simp[World.frozen?,h3],⟨⟨cap,rfl,.inr ⟨b,cap,(cur.toList.set k x).toArray,rfl,h2,g1,h4,h5,by simpa using h6,?_⟩⟩,aP h.rl fun q hq=>ho' q fun e=>hne.1 (e▸hq),aP h.rf fun q hq=>ho' q fun e=>hne.2.1 (e▸hq),aP h.ru fun q hq=>ho' q fun e=>hne.2.2 (e▸hq),h.lf,h.lu,h.fu,h1⟩,bel⟩
 rw[List.toList_toArray,List.take_set,h7]
 exact he
def OB(w:World)(b:Nat)(rs:Rs)(vl vf vu:Value)(Lv Fv Uv vs:List Value)(w':World):Prop:=∃oI oJ oK Fs Us,aI w (Bq b vl vf vu) w'∧Bn w' b rs oI oJ oK (Lv++vs) (Fv++Fs) (Uv++Us)∧Fs.length=vs.length∧Us.length=vs.length∧(∀v,v∈Fs→∃a c,v=Value.slice a 0 c)∧(∀v,v∈Us→∃a c,v=Value.slice a 0 c)∧∀q,Bq b oI oJ oK q→Bq b vl vf vu q∨w.heap.size≤q
section
variable {b n:Nat} {rs:Rs} {vl vf vu:Value} {Lv Fv Uv vs:List Value}
theorem OB.start(hb:Bn w b rs vl vf vu Lv Fv Uv):OB w b rs vl vf vu Lv Fv Uv [] w:=
 ⟨vl,vf,vu,[],[],aI.refl _ _,by simpa using hb,rfl,rfl,fun v hv=>by simp at hv,fun v hv=>by simp at hv,fun q h=> .inl h⟩
theorem OB.kp(h:OB w b rs vl vf vu Lv Fv Uv vs w'){q:Nat}{o:Obj}(hg:w.heap[q]? =some o)(hq:¬Bq b vl vf vu q):w'.heap[q]? =some o:=by
 obtain⟨_,_,_,_,_,bel,_⟩:=h;exact(bel.block q (Array.getElem?_eq_some_iff.1 hg).1 hq).trans hg
theorem OB.out(h:OB w b rs vl vf vu Lv Fv Uv vs w')(l1:Lv.length=n)(l2:Fv.length=n)(l3:Uv.length=n)(cl:∀v,v∈Lv++vs→v.oneCell'=true)(cf:∀v,v∈Fv→v.oneCell'=true)(cu:∀v,v∈Uv→v.oneCell'=true)(hm:n+vs.length≤900)
 {w2:World} {q m cap:Nat} {vs2 gs:List Value} (hB:Below w'.heap.size w' w2) (hq:w'.heap.size≤q) (hq2:q<w2.heap.size) (hg:w2.heap[q]? =some (.cells (vs2++gs).toArray 23 (0,0))) (hl:vs2.length=m) (c2:∀v,v∈vs2→v.oneCell'=true) (hm2:m≤100) (hc:m≤cap) (hcm:cap≤maxLen) (hcl:(vs2++gs).length=cap*1):
 Calls Tryz.prog 60 #[.pointer (some ⟨b,0,none⟩),.slice (some ⟨q,0,none⟩) m cap] w2 (fun e w3=>e= .returned (.tuple #[])∧OB w b rs vl vf vu Lv Fv Uv (vs++vs2) w3):=by
 obtain⟨oI,oJ,oK,Fs,Us,bel,bn,lf,lu,ff,fu,hbq⟩:=h
 have hlt:=bn.lt
 have one:∀{v:Value},(∃a c,v=Value.slice a 0 c)→v.oneCell'=true:=fun h=>by obtain⟨a,c,rfl⟩:=h;rfl
 have own:w2.ownsRow 0 23 1 (.slice (some ⟨q,0,none⟩) m cap) m vs2:=⟨om,.inr ⟨q,cap,_,rfl,Nat.zero_le _,hg,hc,hcm,by simpa using hcl,by rw[Nat.mul_one,←hl,List.toList_toArray,List.take_left]⟩⟩
 have hva:Rep0 w2 (fun k=>k=q) (.slice (some ⟨q,0,none⟩) m cap) (.l 1 (vs2.map V.c)):=by
  refine CX Nat.one_pos own ⟨sy,fun j v x h1 h2=>by
   rw[List.getElem?_map,h1]at h2;cases h2;exact .c _⟩ (by unfold maxLen;omega) fun k hk=>by cases hk;rfl
 have sz1:=bel.size
 refine(WJ (n:=n+vs.length) (bn.below hB) (fun k hk=>by rw[hk];exact hq2) (fun k hk hk2=>by have:=hlt k hk;omega) hva (by simp[l1]) (by simp[l2,lf]) (by simp[l3,lu]) cl (fun v hv=>(List.mem_append.1 hv).elim (cf v) fun h=>one (ff v h)) (fun v hv=>(List.mem_append.1 hv).elim (cu v) fun h=>one (fu v h)) c2 om om).mono ?_
 rintro e w3 ⟨vl3,vf3,vu3,F2,U2,he,hbel,hbn,lF,lU,fF,fU,hq3⟩
 have sz2:=hB.size
 have sz3:=hbel.size
 refine⟨he,vl3,vf3,vu3,Fs++F2,Us++U2,⟨hbel.os.trans (hB.os.trans bel.os),hbel.tape.trans (hB.tape.trans bel.tape),hbel.output.trans (hB.output.trans bel.output),om,fun k hk hn=>(hbel.block k om fun h=>?_).trans ((hB.block k om).trans (bel.block k hk hn))⟩,by simpa using hbn,by simp[lf,lF],by simp[lu,lU],fun v hv=>(List.mem_append.1 hv).elim (ff v) (fF v),fun v hv=>(List.mem_append.1 hv).elim (fu v) (fU v),fun k hk=>?_⟩
 ·rcases hbq k h with h|h
  ·exact hn h
  ·omega
 ·rcases hq3 k hk with h|h
  ·exact hbq k h
  ·exact .inr om
end
def subK(E:En)(k:Nat):En→Prop
 |[]=>True
 |(t,.k v)::r=>lk E t=some (.k v)∧Nat.beq t k=false∧subK E k r
 |_::_=>False
theorem LJ(S:PS w0 N c E Bx γ a w){k:Nat}{y:Value}:∀{E':En},subK E k E'→kE (a.put (some k) y) E'
 |[],_=>trivial
 |(t,.k v)::r,h=>⟨(gG fun e=>by have h2:=h.2.1;subst e;rw[Nat.beq_refl]at h2;cases h2).trans (S.env t _ h.1),LJ S h.2.2⟩
 |(_,.ow _ _)::_,hk=>hk.elim
 |(_,.rd _)::_,hk=>hk.elim
 |(_,.rz _ _)::_,hk=>hk.elim
 |(_,.p _ _)::_,hk=>hk.elim
 |(_,.sl _ _ _)::_,hk=>hk.elim
 |(_,.f _)::_,hk=>hk.elim
 |(_,.g _)::_,hk=>hk.elim
 |(_,.t _)::_,hk=>hk.elim
theorem nN{ops:Array Oper}{rest:List Oper}{Q:Exit→Act→World→Prop}{k:Nat}{f:FuncId}{args:Array Operand}{BC:Array TypeId}{t:TypeId}{p:String}{e:Array Edge}{y:Value}{us:List Value}{Ξ:World→Prop}(E':En)(S:PS w0 N c E Bx γ a w)(h:Calls Tryz.prog f us.toArray w (fun e w'=>e= .returned y∧Ξ w'))(ha:args.toList.map a.eval=us)(hE:subK E k E')(next:∀w',Ξ w'→(Jw w'→PS w' N 0 ((k,.k y)::E') [] g0 (a.put (some k) y) w')→wpList Tryz.prog ops Q rest (a.put (some k) y) w')(hf:Oz Tryz.prog f=true:=by kernel_rfl)(hk:Nat.blt k N=true:=by rfl):wpList Tryz.prog ops Q (⟨some k,.call ⟨.value (.func f),args,BC⟩,t,p,e,none⟩::rest) a w:=by
 refine BigFrame.wpList_want rfl fun K hK=>?_
 unfold Oper.wp;rw[kX hf,Oper.upon_enter,ha];refine h.mono ?_;rintro e w' ⟨rfl,hx⟩;exact hK _ _ (next w' hx fun hj=>sU hj (by show(a.tmps.setIfInBounds k y).size=N;simp[S.sz]) S.df ⟨put_eq (by rw[S.sz];exact Nat.blt_eq▸hk),LJ S hE⟩)
theorem Jw.bel{Z:Nat→Prop}(h:Jw w)(hb:aI w Z w')(h1:¬Z 1)(h2:¬Z 0):Jw w':=h.eq (hb.block _ h.1.1 h1) (hb.block _ h.2.1 h2)
def ZO(w:World)(b:Nat)(rs:Rs)(vl vf vu:Value)(Lv Fv Uv vs:List Value)(ni:Nat)(o:Obj)(w':World):Prop:=∃oI oJ oK Fs Us,aI w (Bq b vl vf vu) w'∧Bn w' b rs oI oJ oK (Lv++vs) (Fv++Fs) (Uv++Us)∧Fs.length=vs.length∧Us.length=vs.length∧(∀v,v∈Fs→∃a c,v=Value.slice a 0 c)∧(∀v,v∈Us→∃a c,v=Value.slice a 0 c)∧(∀q,Bq b oI oJ oK q→Bq b vl vf vu q∨w.heap.size≤q)∧w.heap.size≤ni∧¬Bq b oI oJ oK ni∧w'.heap[ni]? =some o
theorem OB.fin{w1 wA wc:World}{b ni:Nat}{rs rs':Rs}{vl vf vu:Value}{Lv Fv Uv vs:List Value}{o:Obj}(hb:Bn w b rs vl vf vu Lv Fv Uv)(b1:Below w.heap.size w w1)(b2:aI w1 (fun q=>q=b) wA)(hO:OB wA b rs' vl vf vu Lv Fv Uv vs wc)(b3:Below wc.heap.size wc w')(n0:w.heap.size≤ni)(hn:wA.heap[ni]? =some o):ZO w b rs' vl vf vu Lv Fv Uv vs ni o w':=by
 obtain⟨oI,oJ,oK,Fs,Us,bel,bn,lf,lu,ff,fu,hbq⟩:=hO;have hlt:=hb.lt;have hna:ni<wA.heap.size:=(Array.getElem?_eq_some_iff.1 hn).1;have s1:=b1.size;have s2:=b2.size;have s3:=bel.size;have s4:=b3.size;have nq:¬Bq b oI oJ oK ni:=fun h=>by
  rcases hbq ni h with h|h
  ·have:=hlt ni h;omega
  ·omega
 refine⟨oI,oJ,oK,Fs,Us,⟨b3.os.trans (bel.os.trans (b2.os.trans b1.os)),b3.tape.trans (bel.tape.trans (b2.tape.trans b1.tape)),b3.output.trans (bel.output.trans (b2.output.trans b1.output)),om,fun k hk hq=>(b3.block k om).trans ((bel.block k om hq).trans ((b2.block k om fun e=>hq (.inl e)).trans (b1.block k hk)))⟩,bn.below b3,lf,lu,ff,fu,fun q hq=>(hbq q hq).imp id fun h=>om,n0,nq,?_⟩;exact(b3.block ni om).trans ((bel.block ni hna fun h=>by have:=hlt ni h;omega).trans hn)
end
section
variable {w:World} {b la i6 n:Nat} {vl vf vu v4:Value} {Lv Fv Uv:List Value} {s0 jf s1 jg s2 jh s3 ji s4 jk s5 sV:Value}
theorem Uo(hb:Bn w b (iy,v4,iy,iy) vl vf vu Lv Fv Uv)(hv:v4.oneCell'=true)(l1:Lv.length=n)(l2:Fv.length=n)(l3:Uv.length=n)(cl:∀v,v∈Lv→v.oneCell'=true)(cf:∀v,v∈Fv→v.oneCell'=true)(cu:∀v,v∈Uv→v.oneCell'=true)(hn:n≤800)
 (hla:w.heap[la]? =some (.cells #[.slice (some ⟨i6,0,none⟩) 6 6] 62 (0,0))) (hi6:w.heap[i6]? =some (.cells #[s0,jf,s1,jg,s2,jh,s3,ji,s4,jk,s5,sV] 25 (0,0))) (LK:¬Bq b vl vf vu la) (LM:¬Bq b vl vf vu i6) (hx:∀x,x∈[jf,jg,jh,ji,jk,sV]→∃a n c,x=Value.slice a n c) (hj:Jw w) (j1:¬Bq b vl vf vu 1) (j2:¬Bq b vl vf vu 0):
 Calls Tryz.prog 25 #[.pointer (some ⟨b,0,none⟩),.slice (some ⟨la,0,none⟩) 1 1] w (fun e w'=>e= .returned (.tuple #[])∧∃(ni c1:Nat) (g1:List Value),ZO w b (.slice (some ⟨ni,0,none⟩) 1 c1,v4,iy,iy) vl vf vu Lv Fv Uv [jf,jg,jh,ji,jk,sV] ni (.cells (.slice (some ⟨i6,0,none⟩) 6 6::g1).toArray 62 (0,0)) w'):=by
 have one:∀{v:Value},(∃a n c,v=Value.slice a n c)→v.oneCell'=true:=fun h=>by obtain⟨a,n,c,rfl⟩:=h;rfl
 refine dm (vs:=[.pointer (some ⟨b,0,none⟩),.slice (some ⟨la,0,none⟩) 1 1]) Tryz.func25 (c:=qf Tryz.f25) rfl (by show 2≤_;decide) fun a0 z0 e0 d0=>?_
 have S:PS w 47 0 [(0,.k (.pointer (some ⟨b,0,none⟩))),(1,.k (.slice (some ⟨la,0,none⟩) 1 1))] [] g0 a0 w:=sU hj z0 d0 ⟨e0 0 (by show 0<2;decide),e0 1 (by show 1<2;decide),trivial⟩
 obtain⟨gs,hold⟩:=hb.old
 have hol:=bW (xs:=[.slice (some ⟨i6,0,none⟩) 6 6]) hla
 clear e0 z0 d0
 refine ve ?_
 clear S
 intro _ _ _ S
 refine wp_block ?_
 refine wp_loop_rounds 2 (ve ?_)
 clear S
 intro _ _ _ S
 refine aW S rfl (rfl) ?_
 refine wp_skip ?_
 refine wp_seq ?_
 refine wp_block ?_
 (refine wp_seq (bQ 11 [_,_,_,_,_,_,_,_,_,_,_] [_,_,_,_,_,_,_,_,_,_,_] [[(0,none)],[(0,none)],[(13,some 1)],[(14,some 2)],[(15,some 3)],[(1,none)],[(4,none)],[(17,some 5),(18,some 6)],[(19,some 7)],[(20,some 8)],[(16,some 4),(21,some 9)]] rfl S aX kf kf kf ⟨aY,aY,aY,aY,aY,aY,aY,aY,aY,br_s,Zt (et:=62),trivial⟩ ?_);clear S;intro _ _ _ S)
 refine ve ?_
 clear S
 intro _ _ _ S
 obtain⟨ni,c1,g1,ex,n0,n1,nb,hni,_⟩:=S.env 22 _ rfl
 obtain⟨hc,hf,hb2,bel2⟩:=(hb.below S.W.bel).set (k:=3) (x:= .slice (some ⟨ni,0,none⟩) 1 c1) (rs':=(.slice (some ⟨ni,0,none⟩) 1 c1,v4,iy,iy)) dc dc rfl ⟨rfl,hv,rfl,rfl⟩
 refine Zu S rfl hc hf (by rw[ak,ex];rfl) ?_
 rw[ak,ex]
 refine b_ ?_
 have hjA:Jw _:=(hj.up S.W.bel).bel bel2 (fun e=>j1 (.inl e)) (fun e=>j2 (.inl e))
 have nbb:=hb.lt b (.inl rfl)
 have iY:=S.W.bel
 have hni':=(bel2.block ni n1 (fun e=>om)).trans hni
 have S':=sU (E:=[(0,.k (.pointer (some ⟨b,0,none⟩))),(1,.k (.slice (some ⟨la,0,none⟩) 1 1)),(4,.k (.int .i64 0))]) hjA S.sz S.df ⟨S.env 0 _ rfl,S.env 1 _ rfl,S.env 4 _ rfl,trivial⟩
 have kq:∀{q:Nat} {o:Obj},w.heap[q]? =some o→¬Bq b vl vf vu q→_:=fun h hq=>(bel2.block _ (Nat.lt_of_lt_of_le (Array.getElem?_eq_some_iff.1 h).1 iY.size) fun e=>hq (.inl e)).trans ((iY.block _ (Array.getElem?_eq_some_iff.1 h).1).trans h)
 have wY:=kq hla LK
 have wZ:=kq hi6 LM
 have hO:=OB.start hb2
 clear hc hf hb2 kq hol hold S
 have S:=S'
 clear S'
 rename_i w1 _
 generalize World.setCells _ _ _ _=wA at*
 have hjc:∀{vs:List Value} {wc:World},OB wA b (.slice (some ⟨ni,0,none⟩) 1 c1,v4,iy,iy) vl vf vu Lv Fv Uv vs wc→Jw wc:=fun h=>by
  obtain⟨_,_,_,_,_,bel,_⟩:=h;exact hjA.bel bel j1 j2
 have hol:=bW (xs:=[.slice (some ⟨i6,0,none⟩) 6 6]) wY
 have hoi:=bW (xs:=[s0,jf,s1,jg,s2,jh,s3,ji,s4,jk,s5,sV]) wZ
 refine ve ?_
 clear S
 intro _ _ _ S
 refine wp_block ?_
 refine wp_loop_rounds 7 ?_
 have Ur:=hx jf sy
 refine ve ?_
 clear S
 intro _ _ _ S
 refine aW S rfl (rfl) ?_
 refine wp_skip ?_
 refine wp_seq ?_
 refine wp_block ?_
 (refine bQ 12 [_,_,_,_,_,_,_,_,_,_,_,_] [_,_,_,_,_,_,_,_,_,_,_,_] [[(0,none)],[(34,some 0)],[(35,some 1)],[(1,none)],[(4,none)],[(37,some 3),(38,some 4)],[(39,some 5)],[(5,none)],[(40,some 6),(41,some 7)],[(42,some 8)],[(43,some 9)],[(44,some 10)]] rfl S aX kf kf kf ⟨aY,aY,aY,aY,aY,aY,aY,aY,aY,aY,aY,Om,trivial⟩ ?_;clear S;intro _ _ _ S)
 obtain⟨q,cap,gs,ex,hq0,hq1,_,hg,hc,hcm,hcl⟩:=S.env 45 _ rfl
 have ep:=S.env 36 _ rfl
 refine nN [(0,.k (.pointer (some ⟨b,0,none⟩))),(1,.k (.slice (some ⟨la,0,none⟩) 1 1)),(4,.k (.int .i64 0)),(5,.k (.int .i64 0))] S (hO.out l1 l2 l3 (fun v hv=>(List.mem_append.1 hv).elim (cl v) fun h=>one (hx v (List.mem_of_mem_take (i:=0) (l:=[jf,jg,jh,ji,jk,sV]) h))) cf cu (by clear hq0 hq1 hg hc hcm hcl;show n+_≤900;simp only[List.length_append,List.length_cons,List.length_nil];omega) S.W.bel hq0 hq1 hg rfl (fun v hv=>by rw[List.mem_singleton.1 hv];exact one Ur) (by show 1≤100;decide) hc hcm hcl) (by simp only[List.map_cons,List.map_nil,ak,ex];rw[show _=Value.pointer (some ⟨b,0,none⟩)from ep];rfl) ⟨rfl,rfl,rfl,rfl,rfl,rfl,rfl,rfl,trivial⟩ fun w' uG mk=>?_
 clear S hO hol hoi ep ex hq0 hq1 hg hc hcm hcl
 have hO:=uG
 have S:=mk (hjc hO)
 have hol:=bW (xs:=[.slice (some ⟨i6,0,none⟩) 6 6]) (hO.kp wY LK)
 have hoi:=bW (xs:=[s0,jf,s1,jg,s2,jh,s3,ji,s4,jk,s5,sV]) (hO.kp wZ LM)
 clear uG mk
 refine b_ (wp_region_lit ?_)
 have Ut:=hx jg sy
 refine ve ?_
 clear S
 intro _ _ _ S
 refine aW S rfl (rfl) ?_
 refine wp_skip ?_
 refine wp_seq ?_
 refine wp_block ?_
 (refine bQ 12 [_,_,_,_,_,_,_,_,_,_,_,_] [_,_,_,_,_,_,_,_,_,_,_,_] [[(0,none)],[(34,some 0)],[(35,some 1)],[(1,none)],[(4,none)],[(37,some 3),(38,some 4)],[(39,some 5)],[(5,none)],[(40,some 6),(41,some 7)],[(42,some 8)],[(43,some 9)],[(44,some 10)]] rfl S aX kf kf kf ⟨aY,aY,aY,aY,aY,aY,aY,aY,aY,aY,aY,Om,trivial⟩ ?_;clear S;intro _ _ _ S)
 obtain⟨q,cap,gs,ex,hq0,hq1,_,hg,hc,hcm,hcl⟩:=S.env 45 _ rfl
 have ep:=S.env 36 _ rfl
 refine nN [(0,.k (.pointer (some ⟨b,0,none⟩))),(1,.k (.slice (some ⟨la,0,none⟩) 1 1)),(4,.k (.int .i64 0)),(5,.k (.int .i64 1))] S (hO.out l1 l2 l3 (fun v hv=>(List.mem_append.1 hv).elim (cl v) fun h=>one (hx v (List.mem_of_mem_take (i:=1) (l:=[jf,jg,jh,ji,jk,sV]) h))) cf cu (by clear hq0 hq1 hg hc hcm hcl;show n+_≤900;simp only[List.length_append,List.length_cons,List.length_nil];omega) S.W.bel hq0 hq1 hg rfl (fun v hv=>by rw[List.mem_singleton.1 hv];exact one Ut) (by show 1≤100;decide) hc hcm hcl) (by simp only[List.map_cons,List.map_nil,ak,ex];rw[show _=Value.pointer (some ⟨b,0,none⟩)from ep];rfl) ⟨rfl,rfl,rfl,rfl,rfl,rfl,rfl,rfl,trivial⟩ fun w' uG mk=>?_
 clear S hO hol hoi ep ex hq0 hq1 hg hc hcm hcl
 have hO:=uG
 have S:=mk (hjc hO)
 have hol:=bW (xs:=[.slice (some ⟨i6,0,none⟩) 6 6]) (hO.kp wY LK)
 have hoi:=bW (xs:=[s0,jf,s1,jg,s2,jh,s3,ji,s4,jk,s5,sV]) (hO.kp wZ LM)
 clear uG mk
 refine b_ (wp_region_lit ?_)
 have Uu:=hx jh sy
 refine ve ?_
 clear S
 intro _ _ _ S
 refine aW S rfl (rfl) ?_
 refine wp_skip ?_
 refine wp_seq ?_
 refine wp_block ?_
 (refine bQ 12 [_,_,_,_,_,_,_,_,_,_,_,_] [_,_,_,_,_,_,_,_,_,_,_,_] [[(0,none)],[(34,some 0)],[(35,some 1)],[(1,none)],[(4,none)],[(37,some 3),(38,some 4)],[(39,some 5)],[(5,none)],[(40,some 6),(41,some 7)],[(42,some 8)],[(43,some 9)],[(44,some 10)]] rfl S aX kf kf kf ⟨aY,aY,aY,aY,aY,aY,aY,aY,aY,aY,aY,Om,trivial⟩ ?_;clear S;intro _ _ _ S)
 obtain⟨q,cap,gs,ex,hq0,hq1,_,hg,hc,hcm,hcl⟩:=S.env 45 _ rfl
 have ep:=S.env 36 _ rfl
 refine nN [(0,.k (.pointer (some ⟨b,0,none⟩))),(1,.k (.slice (some ⟨la,0,none⟩) 1 1)),(4,.k (.int .i64 0)),(5,.k (.int .i64 2))] S (hO.out l1 l2 l3 (fun v hv=>(List.mem_append.1 hv).elim (cl v) fun h=>one (hx v (List.mem_of_mem_take (i:=2) (l:=[jf,jg,jh,ji,jk,sV]) h))) cf cu (by clear hq0 hq1 hg hc hcm hcl;show n+_≤900;simp only[List.length_append,List.length_cons,List.length_nil];omega) S.W.bel hq0 hq1 hg rfl (fun v hv=>by rw[List.mem_singleton.1 hv];exact one Uu) (by show 1≤100;decide) hc hcm hcl) (by simp only[List.map_cons,List.map_nil,ak,ex];rw[show _=Value.pointer (some ⟨b,0,none⟩)from ep];rfl) ⟨rfl,rfl,rfl,rfl,rfl,rfl,rfl,rfl,trivial⟩ fun w' uG mk=>?_
 clear S hO hol hoi ep ex hq0 hq1 hg hc hcm hcl
 have hO:=uG
 have S:=mk (hjc hO)
 have hol:=bW (xs:=[.slice (some ⟨i6,0,none⟩) 6 6]) (hO.kp wY LK)
 have hoi:=bW (xs:=[s0,jf,s1,jg,s2,jh,s3,ji,s4,jk,s5,sV]) (hO.kp wZ LM)
 clear uG mk
 refine b_ (wp_region_lit ?_)
 have Uw:=hx ji sy
 refine ve ?_
 clear S
 intro _ _ _ S
 refine aW S rfl (rfl) ?_
 refine wp_skip ?_
 refine wp_seq ?_
 refine wp_block ?_
 (refine bQ 12 [_,_,_,_,_,_,_,_,_,_,_,_] [_,_,_,_,_,_,_,_,_,_,_,_] [[(0,none)],[(34,some 0)],[(35,some 1)],[(1,none)],[(4,none)],[(37,some 3),(38,some 4)],[(39,some 5)],[(5,none)],[(40,some 6),(41,some 7)],[(42,some 8)],[(43,some 9)],[(44,some 10)]] rfl S aX kf kf kf ⟨aY,aY,aY,aY,aY,aY,aY,aY,aY,aY,aY,Om,trivial⟩ ?_;clear S;intro _ _ _ S)
 obtain⟨q,cap,gs,ex,hq0,hq1,_,hg,hc,hcm,hcl⟩:=S.env 45 _ rfl
 have ep:=S.env 36 _ rfl
 refine nN [(0,.k (.pointer (some ⟨b,0,none⟩))),(1,.k (.slice (some ⟨la,0,none⟩) 1 1)),(4,.k (.int .i64 0)),(5,.k (.int .i64 3))] S (hO.out l1 l2 l3 (fun v hv=>(List.mem_append.1 hv).elim (cl v) fun h=>one (hx v (List.mem_of_mem_take (i:=3) (l:=[jf,jg,jh,ji,jk,sV]) h))) cf cu (by clear hq0 hq1 hg hc hcm hcl;show n+_≤900;simp only[List.length_append,List.length_cons,List.length_nil];omega) S.W.bel hq0 hq1 hg rfl (fun v hv=>by rw[List.mem_singleton.1 hv];exact one Uw) (by show 1≤100;decide) hc hcm hcl) (by simp only[List.map_cons,List.map_nil,ak,ex];rw[show _=Value.pointer (some ⟨b,0,none⟩)from ep];rfl) ⟨rfl,rfl,rfl,rfl,rfl,rfl,rfl,rfl,trivial⟩ fun w' uG mk=>?_
 clear S hO hol hoi ep ex hq0 hq1 hg hc hcm hcl
 have hO:=uG
 have S:=mk (hjc hO)
 have hol:=bW (xs:=[.slice (some ⟨i6,0,none⟩) 6 6]) (hO.kp wY LK)
 have hoi:=bW (xs:=[s0,jf,s1,jg,s2,jh,s3,ji,s4,jk,s5,sV]) (hO.kp wZ LM)
 clear uG mk
 refine b_ (wp_region_lit ?_)
 have Ux:=hx jk sy
 refine ve ?_
 clear S
 intro _ _ _ S
 refine aW S rfl (rfl) ?_
 refine wp_skip ?_
 refine wp_seq ?_
 refine wp_block ?_
 (refine bQ 12 [_,_,_,_,_,_,_,_,_,_,_,_] [_,_,_,_,_,_,_,_,_,_,_,_] [[(0,none)],[(34,some 0)],[(35,some 1)],[(1,none)],[(4,none)],[(37,some 3),(38,some 4)],[(39,some 5)],[(5,none)],[(40,some 6),(41,some 7)],[(42,some 8)],[(43,some 9)],[(44,some 10)]] rfl S aX kf kf kf ⟨aY,aY,aY,aY,aY,aY,aY,aY,aY,aY,aY,Om,trivial⟩ ?_;clear S;intro _ _ _ S)
 obtain⟨q,cap,gs,ex,hq0,hq1,_,hg,hc,hcm,hcl⟩:=S.env 45 _ rfl
 have ep:=S.env 36 _ rfl
 refine nN [(0,.k (.pointer (some ⟨b,0,none⟩))),(1,.k (.slice (some ⟨la,0,none⟩) 1 1)),(4,.k (.int .i64 0)),(5,.k (.int .i64 4))] S (hO.out l1 l2 l3 (fun v hv=>(List.mem_append.1 hv).elim (cl v) fun h=>one (hx v (List.mem_of_mem_take (i:=4) (l:=[jf,jg,jh,ji,jk,sV]) h))) cf cu (by clear hq0 hq1 hg hc hcm hcl;show n+_≤900;simp only[List.length_append,List.length_cons,List.length_nil];omega) S.W.bel hq0 hq1 hg rfl (fun v hv=>by rw[List.mem_singleton.1 hv];exact one Ux) (by show 1≤100;decide) hc hcm hcl) (by simp only[List.map_cons,List.map_nil,ak,ex];rw[show _=Value.pointer (some ⟨b,0,none⟩)from ep];rfl) ⟨rfl,rfl,rfl,rfl,rfl,rfl,rfl,rfl,trivial⟩ fun w' uG mk=>?_
 clear S hO hol hoi ep ex hq0 hq1 hg hc hcm hcl
 have hO:=uG
 have S:=mk (hjc hO)
 have hol:=bW (xs:=[.slice (some ⟨i6,0,none⟩) 6 6]) (hO.kp wY LK)
 have hoi:=bW (xs:=[s0,jf,s1,jg,s2,jh,s3,ji,s4,jk,s5,sV]) (hO.kp wZ LM)
 clear uG mk
 refine b_ (wp_region_lit ?_)
 have hx5_0:=hx sV sy
 refine ve ?_
 clear S
 intro _ _ _ S
 refine aW S rfl (rfl) ?_
 refine wp_skip ?_
 refine wp_seq ?_
 refine wp_block ?_
 (refine bQ 12 [_,_,_,_,_,_,_,_,_,_,_,_] [_,_,_,_,_,_,_,_,_,_,_,_] [[(0,none)],[(34,some 0)],[(35,some 1)],[(1,none)],[(4,none)],[(37,some 3),(38,some 4)],[(39,some 5)],[(5,none)],[(40,some 6),(41,some 7)],[(42,some 8)],[(43,some 9)],[(44,some 10)]] rfl S aX kf kf kf ⟨aY,aY,aY,aY,aY,aY,aY,aY,aY,aY,aY,Om,trivial⟩ ?_;clear S;intro _ _ _ S)
 obtain⟨q,cap,gs,ex,hq0,hq1,_,hg,hc,hcm,hcl⟩:=S.env 45 _ rfl
 have ep:=S.env 36 _ rfl
 refine nN [(0,.k (.pointer (some ⟨b,0,none⟩))),(1,.k (.slice (some ⟨la,0,none⟩) 1 1)),(4,.k (.int .i64 0)),(5,.k (.int .i64 5))] S (hO.out l1 l2 l3 (fun v hv=>(List.mem_append.1 hv).elim (cl v) fun h=>one (hx v (List.mem_of_mem_take (i:=5) (l:=[jf,jg,jh,ji,jk,sV]) h))) cf cu (by clear hq0 hq1 hg hc hcm hcl;show n+_≤900;simp only[List.length_append,List.length_cons,List.length_nil];omega) S.W.bel hq0 hq1 hg rfl (fun v hv=>by rw[List.mem_singleton.1 hv];exact one hx5_0) (by show 1≤100;decide) hc hcm hcl) (by simp only[List.map_cons,List.map_nil,ak,ex];rw[show _=Value.pointer (some ⟨b,0,none⟩)from ep];rfl) ⟨rfl,rfl,rfl,rfl,rfl,rfl,rfl,rfl,trivial⟩ fun w' uG mk=>?_
 clear S hO hol hoi ep ex hq0 hq1 hg hc hcm hcl
 have hO:=uG
 have S:=mk (hjc hO)
 have hol:=bW (xs:=[.slice (some ⟨i6,0,none⟩) 6 6]) (hO.kp wY LK)
 have hoi:=bW (xs:=[s0,jf,s1,jg,s2,jh,s3,ji,s4,jk,s5,sV]) (hO.kp wZ LM)
 clear uG mk
 refine b_ (wp_region_lit (ve ?_))
 clear S
 intro _ _ _ S
 refine aK S rfl rfl (wp_exit (wp_region_lit (ve ?_)))
 clear S
 intro _ _ _ S
 refine aK S rfl rfl (wp_exit ?_)
 exact⟨S.df,_,aV (show bG Tryz.f25.results.toList=some []from rfl) _ _,rfl,ni,c1,g1,hO.fin hb iY bel2 S.W.bel n0 hni'⟩
end
section
variable {w:World} {b la i6 n:Nat} {vl vf vu v3:Value} {Lv Fv Uv:List Value} {s0 jf vg s1 jg vk s2 jh vw s3 ji vC s4 jk vF:Value}
theorem Uy(hb:Bn w b (v3,iy,iy,iy) vl vf vu Lv Fv Uv)(hv:v3.oneCell'=true)(l1:Lv.length=n)(l2:Fv.length=n)(l3:Uv.length=n)(cl:∀v,v∈Lv→v.oneCell'=true)(cf:∀v,v∈Fv→v.oneCell'=true)(cu:∀v,v∈Uv→v.oneCell'=true)(hn:n≤800)
 (hla:w.heap[la]? =some (.cells #[.slice (some ⟨i6,0,none⟩) 5 5] 64 (0,0))) (hi6:w.heap[i6]? =some (.cells #[s0,jf,vg,s1,jg,vk,s2,jh,vw,s3,ji,vC,s4,jk,vF] 29 (0,0))) (LK:¬Bq b vl vf vu la) (LM:¬Bq b vl vf vu i6) (hx:∀x,x∈[jf,vg,jg,vk,jh,vw,ji,vC,jk,vF]→∃a n c,x=Value.slice a n c) (hj:Jw w) (j1:¬Bq b vl vf vu 1) (j2:¬Bq b vl vf vu 0):
 Calls Tryz.prog 26 #[.pointer (some ⟨b,0,none⟩),.slice (some ⟨la,0,none⟩) 1 1] w (fun e w'=>e= .returned (.tuple #[])∧∃(ni c1:Nat) (g1:List Value),ZO w b (v3,.slice (some ⟨ni,0,none⟩) 1 c1,iy,iy) vl vf vu Lv Fv Uv [jf,vg,jg,vk,jh,vw,ji,vC,jk,vF] ni (.cells (.slice (some ⟨i6,0,none⟩) 5 5::g1).toArray 64 (0,0)) w'):=by
 have one:∀{v:Value},(∃a n c,v=Value.slice a n c)→v.oneCell'=true:=fun h=>by obtain⟨a,n,c,rfl⟩:=h;rfl
 refine dm (vs:=[.pointer (some ⟨b,0,none⟩),.slice (some ⟨la,0,none⟩) 1 1]) Tryz.func26 (c:=qf Tryz.f26) rfl (by show 2≤_;decide) fun a0 z0 e0 d0=>?_
 have S:PS w 56 0 [(0,.k (.pointer (some ⟨b,0,none⟩))),(1,.k (.slice (some ⟨la,0,none⟩) 1 1))] [] g0 a0 w:=sU hj z0 d0 ⟨e0 0 (by show 0<2;decide),e0 1 (by show 1<2;decide),trivial⟩
 obtain⟨gs,hold⟩:=hb.old
 have hol:=bW (xs:=[.slice (some ⟨i6,0,none⟩) 5 5]) hla
 clear e0 z0 d0
 refine ve ?_
 clear S
 intro _ _ _ S
 refine wp_block ?_
 refine wp_loop_rounds 2 (ve ?_)
 clear S
 intro _ _ _ S
 refine aW S rfl (rfl) ?_
 refine wp_skip ?_
 refine wp_seq ?_
 refine wp_block ?_
 (refine wp_seq (bQ 11 [_,_,_,_,_,_,_,_,_,_,_] [_,_,_,_,_,_,_,_,_,_,_] [[(0,none)],[(0,none)],[(13,some 1)],[(14,some 2)],[(15,some 3)],[(1,none)],[(4,none)],[(17,some 5),(18,some 6)],[(19,some 7)],[(20,some 8)],[(16,some 4),(21,some 9)]] rfl S aX kf kf kf ⟨aY,aY,aY,aY,aY,aY,aY,aY,aY,br_t,Zt (et:=64),trivial⟩ ?_);clear S;intro _ _ _ S)
 refine ve ?_
 clear S
 intro _ _ _ S
 obtain⟨ni,c1,g1,ex,n0,n1,nb,hni,_⟩:=S.env 22 _ rfl
 obtain⟨hc,hf,hb2,bel2⟩:=(hb.below S.W.bel).set (k:=4) (x:= .slice (some ⟨ni,0,none⟩) 1 c1) (rs':=(v3,.slice (some ⟨ni,0,none⟩) 1 c1,iy,iy)) dc dc rfl ⟨hv,rfl,rfl,rfl⟩
 refine Zu S rfl hc hf (by rw[ak,ex];rfl) ?_
 rw[ak,ex]
 refine b_ ?_
 have hjA:Jw _:=(hj.up S.W.bel).bel bel2 (fun e=>j1 (.inl e)) (fun e=>j2 (.inl e))
 have nbb:=hb.lt b (.inl rfl)
 have iY:=S.W.bel
 have hni':=(bel2.block ni n1 (fun e=>om)).trans hni
 have S':=sU (E:=[(0,.k (.pointer (some ⟨b,0,none⟩))),(1,.k (.slice (some ⟨la,0,none⟩) 1 1)),(4,.k (.int .i64 0))]) hjA S.sz S.df ⟨S.env 0 _ rfl,S.env 1 _ rfl,S.env 4 _ rfl,trivial⟩
 have kq:∀{q:Nat} {o:Obj},w.heap[q]? =some o→¬Bq b vl vf vu q→_:=fun h hq=>(bel2.block _ (Nat.lt_of_lt_of_le (Array.getElem?_eq_some_iff.1 h).1 iY.size) fun e=>hq (.inl e)).trans ((iY.block _ (Array.getElem?_eq_some_iff.1 h).1).trans h)
 have wY:=kq hla LK
 have wZ:=kq hi6 LM
 have hO:=OB.start hb2
 clear hc hf hb2 kq hol hold S
 have S:=S'
 clear S'
 rename_i w1 _
 generalize World.setCells _ _ _ _=wA at*
 have hjc:∀{vs:List Value} {wc:World},OB wA b (v3,.slice (some ⟨ni,0,none⟩) 1 c1,iy,iy) vl vf vu Lv Fv Uv vs wc→Jw wc:=fun h=>by
  obtain⟨_,_,_,_,_,bel,_⟩:=h;exact hjA.bel bel j1 j2
 have hol:=bW (xs:=[.slice (some ⟨i6,0,none⟩) 5 5]) wY
 have hoi:=bW (xs:=[s0,jf,vg,s1,jg,vk,s2,jh,vw,s3,ji,vC,s4,jk,vF]) wZ
 refine ve ?_
 clear S
 intro _ _ _ S
 refine wp_block ?_
 refine wp_loop_rounds 6 ?_
 have Ur:=hx jf sy
 have hx0_1:=hx vg sy
 refine ve ?_
 clear S
 intro _ _ _ S
 refine aW S rfl (rfl) ?_
 refine wp_skip ?_
 refine wp_seq ?_
 refine wp_block ?_
 (refine bQ 21 [_,_,_,_,_,_,_,_,_,_,_,_,_,_,_,_,_,_,_,_,_] [_,_,_,_,_,_,_,_,_,_,_,_,_,_,_,_,_,_,_,_,_] [[(0,none)],[(34,some 0)],[(35,some 1)],[(1,none)],[(4,none)],[(37,some 3),(38,some 4)],[(39,some 5)],[(5,none)],[(40,some 6),(41,some 7)],[(42,some 8)],[(43,some 9)],[(44,some 10)],[(1,none)],[(4,none)],[(46,some 12),(47,some 13)],[(48,some 14)],[(5,none)],[(49,some 15),(50,some 16)],[(51,some 17)],[(52,some 18)],[(45,some 11),(53,some 19)]] rfl S aX kf kf kf ⟨aY,aY,aY,aY,aY,aY,aY,aY,aY,aY,aY,aY,aY,aY,aY,aY,aY,aY,aY,aY,Un,trivial⟩ ?_;clear S;intro _ _ _ S)
 obtain⟨q,cap,gs,ex,hq0,hq1,_,hg,hc,hcm,hcl⟩:=S.env 54 _ rfl
 have ep:=S.env 36 _ rfl
 refine nN [(0,.k (.pointer (some ⟨b,0,none⟩))),(1,.k (.slice (some ⟨la,0,none⟩) 1 1)),(4,.k (.int .i64 0)),(5,.k (.int .i64 0))] S (hO.out l1 l2 l3 (fun v hv=>(List.mem_append.1 hv).elim (cl v) fun h=>one (hx v (List.mem_of_mem_take (i:=0) (l:=[jf,vg,jg,vk,jh,vw,ji,vC,jk,vF]) h))) cf cu (by clear hq0 hq1 hg hc hcm hcl;show n+_≤900;simp only[List.length_append,List.length_cons,List.length_nil];omega) S.W.bel hq0 hq1 hg rfl (fun v hv=>by simp only[List.mem_cons,List.not_mem_nil,or_false]at hv;rcases hv with rfl|rfl;(exact one Ur);(exact one hx0_1)) (by show 2≤100;decide) hc hcm hcl) (by simp only[List.map_cons,List.map_nil,ak,ex];rw[show _=Value.pointer (some ⟨b,0,none⟩)from ep];rfl) ⟨rfl,rfl,rfl,rfl,rfl,rfl,rfl,rfl,trivial⟩ fun w' uG mk=>?_
 clear S hO hol hoi ep ex hq0 hq1 hg hc hcm hcl
 have hO:=uG
 have S:=mk (hjc hO)
 have hol:=bW (xs:=[.slice (some ⟨i6,0,none⟩) 5 5]) (hO.kp wY LK)
 have hoi:=bW (xs:=[s0,jf,vg,s1,jg,vk,s2,jh,vw,s3,ji,vC,s4,jk,vF]) (hO.kp wZ LM)
 clear uG mk
 refine b_ (wp_region_lit ?_)
 have Ut:=hx jg sy
 have hx1_1:=hx vk sy
 refine ve ?_
 clear S
 intro _ _ _ S
 refine aW S rfl (rfl) ?_
 refine wp_skip ?_
 refine wp_seq ?_
 refine wp_block ?_
 (refine bQ 21 [_,_,_,_,_,_,_,_,_,_,_,_,_,_,_,_,_,_,_,_,_] [_,_,_,_,_,_,_,_,_,_,_,_,_,_,_,_,_,_,_,_,_] [[(0,none)],[(34,some 0)],[(35,some 1)],[(1,none)],[(4,none)],[(37,some 3),(38,some 4)],[(39,some 5)],[(5,none)],[(40,some 6),(41,some 7)],[(42,some 8)],[(43,some 9)],[(44,some 10)],[(1,none)],[(4,none)],[(46,some 12),(47,some 13)],[(48,some 14)],[(5,none)],[(49,some 15),(50,some 16)],[(51,some 17)],[(52,some 18)],[(45,some 11),(53,some 19)]] rfl S aX kf kf kf ⟨aY,aY,aY,aY,aY,aY,aY,aY,aY,aY,aY,aY,aY,aY,aY,aY,aY,aY,aY,aY,Un,trivial⟩ ?_;clear S;intro _ _ _ S)
 obtain⟨q,cap,gs,ex,hq0,hq1,_,hg,hc,hcm,hcl⟩:=S.env 54 _ rfl
 have ep:=S.env 36 _ rfl
 refine nN [(0,.k (.pointer (some ⟨b,0,none⟩))),(1,.k (.slice (some ⟨la,0,none⟩) 1 1)),(4,.k (.int .i64 0)),(5,.k (.int .i64 1))] S (hO.out l1 l2 l3 (fun v hv=>(List.mem_append.1 hv).elim (cl v) fun h=>one (hx v (List.mem_of_mem_take (i:=2) (l:=[jf,vg,jg,vk,jh,vw,ji,vC,jk,vF]) h))) cf cu (by clear hq0 hq1 hg hc hcm hcl;show n+_≤900;simp only[List.length_append,List.length_cons,List.length_nil];omega) S.W.bel hq0 hq1 hg rfl (fun v hv=>by simp only[List.mem_cons,List.not_mem_nil,or_false]at hv;rcases hv with rfl|rfl;(exact one Ut);(exact one hx1_1)) (by show 2≤100;decide) hc hcm hcl) (by simp only[List.map_cons,List.map_nil,ak,ex];rw[show _=Value.pointer (some ⟨b,0,none⟩)from ep];rfl) ⟨rfl,rfl,rfl,rfl,rfl,rfl,rfl,rfl,trivial⟩ fun w' uG mk=>?_
 clear S hO hol hoi ep ex hq0 hq1 hg hc hcm hcl
 have hO:=uG
 have S:=mk (hjc hO)
 have hol:=bW (xs:=[.slice (some ⟨i6,0,none⟩) 5 5]) (hO.kp wY LK)
 have hoi:=bW (xs:=[s0,jf,vg,s1,jg,vk,s2,jh,vw,s3,ji,vC,s4,jk,vF]) (hO.kp wZ LM)
 clear uG mk
 refine b_ (wp_region_lit ?_)
 have Uu:=hx jh sy
 have hx2_1:=hx vw sy
 refine ve ?_
 clear S
 intro _ _ _ S
 refine aW S rfl (rfl) ?_
 refine wp_skip ?_
 refine wp_seq ?_
 refine wp_block ?_
 (refine bQ 21 [_,_,_,_,_,_,_,_,_,_,_,_,_,_,_,_,_,_,_,_,_] [_,_,_,_,_,_,_,_,_,_,_,_,_,_,_,_,_,_,_,_,_] [[(0,none)],[(34,some 0)],[(35,some 1)],[(1,none)],[(4,none)],[(37,some 3),(38,some 4)],[(39,some 5)],[(5,none)],[(40,some 6),(41,some 7)],[(42,some 8)],[(43,some 9)],[(44,some 10)],[(1,none)],[(4,none)],[(46,some 12),(47,some 13)],[(48,some 14)],[(5,none)],[(49,some 15),(50,some 16)],[(51,some 17)],[(52,some 18)],[(45,some 11),(53,some 19)]] rfl S aX kf kf kf ⟨aY,aY,aY,aY,aY,aY,aY,aY,aY,aY,aY,aY,aY,aY,aY,aY,aY,aY,aY,aY,Un,trivial⟩ ?_;clear S;intro _ _ _ S)
 obtain⟨q,cap,gs,ex,hq0,hq1,_,hg,hc,hcm,hcl⟩:=S.env 54 _ rfl
 have ep:=S.env 36 _ rfl
 refine nN [(0,.k (.pointer (some ⟨b,0,none⟩))),(1,.k (.slice (some ⟨la,0,none⟩) 1 1)),(4,.k (.int .i64 0)),(5,.k (.int .i64 2))] S (hO.out l1 l2 l3 (fun v hv=>(List.mem_append.1 hv).elim (cl v) fun h=>one (hx v (List.mem_of_mem_take (i:=4) (l:=[jf,vg,jg,vk,jh,vw,ji,vC,jk,vF]) h))) cf cu (by clear hq0 hq1 hg hc hcm hcl;show n+_≤900;simp only[List.length_append,List.length_cons,List.length_nil];omega) S.W.bel hq0 hq1 hg rfl (fun v hv=>by simp only[List.mem_cons,List.not_mem_nil,or_false]at hv;rcases hv with rfl|rfl;(exact one Uu);(exact one hx2_1)) (by show 2≤100;decide) hc hcm hcl) (by simp only[List.map_cons,List.map_nil,ak,ex];rw[show _=Value.pointer (some ⟨b,0,none⟩)from ep];rfl) ⟨rfl,rfl,rfl,rfl,rfl,rfl,rfl,rfl,trivial⟩ fun w' uG mk=>?_
 clear S hO hol hoi ep ex hq0 hq1 hg hc hcm hcl
 have hO:=uG
 have S:=mk (hjc hO)
 have hol:=bW (xs:=[.slice (some ⟨i6,0,none⟩) 5 5]) (hO.kp wY LK)
 have hoi:=bW (xs:=[s0,jf,vg,s1,jg,vk,s2,jh,vw,s3,ji,vC,s4,jk,vF]) (hO.kp wZ LM)
 clear uG mk
 refine b_ (wp_region_lit ?_)
 have Uw:=hx ji sy
 have hx3_1:=hx vC sy
 refine ve ?_
 clear S
 intro _ _ _ S
 refine aW S rfl (rfl) ?_
 refine wp_skip ?_
 refine wp_seq ?_
 refine wp_block ?_
 (refine bQ 21 [_,_,_,_,_,_,_,_,_,_,_,_,_,_,_,_,_,_,_,_,_] [_,_,_,_,_,_,_,_,_,_,_,_,_,_,_,_,_,_,_,_,_] [[(0,none)],[(34,some 0)],[(35,some 1)],[(1,none)],[(4,none)],[(37,some 3),(38,some 4)],[(39,some 5)],[(5,none)],[(40,some 6),(41,some 7)],[(42,some 8)],[(43,some 9)],[(44,some 10)],[(1,none)],[(4,none)],[(46,some 12),(47,some 13)],[(48,some 14)],[(5,none)],[(49,some 15),(50,some 16)],[(51,some 17)],[(52,some 18)],[(45,some 11),(53,some 19)]] rfl S aX kf kf kf ⟨aY,aY,aY,aY,aY,aY,aY,aY,aY,aY,aY,aY,aY,aY,aY,aY,aY,aY,aY,aY,Un,trivial⟩ ?_;clear S;intro _ _ _ S)
 obtain⟨q,cap,gs,ex,hq0,hq1,_,hg,hc,hcm,hcl⟩:=S.env 54 _ rfl
 have ep:=S.env 36 _ rfl
 refine nN [(0,.k (.pointer (some ⟨b,0,none⟩))),(1,.k (.slice (some ⟨la,0,none⟩) 1 1)),(4,.k (.int .i64 0)),(5,.k (.int .i64 3))] S (hO.out l1 l2 l3 (fun v hv=>(List.mem_append.1 hv).elim (cl v) fun h=>one (hx v (List.mem_of_mem_take (i:=6) (l:=[jf,vg,jg,vk,jh,vw,ji,vC,jk,vF]) h))) cf cu (by clear hq0 hq1 hg hc hcm hcl;show n+_≤900;simp only[List.length_append,List.length_cons,List.length_nil];omega) S.W.bel hq0 hq1 hg rfl (fun v hv=>by simp only[List.mem_cons,List.not_mem_nil,or_false]at hv;rcases hv with rfl|rfl;(exact one Uw);(exact one hx3_1)) (by show 2≤100;decide) hc hcm hcl) (by simp only[List.map_cons,List.map_nil,ak,ex];rw[show _=Value.pointer (some ⟨b,0,none⟩)from ep];rfl) ⟨rfl,rfl,rfl,rfl,rfl,rfl,rfl,rfl,trivial⟩ fun w' uG mk=>?_
 clear S hO hol hoi ep ex hq0 hq1 hg hc hcm hcl
 have hO:=uG
 have S:=mk (hjc hO)
 have hol:=bW (xs:=[.slice (some ⟨i6,0,none⟩) 5 5]) (hO.kp wY LK)
 have hoi:=bW (xs:=[s0,jf,vg,s1,jg,vk,s2,jh,vw,s3,ji,vC,s4,jk,vF]) (hO.kp wZ LM)
 clear uG mk
 refine b_ (wp_region_lit ?_)
 have Ux:=hx jk sy
 have hx4_1:=hx vF sy
 refine ve ?_
 clear S
 intro _ _ _ S
 refine aW S rfl (rfl) ?_
 refine wp_skip ?_
 refine wp_seq ?_
 refine wp_block ?_
 (refine bQ 21 [_,_,_,_,_,_,_,_,_,_,_,_,_,_,_,_,_,_,_,_,_] [_,_,_,_,_,_,_,_,_,_,_,_,_,_,_,_,_,_,_,_,_] [[(0,none)],[(34,some 0)],[(35,some 1)],[(1,none)],[(4,none)],[(37,some 3),(38,some 4)],[(39,some 5)],[(5,none)],[(40,some 6),(41,some 7)],[(42,some 8)],[(43,some 9)],[(44,some 10)],[(1,none)],[(4,none)],[(46,some 12),(47,some 13)],[(48,some 14)],[(5,none)],[(49,some 15),(50,some 16)],[(51,some 17)],[(52,some 18)],[(45,some 11),(53,some 19)]] rfl S aX kf kf kf ⟨aY,aY,aY,aY,aY,aY,aY,aY,aY,aY,aY,aY,aY,aY,aY,aY,aY,aY,aY,aY,Un,trivial⟩ ?_;clear S;intro _ _ _ S)
 obtain⟨q,cap,gs,ex,hq0,hq1,_,hg,hc,hcm,hcl⟩:=S.env 54 _ rfl
 have ep:=S.env 36 _ rfl
 refine nN [(0,.k (.pointer (some ⟨b,0,none⟩))),(1,.k (.slice (some ⟨la,0,none⟩) 1 1)),(4,.k (.int .i64 0)),(5,.k (.int .i64 4))] S (hO.out l1 l2 l3 (fun v hv=>(List.mem_append.1 hv).elim (cl v) fun h=>one (hx v (List.mem_of_mem_take (i:=8) (l:=[jf,vg,jg,vk,jh,vw,ji,vC,jk,vF]) h))) cf cu (by clear hq0 hq1 hg hc hcm hcl;show n+_≤900;simp only[List.length_append,List.length_cons,List.length_nil];omega) S.W.bel hq0 hq1 hg rfl (fun v hv=>by simp only[List.mem_cons,List.not_mem_nil,or_false]at hv;rcases hv with rfl|rfl;(exact one Ux);(exact one hx4_1)) (by show 2≤100;decide) hc hcm hcl) (by simp only[List.map_cons,List.map_nil,ak,ex];rw[show _=Value.pointer (some ⟨b,0,none⟩)from ep];rfl) ⟨rfl,rfl,rfl,rfl,rfl,rfl,rfl,rfl,trivial⟩ fun w' uG mk=>?_
 clear S hO hol hoi ep ex hq0 hq1 hg hc hcm hcl
 have hO:=uG
 have S:=mk (hjc hO)
 have hol:=bW (xs:=[.slice (some ⟨i6,0,none⟩) 5 5]) (hO.kp wY LK)
 have hoi:=bW (xs:=[s0,jf,vg,s1,jg,vk,s2,jh,vw,s3,ji,vC,s4,jk,vF]) (hO.kp wZ LM)
 clear uG mk
 refine b_ (wp_region_lit (ve ?_))
 clear S
 intro _ _ _ S
 refine aK S rfl rfl (wp_exit (wp_region_lit (ve ?_)))
 clear S
 intro _ _ _ S
 refine aK S rfl rfl (wp_exit ?_)
 exact⟨S.df,_,aV (show bG Tryz.f26.results.toList=some []from rfl) _ _,rfl,ni,c1,g1,hO.fin hb iY bel2 S.W.bel n0 hni'⟩
end
section
structure Mv(w0:World)(γ:Gh)(w:World)(T:List Nat)(w1:World)(γ':Gh)(w':World):Prop where
 sz:w1.heap.size=w0.heap.size
 wz:w.heap.size≤w'.heap.size
 eb:∀i b,γ.β i=some b→γ'.β i=some b
 ek:∀t x,γ.κ t=some x→γ'.κ t=some x
 bx:∀i b,γ.β i=some b→w'.heap[b]? =w.heap[b]?
 kx:∀t q,t∈T→γ.κ t=some (some q)→w'.heap[q]? =w.heap[q]?
def Δ.Zv(T:List Nat):Δ→Bool
 | .k _| .p _ _| .sl _ _ _=>true
 | .ow _ u=>T.contains u
 |_=>false
def Δ.tr1(T:List Nat):Δ→Bool
 | .g ds=>ds.all (Δ.Zv T)
 |d=>d.Zv T
variable {w0 w w' w1:World} {γ γ':Gh} {N c:Nat} {E:En} {Bx:Bs} {a:Act} {P:Program} {T:List Nat}
theorem s0.JX(h:Mv w0 γ w T w1 γ' w'):∀{d:Δ} {x:Value},s0 w0 γ w d x→d.Zv T=true→s0 w1 γ' w' d x
 | .k _,_,h2,_=>h2
 | .ow A t,x,⟨⟨m,hm,ho⟩,hk⟩,ht=>⟨⟨m,hm,dX (aP ho fun q hq=>h.kx t q (by simpa[Δ.Zv]using ht) (by rw[hk,hq])) (Nat.le_of_eq h.sz)⟩,h.ek _ _ hk⟩
 | .p i o,x,⟨b,h1,h2⟩,_=>⟨b,h.eb _ _ h1,h2⟩
 | .sl i n m,x,⟨b,h1,h2⟩,_=>⟨b,h.eb _ _ h1,h2⟩
 | .rd _,_,_,h=>by cases h
 | .rz _ _,_,_,h=>by cases h
 | .f _,_,_,h=>by cases h
 | .g _,_,_,h=>by cases h
 | .t _,_,_,h=>by cases h
theorem l0.JX(h:Mv w0 γ w T w1 γ' w'):∀{ds:List Δ} {xs:List Value},l0 w0 γ w ds xs→ds.all (Δ.Zv T)=true→l0 w1 γ' w' ds xs
 |[],[],h,_=>h
 |_::_,_::_,h1,h2=>by
  simp only[List.all_cons,Bool.and_eq_true]at h2;exact⟨s0.JX h h1.1 h2.1,l0.JX h h1.2 h2.2⟩
 |[],_::_,h,_=>h.elim
 |_::_,[],h,_=>h.elim
theorem s2.JX(h:Mv w0 γ w T w1 γ' w'):∀{d:Δ} {x:Value},s2 w0 γ w d x→d.tr1 T=true→s2 w1 γ' w' d x
 | .g _,_,⟨xs,e,h1⟩,h2=>⟨xs,e,l0.JX h h1 h2⟩
 | .k _,_,h1,h2=>s0.JX (d:= .k _) h h1 h2
 | .ow _ _,_,h1,h2=>s0.JX (d:= .ow _ _) h h1 h2
 | .p _ _,_,h1,h2=>s0.JX (d:= .p _ _) h h1 h2
 | .sl _ _ _,_,h1,h2=>s0.JX (d:= .sl _ _ _) h h1 h2
 | .rd _,_,_,h=>by cases h
 | .rz _ _,_,_,h=>by cases h
 | .f _,_,_,h=>by cases h
 | .t _,_,_,h=>by cases h
theorem bx.JX(h:Mv w0 γ w T w1 γ' w'){i:Nat}{b:TypeId×List Δ}(hb:bx w0 γ w i b)(ht:b.2.all (Δ.Zv T)=true):bx w1 γ' w' i b:=by
 obtain⟨q,xs,h1,h2,h3⟩:=hb;exact⟨q,xs,h.eb _ _ h1,(h.bx _ _ h1).trans h2,l0.JX h h3 ht⟩
structure OkF(P:Program)(w0:World)(N:Nat)(o:Oper)(i:Nat)(R:Nat→Option Δ)(Z0:Nat→Prop)(T:List Nat)(Θ Θ':Gh→World→Prop)(d:Δ):Prop where
 ok:∀(Q:Exit→Act→World→Prop) (γ:Gh) (a:Act) (w:World) (F:Nat→Prop) (K:Act→World→Prop),a.tmps.size=N→Wi w0 γ w F→F i→(∀t d,R t=some d→s2 w0 γ w d (a.tmps.getD t undef))→Θ γ w→
  (∀γ' v w' w1,Mv w0 γ w T w1 γ' w'→aI w0 Z0 w1→Wi w1 γ' w' (fun k=>F k∧k≠i)→s2 w1 γ' w' d v→Θ' γ' w'→K (a.put o.dst v) w')→o.wp P a w K Q
abbrev Fcs:=List (Option Nat)
section
variable {Z0:Nat→Prop} {Tl:List (List Nat)} {Θ:Nat→Gh→World→Prop}
def Bz(P:Program)(w0:World)(N c:Nat)(E:En)(Bx:Bs)(D0:List Δ)(Z0:Nat→Prop)(Tl:List (List Nat))(Θ:Nat→Gh→World→Prop):Nat→List Oper→List Rl→List Δ→UJ→Fcs→Prop
 |j,o::os,r::rs,d::ds,b::bs,f::fs=>(match f with
  |none=>∀w1:World,w1.heap.size=w0.heap.size→aI w0 Z0 w1→Ok P w1 N o (c+j) (dep E D0 r) Bx d b
  |some k=>b=none∧∀w1:World,w1.heap.size=w0.heap.size→aI w0 Z0 w1→OkF P w1 N o (c+j) (dep E D0 r) Z0 (Tl.take k).flatten (Θ k) (Θ (k+1)) d)∧Bz P w0 N c E Bx D0 Z0 Tl Θ (j+1) os rs ds bs fs
 |_,_,[],[],[],[]=>True
 |_,_,_,_,_,_=>False
theorem Bz.get{D0:List Δ}:∀{m:Nat} {l:List Oper} {rs:List Rl} {ds:List Δ} {bs:UJ} {fs:Fcs} {j:Nat} {o:Oper},Bz P w0 N c E Bx D0 Z0 Tl Θ m l rs ds bs fs→j<ds.length→l[j]? =some o→∃d b f,ds[j]? =some d∧bs[j]? =some b∧fs[j]? =some f∧(match f with
 |none=>∀w1:World,w1.heap.size=w0.heap.size→aI w0 Z0 w1→Ok P w1 N o (c+(m+j)) (dep E D0 (rs.getD j [])) Bx d b
 |some k=>b=none∧∀w1:World,w1.heap.size=w0.heap.size→aI w0 Z0 w1→OkF P w1 N o (c+(m+j)) (dep E D0 (rs.getD j [])) Z0 (Tl.take k).flatten (Θ k) (Θ (k+1)) d)
 |m,o1::os,r::rs,d::ds,b::bs,f::fs,0,o,h,_,ho=>by
  simp at ho;subst ho;exact⟨d,b,f,rfl,rfl,rfl,h.1⟩
 |m,o1::os,r::rs,d::ds,b::bs,f::fs,j+1,o,h,hj,ho=>by
  obtain⟨d',b',f',h1,h2,h3,h4⟩:=Bz.get (j:=j) h.2 (by simpa using hj) (by simpa using ho);refine⟨d',b',f',by simpa using h1,by simpa using h2,by simpa using h3,?_⟩;rw[show c+(m+(j+1))=c+(m+1+j)from om];exact h4
 |_,[],_,_,_,_,_,_,_,_,ho=>by simp at ho
 |_,_::_,_,[],_,_,_,_,_,hj,_=>by simp at hj
 |_,_::_,[],_::_,_,_,_,_,h,_,_=>by simp[Bz]at h
 |_,_::_,_::_,_::_,[],_,_,_,h,_,_=>by simp[Bz]at h
 |_,_::_,_::_,_::_,_::_,[],_,_,h,_,_=>by simp[Bz]at h
def fB(l:List Oper)(n c:Nat)(Fc:Fcs)(Tl:List (List Nat)):Bool:=
 decide (Fc.length=n)&&((List.range n).all fun j=>match Fc.getD j none with
  |none=>true
  |some k=>decide (k<Tl.length)&&((Tl.getD k []).all fun t=>decide (4*(c+j)≤t∧t<4*(c+j)+4))&&((List.range n).all fun i=>decide (i=j)||Fc.getD i none != some k)&&(match k with
   |0=>true
   |k+1=>match l[j]? with|some o=>o.after.any (fun e=>Region.binds .any e&&Fc.getD e.on none==some k)|none=>false))&&((List.range Tl.length).all fun k=>(List.range n).any fun j=>Fc.getD j none==some k)
def fxT(Θ:Gh→World→Prop)(up:∀{γ w γ' w'},St γ w γ' w'→Θ γ w→Θ γ' w'):Fx:=⟨fun γ w _=>Θ γ w,false,fun h=>up h,fun h=>(by cases h)⟩
theorem Uz{id:Nat}{l:List Oper}{Q:Exit→Act→World→Prop}(n:Nat)(Ds:List Δ)(Nb:UJ)(Fc:Fcs)(rs:List Rl)(Tl:List (List Nat))(Θ:Nat→Gh→World→Prop)(hup:∀k {γ w γ' w'},St γ w γ' w'→Θ k γ w→Θ k γ' w')(hDn:Ds.length=n)(S:PS w0 N c E Bx γ a w)(h0:Θ 0 γ w)(hm:P.follows .mixedOrders=true)(hB:headB l n=true)(hN:((List.range n).all fun i=>decide (ig l i<N))=true)(hr:rB l n rs=true)(hF:fB l n c Fc Tl=true)
 (ops:Bz P w0 N c E Bx Ds Z0 Tl Θ 0 l rs Ds Nb Fc)
 (fin:∀w1 γ' a' w',w1.heap.size=w0.heap.size→aI w0 Z0 w1→PS w1 N (c+n) ((9999,.f (fxT (Θ Tl.length) (hup _)))::(dL l 0 Ds++E)) (bL c 0 Nb++Bx) γ' a' w'→wpList P l.toArray Q (l.drop n) a' w') (tE:E.all (fun p=>p.2.tr1 Tl.flatten)=true:=by rfl) (tB:Bx.all (fun p=>p.2.2.all (Δ.Zv Tl.flatten))=true:=by rfl) (tD:Ds.all (Δ.tr1 Tl.flatten)=true:=by rfl) (tN:Nb.all (fun b=>match b with|some b=>b.2.all (Δ.Zv Tl.flatten)|none=>true)=true:=by rfl):(Code.region id l.toArray true).wp P Q a w:=by
 subst hDn
 have hB':=hB
 simp only[headB,Gz,Bool.and_eq_true]at hB'
 obtain⟨⟨hT,hdst⟩,hgd⟩:=hB'
 simp only[fB,Bool.and_eq_true,decide_eq_true_eq]at hF
 obtain⟨⟨hFl,hF1⟩,hF2⟩:=hF
 have gF:∀{j:Nat} {f:Option Nat},Fc[j]? =some f→Fc.getD j none=f∧j<Ds.length:=fun {j f} h=>⟨by simp[List.getD,h],by rw[←hFl];exact(List.getElem?_eq_some_iff.1 h).1⟩
 have gF1:∀{j k:Nat},Fc.getD j none=some k→j<Ds.length∧Fc[j]? =some (some k):=fun {j k} h=>by
  unfold List.getD at h;cases hj:Fc[j]? with
  |none=>rw[hj]at h;cases h
  |some f=>rw[hj]at h;cases h;exact⟨(gF hj).2,rfl⟩
 have Yg:∀{α:Type} {r:List (Nat×α)} {t:Nat} {x:α},lk r t=some x→(t,x)∈r:=fun {α r}=>by
  induction r with
  |nil=>intro t x h;cases h
  |cons p r ih=>
   intro t x h;rcases aG (i:=p.1) (x:=p.2) h with ⟨rfl,rfl⟩|⟨_,h⟩
   ·exact List.mem_cons_self
   ·exact List.mem_cons_of_mem _ (ih h)
 have gd:∀i o,i<Ds.length→l[i]? =some o→o.guard=none∧∃k,o.dst=some k∧ig l i=k∧k<N:=fun i o hi ho=>by
  have h1:=List.all_eq_true.1 hgd i (List.mem_range.2 hi);have h2:=List.all_eq_true.1 hdst i (List.mem_range.2 hi);have h3:=of_decide_eq_true (List.all_eq_true.1 hN i (List.mem_range.2 hi));rw[ho]at h1 h2;obtain⟨k,hk⟩:=Option.isSome_iff_exists.1 h2;have e:ig l i=k:=by simp[ig,ho,hk]
  exact⟨Option.isNone_iff_eq_none.1 h1,k,hk,e,e▸h3⟩
 have dne:∀i j,i<Ds.length→j<Ds.length→i≠j→ig l i≠ig l j:=fun i j hi hj hij=>by
  obtain⟨o,ho,_,hd⟩:=nK hT hi;obtain⟨o2,ho2,_,_⟩:=nK hT hj;obtain⟨_,k,hk,e1,_⟩:=gd i o hi ho;obtain⟨_,k2,hk2,e2,_⟩:=gd j o2 hj ho2;rw[e1,e2];intro e;exact(hd k hk).2 j o2 hj hij ho2 (by rw[hk2,e])
 refine uX (fun listed a w1=>∃γ1 wb m,wb.heap.size=w0.heap.size∧aI w0 Z0 wb∧Wi wb γ1 w1 (fun i=>c≤i∧(i<c+Ds.length→listed.getD (i-c) true=false))∧(∀t d,lk E t=some d→(∀j,j<Ds.length→ig l j≠t)→s2 wb γ1 w1 d (a.tmps.getD t undef))∧(∀i b,lk Bx i=some b→bx wb γ1 w1 i b)∧(∀j d,j<Ds.length→Ds[j]? =some d→listed.getD j true=true→s2 wb γ1 w1 d (a.tmps.getD (ig l j) undef))∧(∀j b,j<Ds.length→Nb[j]? =some (some b)→listed.getD j true=true→bx wb γ1 w1 (c+j) b)∧m≤Tl.length∧Θ m γ1 w1∧∀j k,Fc[j]? =some (some k)→(listed.getD j true=true↔k<m))
  (fun w w'=>w.heap.size≤w'.heap.size) (fun w=>Nat.le_refl _) (fun a b c h1 h2=>Nat.le_trans h1 h2) (fun _ _ _=>True) (fun _ _=>none) hm hT S.sz hN (fun _ _ _ _ _ _ _=>trivial) (fun _ _ _ _ _ _ h=>by cases h) (fun _ _ _ _ _ _ _ _ _=>⟨trivial,rfl⟩) ?_ ?_ ?_
 ·have hl:∀j,j<Ds.length→(Array.replicate l.length false).getD j true=false:=fun j hj=>by
   have:=pR hT;simp[show j<l.length from om]
  have hb:Below w.heap.size w {w with drawn:=w.drawn+1}:=⟨rfl,rfl,rfl,Nat.le_refl _,fun _ _=>rfl⟩;refine⟨γ,w0,0,rfl,aI.refl _ _,(S.W.Ep (below_le S.W hb)).sub fun i hi=>hi.1,fun t d h _=>s2.up S.W (.of hb) (S.env t d h),fun i b h=>(S.box i b h).up S.W (.of hb) fun q hq=>rfl,fun j d hj _ h=>?_,fun j b hj _ h=>?_,Nat.zero_le _,hup 0 (.of hb) h0,fun j k h=>?_⟩
  ·rw[hl j hj]at h;cases h
  ·rw[hl j hj]at h;cases h
  ·rw[hl j (gF h).2];exact⟨fun h=>(by cases h),fun h=>om⟩
 ·rintro i o a1 w1 listed hi ho hls Y0 Df ⟨γ1,wb,m,hsz,hbz,hW,hE,hBx,hv,hnb,hmM,hΘ,hfc⟩ hz hL _ _ K hK;obtain⟨hg,k,hk,hki,hkN⟩:=gd i o hi ho;obtain⟨d,b,f,hd,hb,hf,hok⟩:=ops.get hi ho;rw[Nat.zero_add]at hok;have hil:i<listed.size:=by have:=pR hT;omega
  rw[if_pos (by unfold Region.wanted;rw[hg])];have hR:∀t d1,dep E Ds (rs.getD i []) t=some d1→s2 wb γ1 w1 d1 (a1.tmps.getD t undef):=fun t d1 ht=>by
   unfold dep at ht;split at ht
   ·rename_i m1 hm1;have h1:=List.all_eq_true.1 hr i (List.mem_range.2 hi);have h2:=List.all_eq_true.1 h1 _ (Yg hm1);simp only[Bool.and_eq_true,decide_eq_true_eq,beq_iff_eq,ho,Array.any_eq_true']at h2;obtain⟨⟨h3,h4⟩,e,he,h5,h6⟩:=h2;have h7:=Df e he h5;rw[h6]at h7;have:=hv m1 d1 h3 ht h7;rw[h4]at this;exact this
   ·rename_i hm1;have h1:=List.all_eq_true.1 hr i (List.mem_range.2 hi);have h2:=List.all_eq_true.1 h1 _ (Yg hm1);refine hE t d1 ht fun j hj=>?_
    have:=List.all_eq_true.1 h2 j (List.mem_range.2 hj);simpa using this
   ·cases ht
  have Tt:c≤c+i∧(c+i<c+Ds.length→listed.getD (c+i-c) true=false):=⟨om,fun _=>by rw[show c+i-c=i from om];exact Y0⟩;have sub1:∀j,c≤j∧(j<c+Ds.length→(listed.setIfInBounds i true).getD (j-c) true=false)→(c≤j∧(j<c+Ds.length→listed.getD (j-c) true=false))∧j≠c+i:=fun j hj=>⟨⟨hj.1,fun h=>by
   have h2:=hj.2 h;rw[f_]at h2;split at h2
   ·cases h2
   ·exact h2⟩,fun e=>by
   have h2:=hj.2 om;rw[f_,if_pos ⟨om,hil⟩]at h2;cases h2⟩
  cases f with
  |none=>
   refine(hok wb hsz hbz).ok Q γ1 a1 w1 _ K hz hW Tt hR hBx fun γ' v w' hs hbw hW' hv' hn'=>hK v w' trivial hbw.size (fun _ h=>by cases h) ⟨γ',wb,m,hsz,hbz,hW'.sub sub1,fun t d1 ht hn=>?_,fun j b1 hj=>(hBx j b1 hj).up hW hs fun q hq=>hbw.block q (hW.bn j q hq).2,fun j d1 hj hd1 hlj=>?_,fun j b1 hj hb1 hlj=>?_,hmM,hup m hs hΘ,fun j k2 hjk=>?_⟩
   ·rw[hk,gG (by rw[←hki];exact hn i hi)];exact s2.up hW hs (hE t d1 ht hn)
   ·by_cases hji:j=i
    ·subst hji;rw[hk,hki,put_eq (Nat.lt_of_lt_of_eq hkN hz.symm)];rw[hd]at hd1;cases hd1;exact hv'
    ·rw[hk,gG (by rw[←hki];exact dne i j hi hj (Ne.symm hji))];rw[f_,if_neg (fun h=>hji h.1.symm)]at hlj;exact s2.up hW hs (hv j d1 hj hd1 hlj)
   ·by_cases hji:j=i
    ·subst hji;rw[hb]at hb1;cases hb1;exact hn' _ rfl
    ·rw[f_,if_neg (fun h=>hji h.1.symm)]at hlj;exact(hnb j b1 hj hb1 hlj).up hW hs fun q hq=>hbw.block q (hW.bn _ q hq).2
   ·rw[f_,if_neg (fun h=>by rw[←h.1,hf]at hjk;cases hjk)];exact hfc j k2 hjk
  |some kf=>
   obtain⟨rfl,hokf⟩:=hok;have hF3:=List.all_eq_true.1 hF1 i (List.mem_range.2 hi);rw[(gF hf).1]at hF3;simp only[Bool.and_eq_true,decide_eq_true_eq]at hF3;obtain⟨⟨⟨hkT,htg⟩,huq⟩,hch⟩:=hF3;have h1:¬kf<m:=fun h=>by rw[(hfc i kf hf).2 h]at Y0;cases Y0
   have Vo:kf=m:=by
    cases kf with
    |zero=>omega
    |succ kf=>
     simp only[ho,Array.any_eq_true',Bool.and_eq_true,beq_iff_eq]at hch;obtain⟨e,he,h5,h6⟩:=hch;have h7:=Df e he h5;have:=(hfc e.on kf (gF1 h6).2).1 h7;omega
   subst Vo;have hnone:∀t,t∈Tl.flatten→t ∉ (Tl.take kf).flatten→γ1.κ t=none:=fun t ht hnt=>by
    obtain⟨ts,hts,htt⟩:=List.mem_flatten.1 ht;obtain⟨k2,hk2,rfl⟩:=List.getElem_of_mem hts;have hk3:kf≤k2:=Nat.le_of_not_lt fun h=>hnt (List.mem_flatten.2 ⟨Tl[k2],List.mem_iff_getElem.2 ⟨k2,by simp;omega,sy⟩,htt⟩)
    have h8:=List.all_eq_true.1 hF2 k2 (List.mem_range.2 hk2);obtain⟨j,hj,h9⟩:=List.any_eq_true.1 h8;have hj':=List.mem_range.1 hj;have h9:=eq_of_beq h9;have h10:=List.all_eq_true.1 hF1 j hj;rw[h9]at h10;simp only[Bool.and_eq_true,decide_eq_true_eq]at h10;have h11:=List.all_eq_true.1 h10.1.1.2 t (by simpa[List.getD,hk2]using htt);have h11:=of_decide_eq_true h11;have hlj:listed.getD j true=false:=by
     cases h:listed.getD j true with
     |false=>rfl
     |true=>have:=(hfc j k2 (gF1 h9).2).1 h;omega
    have:=(hW.fr (c+j) ⟨om,fun _=>by rw[show c+j-c=j from om];exact hlj⟩).2 (t-4*(c+j)) om;rwa[show 4*(c+j)+(t-4*(c+j))=t from om]at this
   refine(hokf wb hsz hbz).ok Q γ1 a1 w1 _ K hz hW Tt hR hΘ fun γ' v w' w2 mv hb2 hW' hv' hΘ'=>?_
   have mv':Mv wb γ1 w1 Tl.flatten w2 γ' w':=⟨mv.sz,mv.wz,mv.eb,mv.ek,mv.bx,fun t q ht hq=>by
    by_cases h:t∈(Tl.take kf).flatten
    ·exact mv.kx t q h hq
    ·rw[hnone t ht h]at hq;cases hq⟩
   refine hK v w' trivial mv.wz (fun _ h=>by cases h) ⟨γ',w2,kf+1,mv.sz.trans hsz,⟨hb2.os.trans hbz.os,hb2.tape.trans hbz.tape,hb2.output.trans hbz.output,Nat.le_trans hbz.size hb2.size,fun q hq hn=>(hb2.block q om hn).trans (hbz.block q hq hn)⟩,hW'.sub sub1,fun t d1 ht hn=>?_,fun j b1 hj=>(hBx j b1 hj).JX mv' (List.all_eq_true.1 tB _ (Yg hj)),fun j d1 hj hd1 hlj=>?_,fun j b1 hj hb1 hlj=>?_,om,hΘ',fun j k2 hjk=>?_⟩
   ·rw[hk,gG (by rw[←hki];exact hn i hi)];exact s2.JX mv' (hE t d1 ht hn) (List.all_eq_true.1 tE _ (Yg ht))
   ·by_cases hji:j=i
    ·subst hji;rw[hk,hki,put_eq (Nat.lt_of_lt_of_eq hkN hz.symm)];rw[hd]at hd1;cases hd1;exact hv'
    ·rw[hk,gG (by rw[←hki];exact dne i j hi hj (Ne.symm hji))];rw[f_,if_neg (fun h=>hji h.1.symm)]at hlj;exact s2.JX mv' (hv j d1 hj hd1 hlj) (List.all_eq_true.1 tD _ (List.mem_of_getElem? hd1))
   ·by_cases hji:j=i
    ·subst hji;rw[hb]at hb1;cases hb1
    ·rw[f_,if_neg (fun h=>hji h.1.symm)]at hlj;exact(hnb j b1 hj hb1 hlj).JX mv' (List.all_eq_true.1 tN _ (List.mem_of_getElem? hb1))
   ·rw[f_];by_cases hji:i=j
    ·subst hji;rw[hf]at hjk;cases hjk;rw[if_pos ⟨rfl,hil⟩];exact⟨fun _=>om,fun _=>rfl⟩
    ·rw[if_neg (fun h=>hji h.1)];have hne:k2≠kf:=fun e=>by
      have h12:=List.all_eq_true.1 huq j (List.mem_range.2 (gF hjk).2);rw[(gF hjk).1,e]at h12;simp[Ne.symm hji]at h12
     rw[hfc j k2 hjk];omega
 ·rintro a1 w1 listed hall ⟨γ1,wb,m,hsz,hbz,hW,hE,hBx,hv,hnb,hmM,hΘ,hfc⟩ hz hdf hL _ _ _;have hM:m=Tl.length:=by
   refine Nat.le_antisymm hmM (Nat.le_of_not_lt fun h=>?_);have h8:=List.all_eq_true.1 hF2 m (List.mem_range.2 h);obtain⟨j,hj,h9⟩:=List.any_eq_true.1 h8;have:=(hfc j m (gF1 (eq_of_beq h9)).2).1 (hall j (List.mem_range.1 hj));omega
  subst hM;refine fin wb γ1 a1 w1 hsz hbz ⟨hW.sub fun i hi=>⟨om,fun h=>om⟩,hz,hdf.trans S.df,fun t d ht=>?_,fun i b hi=>?_⟩
  ·rcases aG ht with ⟨rfl,rfl⟩|⟨_,ht⟩
   ·exact hΘ
   rcases sQ ht with ht|⟨hn,ht⟩
   ·obtain⟨j,h1,h2⟩:=JB ht;rw[Nat.zero_add]at h2;have hj:j<Ds.length:=(List.getElem?_eq_some_iff.1 h1).1;rw[←h2];exact hv j d hj h1 (hall j hj)
   ·refine hE t d ht fun j hj e=>?_
    obtain⟨d',hd'⟩:=JC (l:=l) (m:=0) hj;rw[Nat.zero_add]at hd';exact hn _ hd' e
  ·rcases sQ hi with hi|⟨_,hi⟩
   ·obtain⟨j,h1,h2⟩:=Bc hi;have hj:j<Nb.length:=(List.getElem?_eq_some_iff.1 h1).1;rw[Nat.zero_add]at h2;have hlen:Nb.length≤Ds.length:=by
     have:∀{m:Nat} {l:List Oper} {rs:List Rl} {ds:List Δ} {bs:UJ} {fs:Fcs},Bz P w0 N c E Bx Ds Z0 Tl Θ m l rs ds bs fs→bs.length=ds.length:=fun {m l rs ds bs fs}=>by
      induction ds generalizing m l rs bs fs with
      |nil=>cases l<;>cases rs<;>cases bs<;>cases fs<;>simp[Bz]
      |cons d ds ih=>cases l<;>cases rs<;>cases bs<;>cases fs<;>simp[Bz];intro _ h;exact ih h
     rw[this ops];exact Nat.le_refl _
    rw[←h2];exact hnb j b om h1 (hall j om)
   ·exact hBx i b hi
end
end
def RL(lo hi:Nat)(w:World)(L:List Value):Prop:=UI L∧∀v,v∈L→∃A:List Nat,A.length≤1000000000∧w.ownsRow lo 31 1 v A.length (Wv A)∧∀q,v.ownBlock=some q→q<hi
theorem RL.bel{lo hi:Nat}{w w':World}{L:List Value}{Z:Nat→Prop}(h:RL lo hi w L)(hb:aI w Z w')(hZ:∀q,Z q→q<lo∨hi≤q):RL lo hi w' L:=
 ⟨h.1,fun v hv=>by
   obtain⟨A,h1,h2,h3⟩:=h.2 v hv;refine⟨A,h1,aP h2 fun q hq=>hb.block q (h2.lt q hq).2 fun h=>?_,h3⟩;have h4:=h3 q hq;have h5:=(h2.lt q hq).1;rcases hZ q h with h|h<;>omega⟩
theorem RL.below{lo hi:Nat}{w w':World}{L:List Value}(h:RL lo hi w L)(hb:Below w.heap.size w w'):RL lo hi w' L:=
 ⟨h.1,fun v hv=>by
   obtain⟨A,h1,h2,h3⟩:=h.2 v hv;exact⟨A,h1,aP h2 fun q hq=>hb.block q (h2.lt q hq).2,h3⟩⟩
theorem RL.app{lo mi hi:Nat}{w:World}{L M:List Value}(h:RL lo mi w L)(h2:RL mi hi w M)(hl:lo≤mi)(hm:mi≤hi):RL lo hi w (L++M):=by
 have key:∀v u q,v∈L→u∈M→v.ownBlock=some q→u.ownBlock≠some q:=fun v u q hv hu h3 h4=>by
  obtain⟨_,_,_,h5⟩:=h.2 v hv;obtain⟨_,_,h6,_⟩:=h2.2 u hu;have:=h5 q h3;have:=(h6.lt q h4).1;omega
 refine⟨fun i j vi vj q hij hi' hj' hq hq'=>?_,fun v hv=>?_⟩
 ·by_cases hi2:i<L.length
  ·rw[List.getElem?_append_left hi2]at hi';by_cases hj2:j<L.length
   ·rw[List.getElem?_append_left hj2]at hj';exact h.1 i j vi vj q hij hi' hj' hq hq'
   ·rw[List.getElem?_append_right om]at hj';exact key vi vj q (List.mem_of_getElem? hi') (List.mem_of_getElem? hj') hq hq'
  ·rw[List.getElem?_append_right om]at hi';by_cases hj2:j<L.length
   ·rw[List.getElem?_append_left hj2]at hj';exact key vj vi q (List.mem_of_getElem? hj') (List.mem_of_getElem? hi') hq' hq
   ·rw[List.getElem?_append_right om]at hj';exact h2.1 _ _ vi vj q om hi' hj' hq hq'
 ·rcases List.mem_append.1 hv with hv|hv
  ·obtain⟨A,h3,h4,h5⟩:=h.2 v hv;exact⟨A,h3,h4,fun q hq=>by have:=h5 q hq;omega⟩
  ·obtain⟨A,h3,h4,h5⟩:=h2.2 v hv;exact⟨A,h3,dX h4 hl,h5⟩
def gL(l:List Nat):Gh:=⟨fun i=>l[i]?,fun _=>none⟩
theorem gL_wi{w0 w:World}{l:List Nat}(hj:Jw w0)(hb:Below w0.heap.size w0 w)(hn:l.Nodup)(hl:∀q,q∈l→w0.heap.size≤q∧q<w.heap.size):Wi w0 (gL l) w (fun i=>l.length≤i):=
 ⟨hj,hb,fun i b h=>hl b (List.mem_of_getElem? h),fun i j b h1 h2=>by
   obtain⟨h3,h4⟩:=List.getElem?_eq_some_iff.1 (show l[i]? =some b from h1);obtain⟨h5,h6⟩:=List.getElem?_eq_some_iff.1 (show l[j]? =some b from h2);exact(List.getElem_inj hn).1 (h4.trans h6.symm),fun _ _ h=>(by cases h),fun _ _ _ h=>(by cases h),fun i hi=>⟨List.getElem?_eq_none hi,fun _ _=>rfl⟩⟩
theorem iU{w:World}{p q:Nat}{xs ys:Array Value}{s t:TypeId}{f g:Nat×Nat}(h:w.heap[p]? =some (.cells xs s f))(h2:w.heap[q]? =some (.cells ys t g))(hst:s≠t):p≠q:=fun e=>by
 subst e;rw[h]at h2;cases h2;exact hst rfl
theorem Oo{w:World}{B e sz n q:Nat}{v:Value}{xs:List Value}(h:w.ownsRow B e sz v n xs)(hq:v.ownBlock=some q):∃cur:Array Value,w.heap[q]? =some (.cells cur e (0,0)):=by
 rcases h.2 with ⟨rfl,_⟩|⟨g,cap,cur,rfl,_,h1,_⟩
 ·cases hq
 ·cases hq;exact⟨cur,h1⟩
theorem Oq{w0 w:World}{b ni nr i6 i5 c1 c2 hi:Nat}{g1 g2:List Value}{vl vf vu:Value}{Lv Fv Uv:List Value}{x0 x1 x2 x3 x4 x5 x6 x7 x8 x9 x10 x11 y0 y1 y2 y3 y4 y5 y6 y7 y8 y9 UN UO UQ y13 UR:Value}
 (hb:Bn w b (.slice (some ⟨ni,0,none⟩) 1 c1,.slice (some ⟨nr,0,none⟩) 1 c2,iy,iy) vl vf vu Lv Fv Uv) (hpos:0<Lv.length) (hm:Lv.length≤1000) (hr:RL w0.heap.size hi w Lv) (hj:Jw w0) (hB:Below w0.heap.size w0 w) (hb0:w0.heap.size≤b)
 (h1:w.heap[ni]? =some (.cells (.slice (some ⟨i6,0,none⟩) 6 6::g1).toArray 62 (0,0))) (h2:w.heap[nr]? =some (.cells (.slice (some ⟨i5,0,none⟩) 5 5::g2).toArray 64 (0,0)))
 (h3:w.heap[i6]? =some (.cells #[x0,x1,x2,x3,x4,x5,x6,x7,x8,x9,x10,x11] 25 (0,0))) (h4:w.heap[i5]? =some (.cells #[y0,y1,y2,y3,y4,y5,y6,y7,y8,y9,UN,UO,UQ,y13,UR] 29 (0,0)))
 (l1:w0.heap.size≤ni) (l2:w0.heap.size≤nr) (l3:w0.heap.size≤i6) (l4:w0.heap.size≤i5):
 Calls Tryz.prog 27 #[.pointer (some ⟨b,0,none⟩)] w (fun e w'=>e= .returned (.bool true)∧Below w0.heap.size w0 w'):=by
 have hap:∀w1,Below w.heap.size w w1→_:=fun w1 h1=>NK (hb.below h1) hpos hm hr.1 fun j v hjv=>by
  obtain⟨A,a1,a2,_⟩:=(hr.below h1).2 v (List.mem_of_getElem? hjv);exact⟨_,_,a1,dX a2 (Nat.zero_le _)⟩
 obtain⟨bcap,hbox⟩:=hb.box
 obtain⟨cur,hbc,hbt⟩:∃cur:Array Value,w.heap[b]? =some (.cells cur 41 (0,0))∧cur.toList.take (1*7)=[vl,vf,vu,.slice (some ⟨ni,0,none⟩) 1 c1,.slice (some ⟨nr,0,none⟩) 1 c2,iy,iy]:=by
  rcases hbox.2 with ⟨h,_⟩|⟨g,cap,cur,e,_,h1,_,_,_,h2⟩
  ·cases h
  ·cases e;exact⟨cur,h1,h2⟩
 have wX:cur=(vl::vf::vu:: .slice (some ⟨ni,0,none⟩) 1 c1:: .slice (some ⟨nr,0,none⟩) 1 c2::iy::iy::cur.toList.drop 7).toArray:=by
  apply Array.ext';rw[←List.take_append_drop 7 cur.toList,show cur.toList.take 7=_ from hbt];simp
 rw[wX]at hbc
 generalize cur.toList.drop 7=gz at hbc
 clear wX hbt hbox
 have nz:∀{q:Nat} {xs:Array Value} {t:TypeId},w.heap[q]? =some (.cells xs t (0,0))→t≠31→¬∃(j:Nat) (v:Value),Lv[j]? =some v∧v.ownBlock=some q:=fun hq ht ⟨j,v,hv,he⟩=>by
  obtain⟨A,_,a2,_⟩:=hr.2 v (List.mem_of_getElem? hv);obtain⟨c,hc⟩:=Oo a2 he;exact iU hq hc ht rfl
 have zb:=nz hbc dc
 have z1:=nz h1 dc
 have z2:=nz h2 dc
 have z3:=nz h3 dc
 have z4:=nz h4 dc
 have hnd:[b,ni,nr,i6,i5].Nodup:=by
  have e1:=iU hbc h1 dc;have e2:=iU hbc h2 dc;have e3:=iU hbc h3 dc;have e4:=iU hbc h4 dc;have e5:=iU h1 h2 dc;have e6:=iU h1 h3 dc;have e7:=iU h1 h4 dc;have e8:=iU h2 h3 dc;have e9:=iU h2 h4 dc;have e10:=iU h3 h4 dc;simp only[List.nodup_cons,List.mem_cons,List.not_mem_nil,or_false,not_or,List.nodup_nil,not_false_eq_true,and_true];exact⟨⟨e1,e2,e3,e4⟩,⟨e5,e6,e7⟩,⟨e8,e9⟩,e10⟩
 have hZ0:∀q,(∃(j:Nat) (v:Value),Lv[j]? =some v∧v.ownBlock=some q)→w0.heap.size≤q:=fun q ⟨j,v,hv,he⟩=>by
  obtain⟨A,_,a2,_⟩:=hr.2 v (List.mem_of_getElem? hv);exact(a2.lt q he).1
 have hjw:=hj.up hB
 refine dm (vs:=[.pointer (some ⟨b,0,none⟩)]) Tryz.func27 (c:=qf Tryz.f27) rfl (by show 1≤_;decide) fun a0 z0 e0 d0=>?_
 have S:PS w 278 0 [(0,.k (.pointer (some ⟨b,0,none⟩)))] [] g0 a0 w:=sU hjw z0 d0 ⟨e0 0 (by show 0<1;decide),trivial⟩
 refine ve ?_
 clear S
 intro _ _ _ S
 refine nN [(0,.k (.pointer (some ⟨b,0,none⟩)))] S (hap _ S.W.bel) (by simp only[List.map_cons,List.map_nil,ak];rw[show _=Value.pointer (some ⟨b,0,none⟩)from S.env 21 _ rfl]) ⟨rfl,rfl,trivial⟩ fun w2 hbe mk=>?_
 have iY:=S.W.bel
 have hj2:Jw w2:=(hjw.up iY).eq (hbe.block _ (hjw.up iY).1.1 fun h=>by have:=hZ0 _ h;have:=hj.1.1;omega) (hbe.block _ (hjw.up iY).2.1 fun h=>by have:=hZ0 _ h;have:=hj.2.1;omega)
 have S':=mk hj2
 clear mk
 clear S
 have S:=S'
 clear S'
 refine ve ?_
 clear S
 intro _ _ _ S
 refine aK S rfl rfl (wp_skip ?_)
 have bel3:=S.W.bel
 have s1:=iY.size
 have s2:=hbe.size
 have s3:=bel3.size
 have s0:=hB.size
 have kp:∀{q:Nat} {xs:Array Value} {t:TypeId},w.heap[q]? =some (.cells xs t (0,0))→(¬∃(j:Nat) (v:Value),Lv[j]? =some v∧v.ownBlock=some q)→_:=fun hq hz=>by
  have hl:=(Array.getElem?_eq_some_iff.1 hq).1;exact(bel3.block _ om).trans ((hbe.block _ om hz).trans ((iY.block _ hl).trans hq))
 have kb:=kp hbc zb
 have k1:=kp h1 z1
 have k2:=kp h2 z2
 have k3:=kp h3 z3
 have k4:=kp h4 z4
 have lt:∀{q:Nat} {o:Obj} {w:World},w.heap[q]? =some o→q<w.heap.size:=fun h=>(Array.getElem?_eq_some_iff.1 h).1
 have hB3:Below w0.heap.size w0 _:=⟨bel3.os.trans (hbe.os.trans (iY.os.trans hB.os)),bel3.tape.trans (hbe.tape.trans (iY.tape.trans hB.tape)),bel3.output.trans (hbe.output.trans (iY.output.trans hB.output)),om,fun q hq=>(bel3.block q om).trans ((hbe.block q om fun h=>by have:=hZ0 q h;omega).trans ((iY.block q om).trans (hB.block q hq)))⟩
 have hW:=gL_wi hj hB3 hnd fun q hq=>by
  simp only[List.mem_cons,List.not_mem_nil,or_false]at hq;rcases hq with rfl|rfl|rfl|rfl|rfl
  ·exact⟨hb0,lt kb⟩
  ·exact⟨l1,lt k1⟩
  ·exact⟨l2,lt k2⟩
  ·exact⟨l3,lt k3⟩
  ·exact⟨l4,lt k4⟩
 refine Ol (w0:=w0) (γ:=gL [b,ni,nr,i6,i5]) (c1:=c1) (c2:=c2) (vl:=vl) (vf:=vf) (vu:=vu) (z0:=iy) (z1:=iy) (g0:=gz) (g1:=g1) (g2:=g2) (x0:=x0) (x1:=x1) (x2:=x2) (x3:=x3) (x4:=x4) (x5:=x5) (x6:=x6) (x7:=x7) (x8:=x8) (x9:=x9) (x10:=x10) (x11:=x11) (y0:=y0) (y1:=y1) (y2:=y2) (y3:=y3) (y4:=y4) (y5:=y5) (y6:=y6) (y7:=y7) (y8:=y8) (y9:=y9) (UN:=UN) (UO:=UO) (UQ:=UQ) (y13:=y13) (UR:=UR) ⟨hW,S.sz,S.df,fun t d h=>?_,fun i bb h=>?_⟩ fun γ a w3 S3=>?_
 ·rcases aG h with ⟨rfl,rfl⟩|⟨_,h⟩
  ·exact⟨b,rfl,S.env 0 _ rfl⟩
  ·cases h
 ·rcases aG h with ⟨rfl,rfl⟩|⟨_,h⟩
  ·exact⟨b,_,rfl,kb,rfl,rfl,rfl,⟨ni,rfl,rfl⟩,⟨nr,rfl,rfl⟩,rfl,rfl,l0.k gz⟩
  rcases aG h with ⟨rfl,rfl⟩|⟨_,h⟩
  ·exact⟨ni,_,rfl,k1,⟨i6,rfl,rfl⟩,l0.k g1⟩
  rcases aG h with ⟨rfl,rfl⟩|⟨_,h⟩
  ·exact⟨nr,_,rfl,k2,⟨i5,rfl,rfl⟩,l0.k g2⟩
  rcases aG h with ⟨rfl,rfl⟩|⟨_,h⟩
  ·exact⟨i6,_,rfl,k3,l0.k [x0,x1,x2,x3,x4,x5,x6,x7,x8,x9,x10,x11]⟩
  rcases aG h with ⟨rfl,rfl⟩|⟨_,h⟩
  ·exact⟨i5,_,rfl,k4,l0.k [y0,y1,y2,y3,y4,y5,y6,y7,y8,y9,UN,UO,UQ,y13,UR]⟩
  cases h
 ·exact⟨S3.df,_,results_tmp rfl _ _ _,congrArg Ending.returned (S3.env 2 _ rfl),S3.W.bel⟩
