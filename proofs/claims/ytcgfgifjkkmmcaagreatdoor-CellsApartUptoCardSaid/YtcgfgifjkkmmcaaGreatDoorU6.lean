import Derived.Test.YtcgfgifjkkmmcaaGreatDoorGI
set_option linter.all false
set_option maxHeartbeats 10000000
namespace Go.Proofs.YtcgfgifjkkmmcaaGreatDoor
open Go Go.RowKit Go.Proofs Ab
def _root_.Go.Proofs.YtcgfgifjkkmmcaaGreatDoor.Ab.AC.p1:AC→AC
 | .seq a _=>a
 |c=>c
def _root_.Go.Proofs.YtcgfgifjkkmmcaaGreatDoor.Ab.AC.p2:AC→AC
 | .seq _ b=>b
 |c=>c
theorem Ri{P:Program}{N:Nat}{w0:World}{H0:HS}{c1 c2:Code}{A1 A2:AC}{K:St→Prop}{s:St}{a:Act}{w:World}{H:Nat→Prop}{ov:Nat→Option Value}{R:Exit→Act→World→Prop}
 (jP:P.follows .mixedOrders=true) (hc:dW P N c1=some A1) (hn:BD H0 A1) (iE:Conc w0 H0 w H ov N a s)
 (hv:r_ (ah P J0) (iJ P) (A1.seq A2) (fun e s'=>e= .normal∧K s') s)
 (k:∀a' w' H' bJ s',r_ (ah P J0) (iJ P) A2 (fun e s'=>e= .normal∧K s') s'→Conc w0 H0 w' H' bJ N a' s'→c2.wp P R a' w'):(c1.seq c2).wp P R a w:=by
 simp only[r_]at hv
 refine wp_seq (wp_mono (iw (J:=J0) jP (fun w' _=>trivial) c1 A1 hc hn _ s a w H ov iE hv) fun ex a' w' hq=>?_)
 cases ex with
 |normal=>obtain⟨s',H',bJ,hq,hc'⟩:=hq;exact k a' w' H' bJ s' hq hc'
 |ret=>obtain⟨s',H',bJ,hq,hc'⟩:=hq;exact absurd hq.1 sy
 |exit i=>obtain⟨s',H',bJ,hq,hc'⟩:=hq;exact absurd hq.1 sy
 |goto l=>exact hq.elim
 |panic ch=>exact hq.elim
 |outgrown=>exact hq.elim
theorem WH{P:Program}{N:Nat}{w0:World}{H0:HS}{c1 c2:Code}{A1:AC}{K:St→Prop}{s:St}{a:Act}{w:World}{H:Nat→Prop}{ov:Nat→Option Value}{R:Exit→Act→World→Prop}
 (jP:P.follows .mixedOrders=true) (hc:dW P N c1=some A1) (hn:BD H0 A1) (iE:Conc w0 H0 w H ov N a s)
 (hv:r_ (ah P J0) (iJ P) A1 (fun e s'=>e= .normal∧K s') s)
 (k:∀a' w' H' bJ s',K s'→Conc w0 H0 w' H' bJ N a' s'→c2.wp P R a' w'):(c1.seq c2).wp P R a w:=by
 refine wp_seq (wp_mono (iw (J:=J0) jP (fun w' _=>trivial) c1 A1 hc hn _ s a w H ov iE hv) fun ex a' w' hq=>?_)
 cases ex with
 |normal=>obtain⟨s',H',bJ,hq,hc'⟩:=hq;exact k a' w' H' bJ s' hq.2 hc'
 |ret=>obtain⟨s',H',bJ,hq,hc'⟩:=hq;exact absurd hq.1 sy
 |exit i=>obtain⟨s',H',bJ,hq,hc'⟩:=hq;exact absurd hq.1 sy
 |goto l=>exact hq.elim
 |panic ch=>exact hq.elim
 |outgrown=>exact hq.elim
def _root_.Go.Proofs.YtcgfgifjkkmmcaaGreatDoor.Ab.St.fz(s:St)(t sz:Nat):St:=⟨(t,rd s.ob sz (s.get t))::s.env,eF s.ob (s.get t)++s.lZ,s.nx⟩
theorem Rh{P:Program}{f:FuncId}{fn:Func}{c:Code}(hf:P.funcs[f]? =some fn)(hb:fn.body=some c){vs:List Value}(hn:vs.length≤fn.ntmps)
 {w:World} {H E:Nat→Prop} {ks:List (Nat×Value)} {UG:Nat→Option Value} {s0:St} (hm:Mem w ⟨H,E,ks⟩ w H UG s0.ob) (hks:∀m v,(m,v)∈ks→m<vs.length∧vs.getD m undef=v) (henv:∀k,k<vs.length→Rep w H UG (vs.getD k undef) (s0.get k)) (hrest:∀k,vs.length≤k→s0.get k= .any) (hnew:∀id,s0.nx≤id→UG id=none)
 {R:Ending→World→Prop} (k:∀a,Conc w ⟨H,E,ks⟩ w H UG fn.ntmps a s0→c.wp P (fun ex a' w'=>(ex= .normal∨ex= .ret)∧a'.defers=[]∧∃r,(results fn a'.tmps).run P w'= .ok r w'∧R (.returned r) w') a w):
 Calls P f vs.toArray w R:=by
 refine calls_of_wp hf hb ?_
 have hsz:(vs.toArray++Array.replicate (fn.ntmps-vs.toArray.size) undef).size=fn.ntmps:=by simp;omega
 have hget:∀k,k<vs.length→((vs.toArray++Array.replicate (fn.ntmps-vs.toArray.size) undef).getD k undef)=vs.getD k undef:=fun k hk=>by
  simp only[Array.getD_eq_getD_getElem?,List.getD];rw[Array.getElem?_append_left (by simpa using hk)];simp
 have iE:Conc w ⟨H,E,ks⟩ w H UG fn.ntmps {tmps:=vs.toArray++Array.replicate (fn.ntmps-vs.toArray.size) undef,defers:=[]} s0:=by
  refine⟨hm,hsz,rfl,fun m v h=>(hget m (hks m v h).1).trans (hks m v h).2,fun k=>?_,hnew⟩;by_cases hk:k<vs.length
  ·have h:=henv k hk;have e:=hget k hk;show Rep w H UG ((vs.toArray++Array.replicate (fn.ntmps-vs.toArray.size) undef).getD k undef) _;rw[e];exact h
  ·rw[hrest k om];exact .any _
 refine wp_mono (k _ iE) fun ex a' w' ⟨h1,h2,r,h3,h4⟩=>?_
 rcases h1 with rfl|rfl
 ·exact⟨h2,r,h3,h4⟩
 ·exact⟨h2,r,h3,h4⟩
def cRen(r:Nat→Nat)(x1 x2:V):Prop:=(x1=x2∧x2.cell=true)∨(∃sz i n,x1= .ow sz (r i) n∧x2= .ow sz i n)∨(x1= .nl∧x2= .nl)
structure Yl(r:Nat→Nat)(o1 o2:Ob):Prop where
 e:o2.e=o1.e
 sz:o2.sz=o1.sz
 mu:o2.mu=o1.mu
 jl:o2.jl=o1.jl
 len:o2.cs.length=o1.cs.length
 cs:∀(j:Nat) (x1 x2:V),o1.cs[j]? =some x1→o2.cs[j]? =some x2→cRen r x1 x2
theorem Yl.refl{r:Nat→Nat}{o:Ob}(h:∀x,x∈o.cs→x.cell=true):Yl r o o:=⟨rfl,rfl,rfl,rfl,rfl,fun j x1 x2 h1 h2=>by
 rw[h1]at h2;cases h2;exact .inl ⟨rfl,h _ (List.mem_of_getElem? h1)⟩⟩
theorem Yl.vH{r:Nat→Nat}{o1 o2:Ob}(h:Yl r o1 o2):Ab.vH o2=Ab.vH o1:=by unfold Ab.vH;rw[h.e,h.jl]
theorem mid_go{P:Program}{N:Nat}{w0:World}{H0:HS}{c:Code}{A:AC}{K:St→Prop}{s:St}{a:Act}{w:World}{H:Nat→Prop}{ov:Nat→Option Value}{R:Exit→Act→World→Prop}
 (jP:P.follows .mixedOrders=true) (hc:dW P N c=some A) (hn:BD H0 A) (iE:Conc w0 H0 w H ov N a s)
 (hv:r_ (ah P J0) (iJ P) A (fun e s'=>e= .normal∧K s') s)
 (k:∀a' w' H' bJ s',K s'→Conc w0 H0 w' H' bJ N a' s'→R .normal a' w'):c.wp P R a w:=by
 refine wp_mono (iw (J:=J0) jP (fun w' _=>trivial) c A hc hn _ s a w H ov iE hv) fun ex a' w' hq=>?_
 cases ex with
 |normal=>obtain⟨s',H',bJ,hq,hc'⟩:=hq;exact k a' w' H' bJ s' hq.2 hc'
 |ret=>obtain⟨s',H',bJ,hq,hc'⟩:=hq;exact absurd hq.1 sy
 |exit i=>obtain⟨s',H',bJ,hq,hc'⟩:=hq;exact absurd hq.1 sy
 |goto l=>exact hq.elim
 |panic ch=>exact hq.elim
 |outgrown=>exact hq.elim
