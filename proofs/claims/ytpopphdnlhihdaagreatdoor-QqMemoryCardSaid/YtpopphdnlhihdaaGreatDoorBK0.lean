import Derived.Test.YtpopphdnlhihdaaGreatDoorGI
set_option linter.all false
set_option maxHeartbeats 10000000
namespace Go.Proofs.YtpopphdnlhihdaaGreatDoor
open Go Go.RowKit Go.Proofs Ab
def _root_.Go.Proofs.YtpopphdnlhihdaaGreatDoor.Ab.AC.p1:AC→AC
 | .seq a _=>a
 |c=>c
def _root_.Go.Proofs.YtpopphdnlhihdaaGreatDoor.Ab.AC.p2:AC→AC
 | .seq _ b=>b
 |c=>c
variable{P:Program}{N:Nat}{w0:World}{a:Act}{H:Nat→Prop}{ov:Nat→Option Value}{R:Exit→Act→World→Prop}{r:Nat→Nat}{H0:HS}{A1:AC}{K:St→Prop}
theorem VY{c1 c2:Code}{m:AC}{s:St}{w:World}
 (tN:P.follows .mixedOrders=true) (y:jm P N c1=some A1) (u:IZ H0 A1) (mY:Conc w0 H0 w H ov N a s)
 (j:yY (fC P J0) (mG P) (A1.seq m) (fun e c=>e= .normal∧K c) s)
 (k:∀g w' H' jZ c,yY (fC P J0) (mG P) m (fun e c=>e= .normal∧K c) c→Conc w0 H0 w' H' jZ N g c→c2.wp P R g w'):(c1.seq c2).wp P R a w:=by
 simp only[yY]at j
 refine wp_seq (wp_mono (nM (J:=J0) tN (fun w' _=>trivial) c1 A1 y u _ s a w H ov mY j) fun ex g w' hq=>?_)
 cases ex with
 |normal=>obtain⟨c,H',jZ,hq,f⟩:=hq;exact k g w' H' jZ c hq f
 |ret=>obtain⟨c,H',jZ,hq,f⟩:=hq;exact absurd hq.1 sy
 |exit i=>obtain⟨c,H',jZ,hq,f⟩:=hq;exact absurd hq.1 sy
 |goto l=>exact hq.elim
 |panic z=>exact hq.elim
 |outgrown=>exact hq.elim
theorem RD{c1 c2:Code}{s:St}{w:World}
 (tN:P.follows .mixedOrders=true) (u:jm P N c1=some A1) (m:IZ H0 A1) (mY:Conc w0 H0 w H ov N a s)
 (j:yY (fC P J0) (mG P) A1 (fun e c=>e= .normal∧K c) s)
 (k:∀g w' H' jZ c,K c→Conc w0 H0 w' H' jZ N g c→c2.wp P R g w'):(c1.seq c2).wp P R a w:=by
 refine wp_seq (wp_mono (nM (J:=J0) tN (fun w' _=>trivial) c1 A1 u m _ s a w H ov mY j) fun ex g w' hq=>?_)
 cases ex with
 |normal=>obtain⟨c,H',jZ,hq,f⟩:=hq;exact k g w' H' jZ c hq.2 f
 |ret=>obtain⟨c,H',jZ,hq,f⟩:=hq;exact absurd hq.1 sy
 |exit i=>obtain⟨c,H',jZ,hq,f⟩:=hq;exact absurd hq.1 sy
 |goto l=>exact hq.elim
 |panic y=>exact hq.elim
 |outgrown=>exact hq.elim
def _root_.Go.Proofs.YtpopphdnlhihdaaGreatDoor.Ab.St.fz(s:St)(t sz:Nat):St:=⟨(t,rd s.ob sz (s.get t))::s.env,jA s.ob (s.get t)++s.yx,s.nx⟩
theorem VZ{f:FuncId}{fn:Func}{c:Code}(C:P.funcs[f]? =some fn)(hb:fn.body=some c){vs:List Value}(G:vs.length≤fn.ntmps)
 {w:World} {E:Nat→Prop} {ks:List (Nat×Value)} {ov0:Nat→Option Value} {s0:St} (hm:Mem w ⟨H,E,ks⟩ w H ov0 s0.ob) (g:∀m v,(m,v)∈ks→m<vs.length∧vs.getD m undef=v) (henv:∀k,k<vs.length→Rep w H ov0 (vs.getD k undef) (s0.get k)) (hrest:∀k,vs.length≤k→s0.get k= .any) (hnew:∀id,s0.nx≤id→ov0 id=none)
 {R:Ending→World→Prop} (k:∀a,Conc w ⟨H,E,ks⟩ w H ov0 fn.ntmps a s0→c.wp P (fun ex u w'=>(ex= .normal∨ex= .ret)∧u.defers=[]∧∃r,(results fn u.tmps).run P w'= .ok r w'∧R (.returned r) w') a w):
 Calls P f vs.toArray w R:=by
 refine calls_of_wp C hb ?_
 have l:(vs.toArray++Array.replicate (fn.ntmps-vs.toArray.size) undef).size=fn.ntmps:=by simp;omega
 have hget:∀k,k<vs.length→((vs.toArray++Array.replicate (fn.ntmps-vs.toArray.size) undef).getD k undef)=vs.getD k undef:=fun k j=>by
  simp only[lH,List.getD];rw[Array.getElem?_append_left (by simpa using j)];simp
 have mY:Conc w ⟨H,E,ks⟩ w H ov0 fn.ntmps {tmps:=vs.toArray++Array.replicate (fn.ntmps-vs.toArray.size) undef,defers:=[]} s0:=by
  refine⟨hm,l,rfl,fun m v h=>(hget m (g m v h).1).trans (g m v h).2,fun k=>?_,hnew⟩;by_cases j:k<vs.length
  ·have h:=henv k j;have e:=hget k j;show Rep w H ov0 ((vs.toArray++Array.replicate (fn.ntmps-vs.toArray.size) undef).getD k undef) _;rw[e];exact h
  ·rw[hrest k om];exact .any _
 refine wp_mono (k _ mY) fun ex u w' ⟨F,A,r,z,y⟩=>?_
 rcases F with rfl|rfl
 ·exact⟨A,r,z,y⟩
 ·exact⟨A,r,z,y⟩
def cRen(r:Nat→Nat)(x1 x2:V):Prop:=(x1=x2∧x2.cell=true)∨(∃sz i n,x1= .ow sz (r i) n∧x2= .ow sz i n)∨(x1= .nl∧x2= .nl)
structure oRen(r:Nat→Nat)(o1 o2:Ob):Prop where
 e:o2.e=o1.e
 sz:o2.sz=o1.sz
 mu:o2.mu=o1.mu
 pg:o2.pg=o1.pg
 len:o2.cs.length=o1.cs.length
 cs:∀(j:Nat) (x1 x2:V),o1.cs[j]? =some x1→o2.cs[j]? =some x2→cRen r x1 x2
theorem oRen.refl{o:Ob}(h:∀x,x∈o.cs→x.cell=true):oRen r o o:=⟨rfl,rfl,rfl,rfl,rfl,fun j x1 x2 c a=>by
 rw[c]at a;cases a;exact .inl ⟨rfl,h _ (dP c)⟩⟩
theorem oRen.CU{a o2:Ob}(h:oRen r a o2):Ab.CU o2=Ab.CU a:=by unfold Ab.CU;rw[h.e,h.pg]
