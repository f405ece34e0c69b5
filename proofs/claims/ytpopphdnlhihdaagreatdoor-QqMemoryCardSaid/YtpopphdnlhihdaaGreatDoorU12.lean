import Derived.Great.BuildSlice
import Derived.Deep.MidRow
import Derived.Test.YtpopphdnlhihdaaGreatDoorU11
set_option linter.all false
set_option maxHeartbeats 10000000
set_option maxRecDepth 2000000
namespace Go.Proofs.YtpopphdnlhihdaaGreatDoor
open Go Go.RowKit Go.Proofs Ab
section
variable {w0 w w':World} {γ:Gh} {N c:Nat} {E:En} {Bx:Bs} {a:Act} {P:Program}
def nbx(c:Nat)(Bx:Bs):Option (TypeId×List Δ)→Bs
 |some b=>(c,b)::Bx
 |none=>Bx
variable{γ':Gh}{k:Nat}{ops:Array Oper}{rest:List Oper}{Q:Exit→Act→World→Prop}{ts:List Nat}
theorem bx.st(f:Wi w0 γ w (fun i=>c≤i))(g:St γ w γ' w')(hb:Below w.heap.size w w')(h:∀i b,lk Bx i=some b→bx w0 γ w i b){nb:Option (TypeId×List Δ)}(j:∀b,nb=some b→bx w0 γ' w' c b):∀i b,lk (nbx c Bx nb) i=some b→bx w0 γ' w' i b:=fun i b a=>by
 cases nb with
 |none=>exact(h i b a).up f g fun q hq=>hb.block q (f.bn i q hq).2
 |some l=>
  rcases dK a with ⟨rfl,rfl⟩|⟨_,a⟩
  ·exact j _ rfl
  ·exact(h i b a).up f g fun q hq=>hb.block q (f.bn i q hq).2
theorem put_eq{a:Act}{v:Value}(h:k<a.tmps.size):(a.put (some k) v).tmps.getD k undef=v:=iQ h
theorem tJ{a:Act}{t:Nat}{v:Value}(h:k≠t):(a.put (some k) v).tmps.getD t undef=a.tmps.getD t undef:=dM h
theorem aj{o:Oper}{d:Δ}{nb:Option (TypeId×List Δ)}(S:PS w0 N c E Bx γ a w)(h:Ok P w0 N o c (lk E) Bx d nb)
 (next:∀γ' l w',PS w0 N (c+1) ((k,d)::E) (nbx c Bx nb) γ' l w'→wpList P ops Q rest l w') (y:o.guard=none:=by rfl) (hd:o.dst=some k:=by rfl) (u:Nat.blt k N=true:=by rfl):wpList P ops Q (o::rest) a w:=by
 have g:k<a.tmps.size:=by rw[S.sz];exact Nat.blt_eq▸u
 refine BigFrame.wpList_want (by unfold Region.wanted;rw[y]) fun K hK=>?_
 refine h.ok Q γ a w _ K S.sz S.W (aY c) S.env S.box fun γ' v w' j hb z hv m=>hK _ _ (next γ' _ w' ?_)
 rw[hd]
 refine⟨z.sub fun i C=>⟨om,om⟩,by show(a.tmps.setIfInBounds k v).size=N;simp[S.sz],S.df,fun t A ht=>?_,bx.st S.W j hb S.box m⟩
 rcases dK ht with ⟨rfl,rfl⟩|⟨f,ht⟩
 ·rw[put_eq g];exact hv
 ·rw[tJ f];exact s2.up S.W j (S.env t A ht)
def Δ.c1:Δ→Bool
 | .k v=>v.oneCell'
 | .ow _ _| .rd _| .rz _ _| .p _ _| .sl _ _ _=>true
 | .f Φ=>Φ.one
 |_=>false
theorem s0.one{d:Δ}{x:Value}(h:s0 w0 γ w d x)(j:d.c1=true):x.oneCell'=true:=by
 cases d with
 |k v=>have e:x=v:=h;subst e;exact j
 |ow A t=>obtain⟨a,n,c,rfl⟩:=h.L_ rfl;rfl
 |rd A=>obtain⟨a,n,c,rfl⟩:=h.L_ rfl;rfl
 |rz Z A=>obtain⟨a,n,c,rfl⟩:=h.L_ rfl;rfl
 |p i o=>obtain⟨b,_,rfl⟩:=h;rfl
 |sl i n c=>obtain⟨b,_,rfl⟩:=h;rfl
 |f Φ=>exact Φ.h1 j h
 |g _=>exact h.elim
 |t _=>exact h.elim
theorem l0.one:∀{ds:List Δ} {xs:List Value},l0 w0 γ w ds xs→ds.all Δ.c1=true→xs.all (·.oneCell')=true
 |[],[],_,_=>rfl
 |d::ds,x::xs,h,a=>by
  simp only[iI,dA]at a ⊢;exact⟨h.1.one a.1,l0.one h.2 a.2⟩
 |[],_::_,h,_=>h.elim
 |_::_,[],h,_=>h.elim
variable{ds:List Δ}
theorem Tz{dst:Option Tmp}{ty t:TypeId}{x y:Operand}{p:String}{e:Array Edge}{j:Nat}{bt:TypeId}{es:List Δ}(S:PS w0 N c E Bx γ a w)(hx:lX (lk E) x (.p j 0))(hb:lk Bx j=some (bt,ds))(L:lX (lk E) y (.g es))(U:(P.info? ty).map (·.size)=some es.length)(hl:ds.length=es.length)(h1:es.all Δ.c1=true)(hd:dst=none)
 (next:∀I w',PS w0 N c E ((j,bt,es)::Bx) γ I w'→wpList P ops Q rest I w'):wpList P ops Q (⟨dst,.store ty x y,t,p,e,none⟩::rest) a w:=by
 obtain⟨q,hq,ex⟩:=hx.ev S.env
 obtain⟨J,xs,C,H,G⟩:=S.box j _ hb
 obtain rfl:q=J:=dS (hq.symm.trans C)
 obtain⟨z,Z,l⟩:=L.ev S.env
 have T:xs.length=ds.length:=G.len
 have F:=l.len
 refine wpList_store_row rfl ty x y rfl q z.toArray ex Z bt xs.toArray H (by rw[U];simp[F]) (by simp;omega) (by
  have:=l.one h1;simpa using this) (next _ _ ?_)
 have M:=S.W.bn j q hq
 have f:bT w (fun k=>k=q) (w.setRow q z.toArray):=⟨rfl,rfl,rfl,sy,fun k _ m=>setRow_other w q k _ m⟩
 have A:St γ w γ (w.setRow q z.toArray):=⟨f.size,fun k u O=>f.block k u fun e=>O j (e▸hq),fun _ _ h=>h,fun _ _ h=>h,fun _ _ h=> .inl h⟩
 have Y:=S.W.Tu (w':=w.setRow q z.toArray) ⟨rfl,rfl,rfl,f.size,fun k u=>f.block k (eu u S.W.bel.size) om⟩
 subst hd
 refine⟨Y,S.sz,S.df,fun t d h=>s2.up S.W A (S.env t d h),fun i b h=>?_⟩
 rcases dK h with ⟨rfl,rfl⟩|⟨m,h⟩
 ·exact⟨q,z,hq,setRow_heap w q xs.toArray _ _ _ H,l0.up S.W A l⟩
 ·exact(S.box i b h).up S.W A fun k u=>f.block k (S.W.bn i k u).2 fun e=>m (S.W.bi i j q (e▸u) hq).symm
theorem h_(h:Q .normal a w):wpList P ops Q [] a w:=h
theorem Y5{E:En}{a:Act}{w:World}:∀{ds:List Δ} {vs:List Value} {k:Nat},l1 w g0 w ds vs→(∀j,j<vs.length→a.tmps.getD (k+j) undef=vs.getD j undef)→(∀t d,lk E t=some d→s2 w g0 w d (a.tmps.getD t undef))→∀t d,lk ((ds.zipIdx k).map (fun p=>(p.2,p.1))++E) t=some d→s2 w g0 w d (a.tmps.getD t undef)
 |[],[],_,_,_,c,t,d,h=>c t d h
 |d::ds,x::xs,k,h,hv,c,t,g,ht=>by
  simp only[List.zipIdx_cons,dI,tZ]at ht;rcases dK ht with ⟨rfl,rfl⟩|⟨_,ht⟩
  ·have:=hv 0 sy;simp only[ik,List.getD_cons_zero]at this;rw[this];exact h.1.s2
  ·exact Y5 (k:=k+1) h.2 (fun j f=>by have:=hv (j+1) (by simpa using f);rw[show k+1+j=k+(j+1)from om];simpa using this) c t g ht
 |[],_::_,_,h,_,_,_,_,_=>h.elim
 |_::_,[],_,h,_,_,_,_,_=>h.elim
theorem l1.len:∀{ds:List Δ} {vs:List Value},l1 w0 γ w ds vs→vs.length=ds.length
 |[],[],_=>rfl
 |_::_,_::_,h=>by simp[l1.len h.2]
 |[],_::_,h=>h.elim
 |_::_,[],h=>h.elim
theorem Y6{w:World}(j:Jw w):Wi w g0 w (fun i=>0≤i):=⟨j,⟨rfl,rfl,rfl,aY _,fun _ _=>rfl⟩,fun _ _ h=>(by cases h),fun _ _ _ h=>(by cases h),fun _ _ h=>(by cases h),fun _ _ _ h=>(by cases h),fun _ _=>⟨rfl,fun _ _=>rfl⟩⟩
theorem dV{f:FuncId}{fn:Func}{code:Code}{d:Δ}(l:Tryz.prog.funcs[f]? =some fn)(hb:fn.body=some code)(g:Nat.ble ds.length fn.ntmps=true)(k:∀(w:World) (a:Act),PS w fn.ntmps 0 ((ds.zipIdx).map (fun p=>(p.2,p.1))) [] g0 a w→code.wp Tryz.prog (bodyPost Tryz.prog fn (Ans w d)) a w):Fn f ds d:=⟨fun w vs c h=>by
 have hl:=h.len;refine zY l hb (by rw[hl];exact qY g) fun a z e m=>?_
 refine k w a ⟨Y6 c,z,m,fun t d ht=>?_,fun i b h=>by cases h⟩;have:=Y5 (E:=[]) (k:=0) h (fun j c=>by rw[eY];exact e j c) (fun t d h=>by cases h) t d (by rw[qF];exact ht);exact this⟩
def Δ.tg0(ts:List Nat):Δ→Δ
 | .ow A u=> .ow A (ts.getD u 0)
 |d=>d
def Δ.tg1(ts:List Nat):Δ→Δ
 | .g ds=> .g (ds.map (Δ.tg0 ts))
 |d=>d.tg0 ts
def Δ.tg(ts:List Nat):Δ→Δ
 | .t ds=> .t (ds.map (Δ.tg1 ts))
 |d=>d.tg1 ts
def Δ.n0(n:Nat):Δ→Bool
 | .k _=>true
 | .ow _ u=>decide (u<n)
 |_=>false
def Δ.n1(n:Nat):Δ→Bool
 | .g ds=>ds.all (Δ.n0 n)
 |d=>d.n0 n
def Δ.n2(n:Nat):Δ→Bool
 | .t ds=>ds.all (Δ.n1 n)
 |d=>d.n1 n
theorem s0.tg(c:∀u,u<ts.length→γ'.κ u=γ.κ (ts.getD u 0)):∀{d:Δ} {x:Value},s0 w0 γ w (d.tg0 ts) x→d.n0 ts.length=true→s0 w0 γ' w d x
 | .k _,_,h,_=>h
 | .ow A u,_,⟨h,j⟩,a=>⟨h,(c u (of_decide_eq_true a)).trans j⟩
 | .rd _,_,_,h=>by cases h
 | .rz _ _,_,_,h=>by cases h
 | .p _ _,_,_,h=>by cases h
 | .sl _ _ _,_,_,h=>by cases h
 | .f _,_,_,h=>by cases h
 | .g _,_,_,h=>by cases h
 | .t _,_,_,h=>by cases h
theorem l0.tg(a:∀u,u<ts.length→γ'.κ u=γ.κ (ts.getD u 0)):∀{ds:List Δ} {xs:List Value},l0 w0 γ w (ds.map (Δ.tg0 ts)) xs→ds.all (Δ.n0 ts.length)=true→l0 w0 γ' w ds xs
 |[],[],_,_=>trivial
 |d::ds,x::xs,h,ha=>by
  simp only[iI,dA]at ha;exact⟨s0.tg a h.1 ha.1,l0.tg a h.2 ha.2⟩
 |[],_::_,h,_=>h.elim
 |_::_,[],h,_=>h.elim
theorem s1.tg(a:∀u,u<ts.length→γ'.κ u=γ.κ (ts.getD u 0)):∀{d:Δ} {x:Value},s1 w0 γ w (d.tg1 ts) x→d.n1 ts.length=true→s1 w0 γ' w d x
 | .g _,_,⟨xs,e,h⟩,ha=>⟨xs,e,l0.tg a h ha⟩
 | .k _,_,h,_=>h
 | .ow _ _,_,h,ha=>s0.tg (d:= .ow _ _) a h ha
 | .rd _,_,_,h=>by cases h
 | .rz _ _,_,_,h=>by cases h
 | .p _ _,_,_,h=>by cases h
 | .sl _ _ _,_,_,h=>by cases h
 | .f _,_,_,h=>by cases h
 | .t _,_,_,h=>by cases h
theorem l1.tg(a:∀u,u<ts.length→γ'.κ u=γ.κ (ts.getD u 0)):∀{ds:List Δ} {xs:List Value},l1 w0 γ w (ds.map (Δ.tg1 ts)) xs→ds.all (Δ.n1 ts.length)=true→l1 w0 γ' w ds xs
 |[],[],_,_=>trivial
 |d::ds,x::xs,h,ha=>by
  simp only[iI,dA]at ha;exact⟨s1.tg a h.1 ha.1,l1.tg a h.2 ha.2⟩
 |[],_::_,h,_=>h.elim
 |_::_,[],h,_=>h.elim
theorem s2.tg(a:∀u,u<ts.length→γ'.κ u=γ.κ (ts.getD u 0)):∀{d:Δ} {x:Value},s2 w0 γ w (d.tg ts) x→d.n2 ts.length=true→s2 w0 γ' w d x
 | .t _,_,⟨xs,e,h⟩,ha=>⟨xs,e,l1.tg a h ha⟩
 | .g _,_,h,ha=>s1.tg (d:= .g _) a h ha
 | .k _,_,h,_=>h
 | .ow _ _,_,h,ha=>s0.tg (d:= .ow _ _) a h ha
 | .rd _,_,_,h=>by cases h
 | .rz _ _,_,_,h=>by cases h
 | .p _ _,_,_,h=>by cases h
 | .sl _ _ _,_,_,h=>by cases h
 | .f _,_,_,h=>by cases h
def Kv:List Nat→Bool
 |[]=>true
 |x::r=>!(r.contains x)&&Kv r
theorem Y7{r:List Nat}(a:k<r.length):r.getD k 0∈r:=by
 simp only[List.getD,bC a,jJ];exact uP a
theorem DY:∀{ts:List Nat},Kv ts=true→∀u v,u<ts.length→v<ts.length→ts.getD u 0=ts.getD v 0→u=v
 |[],_,_,_,h,_,_=>by simp at h
 |x::r,a,u,v,hu,hv,c=>by
  simp only[Kv,dA,Bool.not_eq_true',List.contains_eq_mem,decide_eq_false_iff_not]at a;cases u with
  |zero=>
   cases v with
   |zero=>rfl
   |succ v=>
    have e:x=r.getD v 0:=c;exact absurd (e▸Y7 (r:=r) (k:=v) (by simpa using hv)) a.1
  |succ u=>
   cases v with
   |zero=>
    have e:r.getD u 0=x:=c;exact absurd (e▸Y7 (r:=r) (k:=u) (by simpa using hu)) a.1
   |succ v=>rw[DY a.2 u v (by simpa using hu) (by simpa using hv) c]
theorem Ans.mk'{F:Nat→Prop}{v:Value}{d:Δ}(ts:List Nat)(a:Wi w0 γ w F)(hv:s2 w0 γ w (d.tg ts) v)(g:d.n2 ts.length=true)(hd:Kv ts=true):Ans w0 d (.returned v) w:=by
 refine⟨fun u=>if u<ts.length then γ.κ (ts.getD u 0)else none,v,rfl,a.bel,fun t q h=>?_,fun t u q f c=>?_,s2.tg (fun u hu=>au hu) hv g⟩
 ·dsimp only at h;split at h
  ·exact⟨(a.kn _ q h).1,(a.kn _ q h).2.1⟩
  ·cases h
 ·dsimp only at f c;split at f
  ·split at c
   ·exact DY hd t u ‹_› ‹_› (a.ki _ _ q f c)
   ·cases c
  ·cases f
end
section
variable {w0 w w':World} {γ:Gh} {N c:Nat} {E:En} {Bx:Bs} {a:Act} {P:Program}
abbrev Rl:=List (Nat×Option Nat)
abbrev Nbs:=List (Option (TypeId×List Δ))
def dep(E:En)(Ds:List Δ)(r:Rl)(t:Nat):Option Δ:=match lk r t with
 |some (some k)=>Ds[k]?
 |some none=>lk E t
 |none=>none
def rB(l:List Oper)(n:Nat)(rs:List Rl):Bool:=(List.range n).all fun j=>(rs.getD j []).all fun p=>match p.2 with
 |some k=>decide (k<n)&&vM l k==p.1&&(match l[j]? with|some o=>o.after.any fun e=>Region.binds .any e&&e.on==k|none=>false)
 |none=>(List.range n).all fun m=>vM l m != p.1
def wO(P:Program)(w0:World)(N c:Nat)(E:En)(Bx:Bs)(D0:List Δ):Nat→List Oper→List Rl→List Δ→Nbs→Prop
 |j,o::os,r::rs,d::ds,b::bs=>Ok P w0 N o (c+j) (dep E D0 r) Bx d b∧wO P w0 N c E Bx D0 (j+1) os rs ds bs
 |_,_,[],[],[]=>True
 |_,_,_,_,_=>False
theorem wO.get{D0:List Δ}:∀{m:Nat} {l:List Oper} {rs:List Rl} {ds:List Δ} {bs:Nbs} {j:Nat} {o:Oper},wO P w0 N c E Bx D0 m l rs ds bs→j<ds.length→l[j]? =some o→∃d b,ds[j]? =some d∧bs[j]? =some b∧Ok P w0 N o (c+(m+j)) (dep E D0 (rs.getD j [])) Bx d b
 |m,g::os,r::rs,d::ds,b::bs,0,o,h,_,a=>by
  simp at a;subst a;exact⟨d,b,rfl,rfl,h.1⟩
 |m,g::os,r::rs,d::ds,b::bs,j+1,o,h,f,a=>by
  obtain⟨A,C,z,y,u⟩:=wO.get (j:=j) h.2 (by simpa using f) (by simpa using a);refine⟨A,C,by simpa using z,by simpa using y,?_⟩;rw[show c+(m+(j+1))=c+(m+1+j)from om];exact u
 |_,_,[],[],[],_,_,_,f,_=>by simp at f
 |_,[],_::_,_,_,_,_,h,_,_=>by simp[wO]at h
 |_,[],[],_::_,_,_,_,h,_,_=>by simp[wO]at h
 |_,[],[],[],_::_,_,_,h,_,_=>by simp[wO]at h
 |_,_::_,[],_::_,_,_,_,h,_,_=>by simp[wO]at h
 |_,_::_,[],[],_::_,_,_,h,_,_=>by simp[wO]at h
 |_,_::_,_::_,[],_,_,_,h,_,_=>by simp[wO]at h
 |_,_::_,_::_,_::_,[],_,_,h,_,_=>by simp[wO]at h
def dL(l:List Oper):Nat→List Δ→En
 |_,[]=>[]
 |j,d::ds=>(vM l j,d)::dL l (j+1) ds
def bL(c:Nat):Nat→Nbs→Bs
 |_,[]=>[]
 |j,some b::bs=>(c+j,b)::bL c (j+1) bs
 |j,none::bs=>bL c (j+1) bs
theorem ER{α:Type}:∀{r s:List (Nat×α)} {t:Nat} {x:α},lk (r++s) t=some x→lk r t=some x∨((∀p,p∈r→p.1≠t)∧lk s t=some x)
 |[],s,t,x,h=> .inr ⟨fun p c=>by simp at c,h⟩
 |(i,y)::r,s,t,x,h=>by
  rcases dK (r:=r++s) h with ⟨rfl,rfl⟩|⟨a,h⟩
  ·exact .inl (by unfold lk;rw[Nat.beq_refl];rfl)
  ·rcases ER h with h|⟨g,f⟩
   ·exact .inl (by unfold lk;rw[wM a];exact h)
   ·exact .inr ⟨fun p c=>(dZ.1 c).elim (fun e=>by rw[e];exact a) (g p),f⟩
theorem Y8{l:List Oper}:∀{ds:List Δ} {m t:Nat} {d:Δ},lk (dL l m ds) t=some d→∃j,ds[j]? =some d∧vM l (m+j)=t
 |[],_,_,_,h=>by cases h
 |d1::ds,m,t,d,h=>by
  rcases dK h with ⟨e,rfl⟩|⟨_,h⟩
  ·exact⟨0,rfl,e⟩
  ·obtain⟨j,c,a⟩:=Y8 h;exact⟨j+1,by simpa using c,by rw[←a];congr 1;omega⟩
theorem Y9{l:List Oper}:∀{ds:List Δ} {m j:Nat},j<ds.length→∃d,(vM l (m+j),d)∈dL l m ds
 |d::ds,m,0,_=>⟨d,by simp[dL]⟩
 |d::ds,m,j+1,h=>by
  obtain⟨c,a⟩:=Y9 (m:=m+1) (j:=j) (by simpa using h);exact⟨c,by rw[show m+(j+1)=m+1+j from om];exact jD _ a⟩
 |[],_,_,h=>by simp at h
theorem Lh{c:Nat}:∀{bs:Nbs} {m i:Nat} {b:TypeId×List Δ},lk (bL c m bs) i=some b→∃j,bs[j]? =some (some b)∧c+(m+j)=i
 |[],_,_,_,h=>by cases h
 |some g::bs,m,i,b,h=>by
  rcases dK h with ⟨e,rfl⟩|⟨_,h⟩
  ·exact⟨0,rfl,om⟩
  ·obtain⟨j,a,f⟩:=Lh h;exact⟨j+1,by simpa using a,om⟩
 |none::bs,m,i,b,h=>by
  obtain⟨j,a,f⟩:=Lh (bs:=bs) (m:=m+1) h;exact⟨j+1,by simpa using a,om⟩
theorem gU{id:Nat}{l:List Oper}{Q:Exit→Act→World→Prop}(n:Nat)(Ds:List Δ)(Nb:Nbs)(rs:List Rl)(hDn:Ds.length=n)(S:PS w0 N c E Bx γ a w)(hm:P.follows .mixedOrders=true)(hB:headB l n=true)(hN:((List.range n).all fun i=>decide (vM l i<N))=true)(hr:rB l n rs=true)
 (ops:wO P w0 N c E Bx Ds 0 l rs Ds Nb)
 (fin:∀γ' a' w',PS w0 N (c+n) (dL l 0 Ds++E) (bL c 0 Nb++Bx) γ' a' w'→wpList P l.toArray Q (l.drop n) a' w'):(Code.region id l.toArray true).wp P Q a w:=by
 subst hDn
 have hB':=hB
 simp only[headB,Tt,dA]at hB'
 obtain⟨⟨hT,hdst⟩,hgd⟩:=hB'
 have gd:∀i o,i<Ds.length→l[i]? =some o→o.guard=none∧∃k,o.dst=some k∧vM l i=k∧k<N:=fun i o u H=>by
  have y:=dh.1 hgd i (gQ.2 u);have g:=dh.1 hdst i (gQ.2 u);have h3:=of_decide_eq_true (dh.1 hN i (gQ.2 u));rw[H]at y g;obtain⟨k,I⟩:=yH.1 g;have e:vM l i=k:=by simp[vM,H,I]
  exact⟨Option.isNone_iff_eq_none.1 y,k,I,e,e▸h3⟩
 have dne:∀i j,i<Ds.length→j<Ds.length→i≠j→vM l i≠vM l j:=fun i j u f hij=>by
  obtain⟨o,H,_,hd⟩:=Aa hT u;obtain⟨o2,ho2,_,_⟩:=Aa hT f;obtain⟨_,k,I,e1,_⟩:=gd i o u H;obtain⟨_,k2,hk2,e2,_⟩:=gd j o2 f ho2;rw[e1,e2];intro e;exact(hd k I).2 j o2 f hij ho2 (by rw[hk2,e])
 refine Ip (fun listed a C=>∃γ1,Wi w0 γ1 C (fun i=>c≤i∧(i<c+Ds.length→listed.getD (i-c) true=false))∧(∀t d,lk E t=some d→(∀j,j<Ds.length→vM l j≠t)→s2 w0 γ1 C d (a.tmps.getD t undef))∧(∀i b,lk Bx i=some b→bx w0 γ1 C i b)∧(∀j d,j<Ds.length→Ds[j]? =some d→listed.getD j true=true→s2 w0 γ1 C d (a.tmps.getD (vM l j) undef))∧∀j b,j<Ds.length→Nb[j]? =some (some b)→listed.getD j true=true→bx w0 γ1 C (c+j) b)
  (fun w w'=>Below w.heap.size w w') (fun w=>⟨rfl,rfl,rfl,aY _,fun _ _=>rfl⟩) (fun a b c y g=>⟨g.os.trans y.os,g.tape.trans y.tape,g.output.trans y.output,bK y.size g.size,fun q hq=>(g.block q (eu hq y.size)).trans (y.block q hq)⟩) (fun _ _ _=>True) (fun _ _=>none) hm hT S.sz hN (fun _ _ _ _ _ _ _=>trivial) (fun _ _ _ _ _ _ h=>by cases h) (fun _ _ _ _ _ _ _ _ _=>⟨trivial,rfl⟩) ?_ ?_ ?_
 ·have hl:∀j,j<Ds.length→(Array.replicate l.length false).getD j true=false:=fun j f=>by
   have:=DT hT;simp[show j<l.length from om]
  have hb:Below w.heap.size w {w with drawn:=w.drawn+1}:=⟨rfl,rfl,rfl,aY _,fun _ _=>rfl⟩;refine⟨γ,(S.W.Tu (below_le S.W hb)).sub fun i u=>u.1,fun t d h _=>s2.up S.W (.of hb) (S.env t d h),fun i b h=>(S.box i b h).up S.W (.of hb) fun q hq=>rfl,fun j d f _ h=>?_,fun j b f _ h=>?_⟩
  ·rw[hl j f]at h;cases h
  ·rw[hl j f]at h;cases h
 ·rintro i o a1 C listed u H hls hli Oa ⟨γ1,F,hE,G,hv,J⟩ hz hL _ _ K hK;obtain⟨hg,k,I,M,hkN⟩:=gd i o u H;obtain⟨d,b,hd,hb,hok⟩:=ops.get u H;rw[eY]at hok;have hil:i<listed.size:=by have:=DT hT;omega
  rw[au (by unfold Region.wanted;rw[hg])];refine hok.ok Q γ1 a1 C _ K hz F ⟨om,fun _=>by rw[show c+i-c=i from om];exact hli⟩ (fun t Y ht=>?_) G fun γ' v w' hs T hW' hv' hn'=>hK v w' trivial T (fun _ h=>by cases h) ⟨γ',hW'.sub fun j f=>⟨⟨f.1,fun h=>?_⟩,fun e=>?_⟩,fun t Y ht hn=>?_,fun j b1 f=>(G j b1 f).up F hs fun q hq=>T.block q (F.bn j q hq).2,fun j Y f O A=>?_,fun j b1 f U A=>?_⟩
  ·unfold dep at ht;split at ht
   ·rename_i m L;have y:=dh.1 hr i (gQ.2 u);have hmem:∀{r:Rl} {x:Option Nat},lk r t=some x→(t,x)∈r:=fun {r}=>by
     induction r with
     |nil=>intro x h;cases h
     |cons p r Z=>
      intro x h;rcases dK h with ⟨rfl,rfl⟩|⟨_,h⟩
      ·exact jM
      ·exact jD _ (Z h)
    have g:=dh.1 y _ (hmem L);simp only[dA,qW,beq_iff_eq,H,Array.any_eq_true']at g;obtain⟨⟨h3,h4⟩,e,he,h5,h6⟩:=g;have h7:=Oa e he h5;rw[h6]at h7;have:=hv m Y h3 ht h7;rw[h4]at this;exact this
   ·rename_i L;have y:=dh.1 hr i (gQ.2 u);have hmem:∀{r:Rl} {x:Option Nat},lk r t=some x→(t,x)∈r:=fun {r}=>by
     induction r with
     |nil=>intro x h;cases h
     |cons p r Z=>
      intro x h;rcases dK h with ⟨rfl,rfl⟩|⟨_,h⟩
      ·exact jM
      ·exact jD _ (Z h)
    have g:=dh.1 y _ (hmem L);refine hE t Y ht fun j f=>?_
    have:=dh.1 g j (gQ.2 f);simpa using this
   ·cases ht
  ·have g:=f.2 h;rw[vk]at g;split at g
   ·cases g
   ·exact g
  ·have g:=f.2 om;rw[vk,au ⟨om,hil⟩]at g;cases g
  ·rw[I,tJ (by rw[←M];exact hn i u)];exact s2.up F hs (hE t Y ht hn)
  ·by_cases z:j=i
   ·subst z;rw[I,M,put_eq (Nat.lt_of_lt_of_eq hkN hz.symm)];rw[hd]at O;cases O;exact hv'
   ·rw[I,tJ (by rw[←M];exact dne i j u f (Ne.symm z))];rw[vk,ah (fun h=>z h.1.symm)]at A;exact s2.up F hs (hv j Y f O A)
  ·by_cases z:j=i
   ·subst z;rw[hb]at U;cases U;exact hn' _ rfl
   ·rw[vk,ah (fun h=>z h.1.symm)]at A;exact(J j b1 f U A).up F hs fun q hq=>T.block q (F.bn _ q hq).2
 ·rintro a1 C listed hall ⟨γ1,F,hE,G,hv,J⟩ hz hdf hL _ _ _;refine fin γ1 a1 C ⟨F.sub fun i u=>⟨om,fun h=>om⟩,hz,hdf.trans S.df,fun t d ht=>?_,fun i b u=>?_⟩
  ·rcases ER ht with ht|⟨hn,ht⟩
   ·obtain⟨j,y,g⟩:=Y8 ht;rw[eY]at g;have f:j<Ds.length:=(iR.1 y).1;rw[←g];exact hv j d f y (hall j f)
   ·refine hE t d ht fun j f e=>?_
    obtain⟨d',hd'⟩:=Y9 (l:=l) (m:=0) f;rw[eY]at hd';exact hn _ hd' e
  ·rcases ER u with u|⟨_,u⟩
   ·obtain⟨j,y,g⟩:=Lh u;have f:j<Nb.length:=(iR.1 y).1;rw[eY]at g;have hlen:Nb.length≤Ds.length:=by
     have:∀{m:Nat} {l:List Oper} {rs:List Rl} {ds:List Δ} {bs:Nbs},wO P w0 N c E Bx Ds m l rs ds bs→bs.length=ds.length:=fun {m l rs ds bs}=>by
      induction ds generalizing m l rs bs with
      |nil=>cases l<;>cases rs<;>cases bs<;>simp[wO]
      |cons d ds Z=>cases l<;>cases rs<;>cases bs<;>simp[wO];intro _ h;exact Z h
     rw[this ops];exact aY _
    rw[←g];exact J j b om y (hall j om)
   ·exact G i b u
end
section
variable {w0 w w':World} {γ:Gh} {N c:Nat} {E:En} {Bx:Bs} {a:Act} {P:Program}
def rvO(E:En)(Bx:Bs):ResultVar→Δ→Prop
 | .tmp t,d=>lk E t=some d
 | .cell p _,d=>∃j bt es,lk E p=some (.p j 0)∧lk Bx j=some (bt,es)∧d= .g es
def rvB(P:Program):ResultVar→Δ→Bool
 | .tmp _,_=>true
 | .cell _ ty,.g es=>lN P ty&&(P.info? ty).map (·.size)==some es.length
 |_,_=>false
def rvL(E:En)(Bx:Bs):List ResultVar→List Δ→Prop
 |[],[]=>True
 |r::rs,d::ds=>rvO E Bx r d∧rvL E Bx rs ds
 |_,_=>False
def rvLB(P:Program):List ResultVar→List Δ→Bool
 |[],[]=>true
 |r::rs,d::ds=>rvB P r d&&rvLB P rs ds
 |_,_=>false
def rvF(tmps:Array Value):ResultVar→Sem Value
 | .tmp t=>pure (tmps.getD t undef)
 | .cell a t=>do loadVar t (←asAddr (tmps.getD a undef))
variable{r:ResultVar}{fn:Func}
theorem Y_(S:PS w0 N c E Bx γ a w){d:Δ}(h:rvO E Bx r d)(hb:rvB P r d=true):∃v,(rvF a.tmps r).run P w= .ok v w∧s2 w0 γ w d v:=by
 cases r with
 |tmp t=>exact⟨_,rfl,S.env t d h⟩
 |cell p ty=>
  obtain⟨j,bt,es,C,A,rfl⟩:=h;obtain⟨q,hq,e⟩:=S.env p _ C;obtain⟨y,xs,m,z,l⟩:=S.box j _ A;obtain rfl:q=y:=dS (hq.symm.trans m);simp only[rvB,dA,beq_iff_eq]at hb;have hl:xs.length=es.length:=l.len;obtain⟨g,u⟩:∃g,P.underlying ty=some g:=by
   have f:=hb.1;unfold lN at f;cases hu:P.underlying ty with
   |some g=>exact⟨g,rfl⟩
   |none=>rw[hu]at f;cases f
  have f:=hb.1;unfold lN at f;rw[u]at f;have:=run_loadVar_row (P:=P) w q bt ty xs.toArray (0,0) g z u (by cases g<;>first|rfl|cases f) (by rw[hb.2];simp[hl]);refine⟨.agg xs.toArray,?_,xs,rfl,l⟩;simp only[rvF,e,asAddr,Sem.run_bind,Sem.run_pure,Result.andThen_ok,this]
theorem TA(S:PS w0 N c E Bx γ a w)(g:∀d:Δ,d.n1 (4*c)=true→∀v,s2 w0 γ w d v→s1 w0 γ w d v):∀{rs:List ResultVar} {ds:List Δ},rvL E Bx rs ds→rvLB P rs ds=true→∃vs:List Value,(rs.mapM (rvF a.tmps)).run P w= .ok vs w∧vs.length=ds.length∧((ds.all fun d=>d.n1 (4*c))=true→l1 w0 γ w ds vs)∧∀d,ds=[d]→∃v,vs=[v]∧s2 w0 γ w d v
 |[],[],_,_=>⟨[],sy,rfl,fun _=>trivial,fun d h=>by cases h⟩
 |r::rs,d::ds,h,hb=>by
  simp only[rvLB,dA]at hb;obtain⟨v,z,l⟩:=Y_ S h.1 hb.1;obtain⟨vs,y,j,u,_⟩:=TA S g h.2 hb.2;refine⟨v::vs,?_,by simp[j],fun f=>?_,fun A m=>?_⟩
  ·simp only[List.mapM_cons,Sem.run_bind,Sem.run_pure,z,y,Result.andThen_ok]
  ·simp only[iI,dA]at f;exact⟨g d f.1 v l,u f.2⟩
  ·cases m;match vs,j with
   |[],_=>exact⟨v,rfl,l⟩
 |[],_::_,h,_=>h.elim
 |_::_,[],h,_=>h.elim
theorem n1_s1{n:Nat}:∀{d:Δ},d.n1 n=true→∀v,s2 w0 γ w d v→s1 w0 γ w d v
 | .g _,_,_,h=>h
 | .k _,_,_,h=>h
 | .ow _ _,_,_,h=>h
 | .rd _,h,_,_=>by cases h
 | .rz _ _,h,_,_=>by cases h
 | .p _ _,h,_,_=>by cases h
 | .sl _ _ _,h,_,_=>by cases h
 | .f _,h,_,_=>by cases h
 | .t _,h,_,_=>by cases h
theorem res_eq(fn:Func)(tmps:Array Value):results fn tmps=(do let vs ←fn.results.mapM (rvF tmps);pure (if h:vs.size=1 then vs[0]else .tuple vs)):=by
 unfold results;congr 1
theorem Lj{tmps:Array Value}{vs:List Value}(h:(fn.results.toList.mapM (rvF tmps)).run P w= .ok vs w):(results fn tmps).run P w= .ok (if h:vs.toArray.size=1 then vs.toArray[0]else .tuple vs.toArray) w:=by
 rw[res_eq];simp only[Array.mapM_eq_mapM_toList,Sem.run_bind,Sem.run_map,h,Sem.run_pure,Result.andThen_ok]
theorem pF{d:Δ}(ts:List Nat)(S:PS w0 N c E Bx γ a w)(f:fn.results.toList=[r])(j:rvO E Bx r (d.tg ts))(l:rvB Tryz.prog r (d.tg ts)=true:=by kernel_rfl)(g:d.n2 ts.length=true:=by rfl)(hd:Kv ts=true:=by rfl):bodyPost Tryz.prog fn (Ans w0 d) .ret a w:=by
 obtain⟨v,u,m⟩:=Y_ S j l;have:(fn.results.toList.mapM (rvF a.tmps)).run Tryz.prog w= .ok [v] w:=by rw[f];simp only[List.mapM_cons,List.mapM_nil,Sem.run_bind,Sem.run_pure,u,Result.andThen_ok]
 exact⟨S.df,v,by rw[Lj this];rfl,Ans.mk' ts S.W m g hd⟩
theorem gq{ds es:List Δ}{rs:List ResultVar}(ts:List Nat)(S:PS w0 N c E Bx γ a w)(m:fn.results.toList=rs)(f:ds.map (Δ.tg1 ts)=es)(y:rvL E Bx rs es)(z:rvLB Tryz.prog rs es=true:=by kernel_rfl)(hl:Nat.beq ds.length 1=false:=by rfl)(u:ds.all (Δ.n1 ts.length)=true:=by rfl)(hm:(es.all fun d=>d.n1 (4*c))=true:=by rfl)(hd:Kv ts=true:=by rfl):bodyPost Tryz.prog fn (Ans w0 (.t ds)) .ret a w:=by
 obtain⟨vs,l,j,A,_⟩:=TA S (fun d h=>n1_s1 h) y z;have g:¬vs.toArray.size=1:=fun e=>by
  have:ds.length=1:=by rw[←f]at j;simp at j e;omega
  rw[this]at hl;cases hl
 refine⟨S.df,.tuple vs.toArray,by rw[←m]at l;rw[Lj l,dif_neg g],Ans.mk' ts S.W ⟨vs,rfl,?_⟩ u hd⟩;rw[f];exact A hm
end
section
abbrev iD(s:Bool)(a:List Nat):Δ:= .g [.k (.bool s),.rd a]
abbrev iO(z:Int)(t:Nat):Δ:= .g [.k (.bool (decide (z<0))),.ow (dg B z.natAbs) t]
abbrev qO(z:Int)(d t u:Nat):Δ:= .g [.k (.bool (decide (z<0))),.ow (dg B z.natAbs) t,.ow (dg B d) u]
abbrev e0:Δ:= .k (.int .i64 0)
theorem dgp{n:Nat}:decide (0<(dg B n).length)=decide (0<n):=by
 have h:=BR (n:=n);by_cases h0:0<n
 ·rw[cO h0,cO];have:=h.mpr h0;omega
 ·rw[aZ h0,aZ];intro a;exact h0 (h.mp om)
theorem Oc{w:World}{a:List Nat}{v:Value}(h:s1 w g0 w (.rd a) v):Rep0 w (fun q=>q<w.heap.size) v (.l 1 (W a)):=by
 obtain⟨H,f,c⟩:=h;exact c.mono (fun q hq=>(f q hq).1) fun _ _=>rfl
def k1(u:Value):Nat→Option (Option Nat):=fun t=>if t=0 then some u.ownBlock else none
def k2(u v:Value):Nat→Option (Option Nat):=fun t=>if t=0 then some u.ownBlock else if t=1 then some v.ownBlock else none
variable{u:Value}
theorem Za{w w':World}{A:List Nat}(h:Own w A u w'):∀t q,k1 u t=some (some q)→w.heap.size≤q∧q<w'.heap.size:=fun t q hq=>by
 unfold k1 at hq;split at hq
 ·obtain⟨m,_,a⟩:=h;exact a.lt q (dS hq)
 ·cases hq
theorem Zb:∀t t' q,k1 u t=some (some q)→k1 u t'=some (some q)→t=t':=fun t t' q a c=>by
 unfold k1 at a c;split at a<;>split at c
 ·omega
 ·cases c
 ·cases a
 ·cases a
variable {f:FuncId} {ds:List Δ} {A A2:List Nat} {sg:Bool} {e:Int} {y:Value}
theorem Cm(h:∀w vs,Jw w→l1 w g0 w ds vs→Calls Tryz.prog f vs.toArray w (RowR w A)):Fn f ds (.ow A 0):=⟨fun w vs a ha=>(h w vs a ha).mono fun e w' ⟨u,n,e1,b,o,m⟩=>
 ⟨k1 u,u,e1,b,Za ⟨n,m,o⟩,Zb,⟨n,m,o⟩,rfl⟩⟩
theorem TB(h:∀w vs,Jw w→l1 w g0 w ds vs→Calls Tryz.prog f vs.toArray w (RowT w A y)):Fn f ds (.t [.ow A 0,.k y]):=⟨fun w vs a ha=>(h w vs a ha).mono fun e w' ⟨u,n,e1,b,o,m⟩=>
 ⟨k1 u,_,e1,b,Za ⟨n,m,o⟩,Zb,[u,y],rfl,⟨⟨n,m,o⟩,rfl⟩,rfl,trivial⟩⟩
theorem fn_k(h:∀w vs,Jw w→l1 w g0 w ds vs→Calls Tryz.prog f vs.toArray w (fun e w'=>e= .returned y∧Below w.heap.size w w')):Fn f ds (.k y):=⟨fun w vs a ha=>(h w vs a ha).mono fun e w' ⟨e1,b⟩=>
 ⟨fun _=>none,y,e1,b,fun _ _ h=>(by cases h),fun _ _ _ h=>(by cases h),rfl⟩⟩
variable {s t:Bool} {a b:List Nat} {x z:Int} {m:Nat}
section
variable (ha:Wd a) (la:a.length≤100000000)
include ha la
theorem Zc:Fn 70 [.rd a] (.k (.int .i64 ((bl (nv B a):Nat):Int))):=fn_k fun w vs c h=>match vs,h with
 |[u],h=>Io (vs:=[u]) (mX a ha om) c (fun q h=>h) (rp1 (Oc h.1))
variable (hb:Wd b) (lb:b.length≤100000000)
include hb lb
variable {u v:Nat} (hu:nv B a=u) (hv:nv B b=v)
include hu hv
theorem ES:Fn 86 [.rd a,.rd b] (.ow (dg B (u*v)) 0):=Cm fun w vs c h=>match vs,h with
 |[x,y],h=>by rw[←hu,←hv];exact JI (vs:=[x,y]) (TC a b ha hb la lb) c (fun q h=>h) (N9 (Oc h.1) (Oc h.2.1))
end
theorem Ac{n:Nat}(a:n<18446744073709551616):Fn 79 [.k (.int .u64 (n:Int))] (.ow (dg B n) 0):=Cm fun w vs c h=>match vs,h with
 |[u],h=>by
  have e:u= .int .u64 (n:Int):=h.1;subst e;exact JI (vs:=[.int .u64 (n:Int)]) (H:=fun _=>False) (wF n a) c (fun _ h=>h.elim) (rp1 (.i _ _))
end
section
variable {w0 w:World} {N i c:Nat} {R:Nat→Option Δ} {Bx:Bs} {dst:Option Tmp} {x:Operand} {t:TypeId} {p:String} {e:Array Edge} {gd:Option (Nat×Bool)} {j k:Nat} {bt:TypeId} {ds:List Δ} {d:Δ}
theorem ld_i(h:lX R x (.p j k))(hb:lk Bx j=some (bt,ds))(a:Nat.ble (k+2) ds.length=true):Ok Tryz.prog w0 N ⟨dst,.load 25 x,t,p,e,gd⟩ i R Bx (.g ((ds.drop k).take 2)) none:=Y1 h hb kf kf (qY a)
theorem ld_q(h:lX R x (.p j k))(hb:lk Bx j=some (bt,ds))(a:Nat.ble (k+3) ds.length=true):Ok Tryz.prog w0 N ⟨dst,.load 27 x,t,p,e,gd⟩ i R Bx (.g ((ds.drop k).take 3)) none:=Y1 h hb kf kf (qY a)
theorem ld_n(h:lX R x (.p j k))(hb:lk Bx j=some (bt,ds))(hd:ds[k]? =some d):Ok Tryz.prog w0 N ⟨dst,.load 23 x,t,p,e,gd⟩ i R Bx d none:=Y2 h hb kf kf hd
theorem ld_b(h:lX R x (.p j k))(hb:lk Bx j=some (bt,ds))(hd:ds[k]? =some d):Ok Tryz.prog w0 N ⟨dst,.load 4 x,t,p,e,gd⟩ i R Bx d none:=Y2 h hb kf kf hd
theorem ld_z(h:lX R x (.p j k))(hb:lk Bx j=some (bt,ds))(hd:ds[k]? =some d):Ok Tryz.prog w0 N ⟨dst,.load 3 x,t,p,e,gd⟩ i R Bx d none:=Y2 h hb kf kf hd
theorem fa_i0(h:lX R x (.p j k)):Ok Tryz.prog w0 N ⟨dst,.fieldAddr 25 x 0,t,p,e,gd⟩ i R Bx (.p j (k+0)) none:=Tv h kf
theorem fa_i1(h:lX R x (.p j k)):Ok Tryz.prog w0 N ⟨dst,.fieldAddr 25 x 1,t,p,e,gd⟩ i R Bx (.p j (k+1)) none:=Tv h kf
theorem fa_q0(h:lX R x (.p j k)):Ok Tryz.prog w0 N ⟨dst,.fieldAddr 27 x 0,t,p,e,gd⟩ i R Bx (.p j (k+0)) none:=Tv h kf
theorem fa_q1(h:lX R x (.p j k)):Ok Tryz.prog w0 N ⟨dst,.fieldAddr 27 x 1,t,p,e,gd⟩ i R Bx (.p j (k+2)) none:=Tv h kf
theorem al_i:Ok Tryz.prog w0 N ⟨dst,.alloc 25,t,p,e,gd⟩ i R Bx (.p i 0) (some (25,[.k (.bool false),.k (.slice none 0 0)])):=JK (z:= .agg #[.bool false,.slice none 0 0]) kf
theorem al_q:Ok Tryz.prog w0 N ⟨dst,.alloc 27,t,p,e,gd⟩ i R Bx (.p i 0) (some (27,[.k (.bool false),.k (.slice none 0 0),.k (.slice none 0 0)])):=JK (z:= .agg #[.bool false,.slice none 0 0,.slice none 0 0]) kf
theorem Fh{x1 x2:Operand}{b:Bool}{f d2:Δ}(g:lX R x (.k (.bool b)))(h1:lX R x1 f)(h2:lX R x2 d2):Ok Tryz.prog w0 N ⟨dst,.pick x x1 x2,t,p,e,gd⟩ i R Bx (bif b then f else d2) none:=
 wV fun γ w a c _=>by
  have e1:a.eval x= .bool b:=g.ev c;cases b
  ·exact⟨a.eval x2,by simp[execOp,e1,asBool],h2.ev c⟩
  ·exact⟨a.eval x1,by simp[execOp,e1,asBool],h1.ev c⟩
variable{E:En}{a:Act}{P:Program}{ops:Array Oper}{rest:List Oper}{o:Oper}{Q:Exit→Act→World→Prop}{u:Nat}{want:Bool}{γ:Gh}
theorem Zd{k j:Nat}{b:Bool}{nb:Option (TypeId×List Δ)}(S:PS w0 N c E Bx γ a w)(h:Ok P w0 N o c (lk E) Bx d nb)(F:o.guard=some (j,want))(C:(ops[j]?).bind (·.dst)=some u)(hu:lk E u=some (.k (.bool b)))(hb:(b==want)=true)
 (next:∀γ' y w',PS w0 N (c+1) ((k,d)::E) (nbx c Bx nb) γ' y w'→wpList P ops Q rest y w') (hd:o.dst=some k:=by rfl) (A:Nat.blt k N=true:=by rfl) (g:Nat.blt u N=true:=by rfl):wpList P ops Q (o::rest) a w:=by
 have l:k<a.tmps.size:=by rw[S.sz];exact Nat.blt_eq▸A
 refine BigFrame.wpList_want ((vN F C S.sz (S.env u _ hu) (Nat.blt_eq▸g)).trans hb) fun K hK=>?_
 refine h.ok Q γ a w _ K S.sz S.W (aY c) S.env S.box fun γ' v w' m hb G hv z=>hK _ _ (next γ' _ w' ?_)
 rw[hd]
 refine⟨G.sub fun i I=>⟨om,om⟩,by show(a.tmps.setIfInBounds k v).size=N;simp[S.sz],S.df,fun t H ht=>?_,bx.st S.W m hb S.box z⟩
 rcases dK ht with ⟨rfl,rfl⟩|⟨f,ht⟩
 ·rw[put_eq l];exact hv
 ·rw[tJ f];exact s2.up S.W m (S.env t H ht)
theorem ps_on{k j:Nat}{b:Bool}(S:PS w0 N c E Bx γ a w)(A:o.guard=some (j,want))(z:(ops[j]?).bind (·.dst)=some u)(hu:lk E u=some (.k (.bool b)))(hb:(b==want)=false)
 (next:∀γ' m w',PS w0 N (c+1) ((k,.k undef)::E) Bx γ' m w'→wpList P ops Q rest m w') (hd:o.dst=some k:=by rfl) (y:Nat.blt k N=true:=by rfl) (g:Nat.blt u N=true:=by rfl):wpList P ops Q (o::rest) a w:=by
 have l:k<a.tmps.size:=by rw[S.sz];exact Nat.blt_eq▸y
 unfold wpList
 rw[ah (by rw[vN A z S.sz (S.env u _ hu) (Nat.blt_eq▸g),hb];decide)]
 refine next γ _ w ?_
 rw[hd]
 refine⟨S.W.sub fun i F=>om,by show(a.tmps.setIfInBounds k undef).size=N;simp[S.sz],S.df,fun t C ht=>?_,S.box⟩
 rcases dK ht with ⟨rfl,rfl⟩|⟨f,ht⟩
 ·rw[put_eq l];exact rfl
 ·rw[tJ f];exact S.env t C ht
theorem eH{b:Bool}{c1 c2:Code}(S:PS w0 N c E Bx γ a w)(h:lk E u=some (.k (.bool b)))(hb:b=false)(k:c2.wp P Q a w):(Code.cond (.tmp u) c1 c2).wp P Q a w:=
 wp_cond_false (by rw[bU];exact(S.env u _ h:_=_).trans (by rw[hb])) k
theorem jG{b:Bool}{c1 c2:Code}(S:PS w0 N c E Bx γ a w)(h:lk E u=some (.k (.bool b)))(hb:b=true)(k:c1.wp P Q a w):(Code.cond (.tmp u) c1 c2).wp P Q a w:=
 wp_cond_true (by rw[bU];exact(S.env u _ h:_=_).trans (by rw[hb])) k
theorem ngk{k:Nat}(h:k≤1048577):IntKind.i64.wrap (0- -(k:Int))=(k:Int):=by rw[IntKind.wrap_i64];omega
theorem ngk'{k:Nat}(h:k≤1048577):IntKind.i64.wrap (0-(k:Int))= -(k:Int):=by rw[IntKind.wrap_i64];omega
theorem sbk{x y:Nat}(h:y≤x)(hx:x≤1048577):IntKind.i64.wrap ((x:Int)-(y:Int))=((x-y:Nat):Int):=by rw[IntKind.wrap_i64];omega
theorem sbk1{x:Nat}(h:1≤x)(hx:x≤1048577):IntKind.i64.wrap ((x:Int)-1)=((x-1:Nat):Int):=by rw[IntKind.wrap_i64];omega
theorem adk1{x:Nat}(hx:x≤1048577):IntKind.i64.wrap ((x:Int)+1)=((x+1:Nat):Int):=by rw[IntKind.wrap_i64];omega
theorem px{p:Prop}(h:p:=by first
 |exact nV rfl|exact JJ rfl|exact ok_ex rfl rfl|exact ok_bx rfl
 |exact fa_q0 rfl|exact fa_q1 rfl|exact fa_i0 rfl|exact fa_i1 rfl
 |exact ld_i rfl rfl rfl|exact ld_q rfl rfl rfl|exact ld_n rfl rfl rfl|exact ld_b rfl rfl rfl|exact ld_z rfl rfl rfl
 |exact al_i|exact al_q
 |exact ok_bq rfl rfl rfl rfl|exact ok_bi2 rfl rfl rfl
 |exact xw rfl rfl rfl (congrArg Value.bool (aZ om))|exact xw rfl rfl rfl (congrArg Value.bool (cO om))|exact xw rfl rfl rfl (congrArg (Value.int .i64) (sbk om om))|exact xw rfl rfl rfl (congrArg (Value.int .i64) (sbk1 om om))|exact xw rfl rfl rfl (congrArg (Value.int .i64) (adk1 om))|exact xw rfl rfl rfl rfl|exact Y3 rfl (congrArg (Value.int .i64) (ngk om))|exact Y3 rfl (congrArg (Value.int .i64) (ngk' om))|exact DX rfl|exact Y3 rfl rfl|exact Fh rfl rfl rfl|exact ok_sa rfl rfl kf|exact ok_be rfl rfl rfl|exact ok_bn rfl rfl rfl|exact ok_se (b:=true) rfl rfl kf|exact ok_se (b:=false) rfl rfl kf):p:=h
theorem pc{f:FuncId}{ds es:List Δ}{d:Δ}{args:Array Operand}{A7:Array TypeId}(c:Fn f es d)(hx:Gt R args.toList=some ds:=by exact rfl)(he:ds.map Δ.wk=es:=by rfl)(ha:ds.all Δ.a1=true:=by rfl)(hd:d.r2=true:=by rfl)(a:Jb Tryz.prog f=true:=by kernel_rfl):Ok Tryz.prog w0 N ⟨dst,.call ⟨.value (.func f),args,A7⟩,t,p,e,gd⟩ i R Bx (d.rn i) none:=ok_ca a hx ha (he▸c) hd
section
variable {P:Program} {E E':En} {Bx':Bs} {c':Nat} {γ:Gh} {a:Act} {ops:Array Oper} {rest:List Oper} {o:Oper} {Q:Exit→Act→World→Prop} {u:Nat} {b want:Bool} {nb:Option (TypeId×List Δ)}
structure Stp(P:Program)(w0:World)(N c:Nat)(E:En)(Bx:Bs)(ops:Array Oper)(o:Oper)(c':Nat)(E':En)(Bx':Bs):Prop where
 st:∀(rest:List Oper) (Q:Exit→Act→World→Prop) (γ:Gh) (a:Act) (w:World),PS w0 N c E Bx γ a w→(∀γ' a' w',PS w0 N c' E' Bx' γ' a' w'→wpList P ops Q rest a' w')→wpList P ops Q (o::rest) a w
theorem bQ(S:PS w0 N c E Bx γ a w)(h:Stp P w0 N c E Bx ops o c' E' Bx')(k:∀γ' f w',PS w0 N c' E' Bx' γ' f w'→wpList P ops Q rest f w'):wpList P ops Q (o::rest) a w:=h.st rest Q γ a w S k
theorem dC(h:Ok P w0 N o c (lk E) Bx d nb)(f:o.guard=none:=by rfl)(hd:o.dst=some k:=by rfl)(a:Nat.blt k N=true:=by rfl):Stp P w0 N c E Bx ops o (c+1) ((k,d)::E) (nbx c Bx nb):=⟨fun _ _ _ _ _ S kk=>aj S h kk f hd a⟩
theorem Ze(h:Ok P w0 N o c (lk E) Bx d nb)(l:o.guard=some (j,want))(g:(ops[j]?).bind (·.dst)=some u)(hu:lk E u=some (.k (.bool b)))(hb:(b==want)=true)(hd:o.dst=some k:=by rfl)(f:Nat.blt k N=true:=by rfl)(a:Nat.blt u N=true:=by rfl):Stp P w0 N c E Bx ops o (c+1) ((k,d)::E) (nbx c Bx nb):=⟨fun _ _ _ _ _ S kk=>Zd S h l g hu hb kk hd f a⟩
theorem st_on(l:o.guard=some (j,want))(g:(ops[j]?).bind (·.dst)=some u)(hu:lk E u=some (.k (.bool b)))(hb:(b==want)=false)(hd:o.dst=some k:=by rfl)(f:Nat.blt k N=true:=by rfl)(a:Nat.blt u N=true:=by rfl):Stp P w0 N c E Bx ops o (c+1) ((k,.k undef)::E) Bx:=⟨fun _ _ _ _ _ S kk=>ps_on S l g hu hb kk hd f a⟩
theorem st_sT{j:Nat}{dst:Option Tmp}{ty t bt:TypeId}{x y:Operand}{p:String}{e:Array Edge}{ds es:List Δ}(hx:lX (lk E) x (.p j 0))(hb:lk Bx j=some (bt,ds))(a:lX (lk E) y (.g es))(f:(P.info? ty).map (·.size)=some es.length)(hl:ds.length=es.length)(h1:es.all Δ.c1=true)(hd:dst=none):Stp P w0 N c E Bx ops ⟨dst,.store ty x y,t,p,e,none⟩ c E ((j,bt,es)::Bx):=⟨fun _ _ γ _ _ S kk=>Tz S hx hb a f hl h1 hd fun l w' m=>kk γ l w' m⟩
variable{id:Nat}{l:List Oper}
theorem ET{c2:Code}(h:wpList P l.toArray (Exit.then (c2.wp P Q) Q) l a w):(Code.seq (.region id l.toArray false) c2).wp P Q a w:=wp_seq (wp_region_lit h)
theorem Zf{c2 c3:Code}(h:wpList P l.toArray (Exit.then (c2.wp P (Exit.then (c3.wp P Q) Q)) (Exit.then (c3.wp P Q) Q)) l a w):(Code.seq (.seq (.region id l.toArray false) c2) c3).wp P Q a w:=wp_seq (wp_seq (wp_region_lit h))
end
theorem uI{p:Prop}(h:p:=by first|exact dC px|exact Ze px rfl rfl rfl rfl|exact st_on rfl rfl rfl rfl|exact st_sT rfl rfl rfl kf rfl rfl rfl):p:=h
theorem bM{p q:Prop}(k:q)(h:PLift q→p:=by
 intro hq;(repeat (first|(show wpList _ _ _ (_::_) _ _;refine bQ S uI ?_;intro x1 x2 x3 S)|refine ET ?_|refine Zf ?_|refine h_ ?_));first|(revert x1 x2 x3;exact hq.down)|exact hq.down):p:=h ⟨k⟩
end
section
def kV:Value→V
 | .bool b=> .b b
 | .int q n=> .i q n
 | .slice none 0 0=> .l 1 []
 |v=> .c v
variable{H:Nat→Prop}{x:Value}{dst:Option Tmp}{f:FuncId}{args:Array Operand}{A7:Array TypeId}{t ty:TypeId}{p:String}{gd:Option (Nat×Bool)}{j sz:Nat}
theorem Zg{w:World}(v:Value):Rep0 w H v (kV v):=by
 unfold kV;split
 ·exact .b _
 ·exact .i _ _
 ·exact .l none 0 0 1 [] (fun _=>undef) 0 0 dc rfl (aG _) (aY _) (.inl rfl) (fun j a=>absurd a (Nat.not_lt_zero j)) (fun j x hx=>by simp at hx)
 ·exact .c _
def Δ.v0:Δ→V
 | .k v=>kV v
 | .ow A _| .rd A=> .l 1 (W A)
 | .rz _ A=> .l 1 (W A)
 |_=> .any
def Δ.v1:Δ→V
 | .g ds=> .g (ds.map Δ.v0)
 |d=>d.v0
def Δ.v2:Δ→V
 | .t ds=> .t (ds.map Δ.v1)
 |d=>d.v1
variable {w0 w w':World} {γ:Gh} {N i:Nat} {R:Nat→Option Δ} {Bx:Bs} {F:Nat→Prop}
def Hn(γ:Gh)(w:World)(q:Nat):Prop:=q<w.heap.size∧∀i,γ.β i≠some q
theorem s0.v(y:Wi w0 γ w F):∀{d:Δ} {x:Value},s0 w0 γ w d x→Rep0 w (Hn γ w) x d.v0
 | .k v,x,h=>by
   have e:x=v:=h;subst e;exact Zg _
 | .ow A t,x,⟨⟨m,l,j⟩,u⟩=>zi (H:=Hn γ w) uf j (Lc A) l fun q hq=>by
    have:=y.kn t q (by rw[u,hq]);exact⟨this.2.1,this.2.2⟩
 | .rd A,x,⟨H,c,a⟩=>a.mono c fun _ _=>rfl
 | .rz Z A,x,⟨H,c,a⟩=>a.mono (fun q h=>(c q h).1) fun _ _=>rfl
 | .p _ _,x,_=> .any _
 | .sl _ _ _,x,_=> .any _
 | .f _,x,_=> .any _
 | .g _,_,h=>h.elim
 | .t _,_,h=>h.elim
theorem l0.v(g:Wi w0 γ w F):∀{ds:List Δ} {xs:List Value},l0 w0 γ w ds xs→aB w (Hn γ w) xs (ds.map Δ.v0)
 |[],[],_=>⟨rfl,fun j v x h=>by simp at h⟩
 |d::ds,x::xs,h=>by
  have f:=l0.v g h.2;refine⟨by simpa using f.1,fun j v y c a=>?_⟩;cases j with
  |zero=>simp at c a;subst c;subst a;exact s0.v g h.1
  |succ j=>exact f.2 j v y (by simpa using c) (by simpa using a)
 |[],_::_,h=>h.elim
 |_::_,[],h=>h.elim
def Δ.nt:Δ→Bool
 | .t _=>false
 |_=>true
theorem s2.v(a:Wi w0 γ w F):∀{d:Δ} {x:Value},s2 w0 γ w d x→d.nt=true→Rep0 w (Hn γ w) x d.v1
 | .g _,_,⟨xs,e,h⟩,_=>by subst e;exact .g xs _ (l0.v a h).1 (l0.v a h).2
 | .k _,_,h,_=>s0.v a (d:= .k _) h
 | .ow _ _,_,h,_=>s0.v a (d:= .ow _ _) h
 | .rd _,_,h,_=>s0.v a (d:= .rd _) h
 | .rz _ _,_,h,_=>s0.v a (d:= .rz _ _) h
 | .p _ _,_,h,_=>s0.v a (d:= .p _ _) h
 | .sl _ _ _,_,h,_=>s0.v a (d:= .sl _ _ _) h
 | .f _,_,h,_=>s0.v a (d:= .f _) h
 | .t _,_,_,h=>by cases h
theorem Gt.v{a:Act}(l:Wi w0 γ w F)(m:∀t d,R t=some d→s2 w0 γ w d (a.tmps.getD t undef)):∀{xs:List Operand} {ds:List Δ},Gt R xs=some ds→ds.all Δ.nt=true→aB w (Hn γ w) (xs.map a.eval) (ds.map Δ.v1)
 |[],ds,h,_=>by cases h;exact⟨rfl,fun j v x h=>by simp at h⟩
 |x::xs,ds,h,ha=>by
  unfold Gt at h;split at h
  ·rename_i d A z u;cases h;simp only[iI,dA]at ha;have g:=Gt.v l m u ha.2;refine⟨by simpa using g.1,fun j v y f c=>?_⟩;cases j with
   |zero=>simp at f c;subst f;subst c;exact s2.v l ((rd1.lX z).ev m) ha.1
   |succ j=>exact g.2 j v y (by simpa using f) (by simpa using c)
  ·cases h
def Δ.q0:Δ→Bool
 | .k (.bool _)| .k (.int _ _)| .rd _=>true
 |_=>false
def Δ.q1:Δ→Bool
 | .g ds=>ds.all Δ.q0
 |d=>d.q0
def Δ.q2:Δ→Bool
 | .t ds=>ds.all Δ.q1
 |d=>d.q1
theorem Zh(c:∀q,H q→q<w.heap.size∧∀i,γ.β i≠some q){d:Δ}(h:Rep0 w H x d.v0)(hq:d.q0=true):s0 w0 γ w d x:=by
 unfold Δ.q0 at hq;split at hq
 ·exact(Rep.up (ov:=fun _=>none) h).qH
 ·exact(Rep.up (ov:=fun _=>none) h).dU
 ·exact⟨H,c,h⟩
 ·cases hq
theorem v0_l{H:Nat→Prop}(a:∀q,H q→q<w.heap.size∧∀i,γ.β i≠some q):∀{ds:List Δ} {xs:List Value},aB w H xs (ds.map Δ.v0)→ds.all Δ.q0=true→l0 w0 γ w ds xs
 |[],[],_,_=>trivial
 |d::ds,x::xs,h,hq=>by
  simp only[iI,dA]at hq;exact⟨Zh (w0:=w0) a (h.2 0 x _ rfl rfl) hq.1,v0_l a ⟨by simpa using h.1,fun j v y f c=>h.2 (j+1) v y (by simpa using f) (by simpa using c)⟩ hq.2⟩
 |[],_::_,h,_=>absurd h.1 sy
 |_::_,[],h,_=>absurd h.1 sy
theorem v1_s(a:∀q,H q→q<w.heap.size∧∀i,γ.β i≠some q):∀{d:Δ} {x:Value},Rep0 w H x d.v1→d.q1=true→s1 w0 γ w d x
 | .g ds,x,h,hq=>by
   obtain⟨vs,e,hv⟩:=(Rep.up (ov:=fun _=>none) h).GR;exact⟨vs,e,v0_l (w0:=w0) a ⟨hv.1,hv.2⟩ hq⟩
 | .k v,x,h,hq=>Zh (w0:=w0) (d:= .k v) a h hq
 | .rd A,x,h,hq=>Zh (w0:=w0) (d:= .rd A) a h hq
 | .ow _ _,_,_,h=>by cases h
 | .p _ _,_,_,h=>by cases h
 | .rz _ _,_,_,h=>by cases h
 | .sl _ _ _,_,_,h=>by cases h
 | .f _,_,_,h=>by cases h
 | .t _,_,_,h=>by cases h
theorem v1_l{H:Nat→Prop}(a:∀q,H q→q<w.heap.size∧∀i,γ.β i≠some q):∀{ds:List Δ} {xs:List Value},aB w H xs (ds.map Δ.v1)→ds.all Δ.q1=true→l1 w0 γ w ds xs
 |[],[],_,_=>trivial
 |d::ds,x::xs,h,hq=>by
  simp only[iI,dA]at hq;exact⟨v1_s (w0:=w0) a (h.2 0 x _ rfl rfl) hq.1,v1_l a ⟨by simpa using h.1,fun j v y f c=>h.2 (j+1) v y (by simpa using f) (by simpa using c)⟩ hq.2⟩
 |[],_::_,h,_=>absurd h.1 sy
 |_::_,[],h,_=>absurd h.1 sy
theorem v2_s(a:∀q,H q→q<w.heap.size∧∀i,γ.β i≠some q):∀{d:Δ} {x:Value},Rep0 w H x d.v2→d.q2=true→s2 w0 γ w d x
 | .t ds,x,h,hq=>by
   obtain⟨vs,e,hv⟩:=(Rep.up (ov:=fun _=>none) h).RU;exact⟨vs,e,v1_l (w0:=w0) a ⟨hv.1,hv.2⟩ hq⟩
 | .g ds,x,h,hq=>v1_s (w0:=w0) (d:= .g ds) a h hq
 | .k v,x,h,hq=>Zh (w0:=w0) (d:= .k v) a h hq
 | .rd A,x,h,hq=>Zh (w0:=w0) (d:= .rd A) a h hq
 | .ow _ _,_,_,h=>by cases h
 | .p _ _,_,_,h=>by cases h
 | .rz _ _,_,_,h=>by cases h
 | .sl _ _ _,_,_,h=>by cases h
 | .f _,_,_,h=>by cases h
def V.nof:V→Bool
 | .o _ _ _=>false
 | .fr _=>false
 |_=>true
variable{e:Array Edge}
theorem pG{a:Act}{w:World}(c:Jb Tryz.prog f=true):(execOp a.eval (⟨dst,.call ⟨.value (.func f),args,A7⟩,t,p,e,gd⟩:Oper)).run Tryz.prog w= .ok (.enter f (args.toList.map a.eval).toArray) w:=by
 unfold Jb at c;split at c
 ·rename_i fn g;simp only[dA,Bool.not_eq_true']at c;have j:fn.name≠ "runtime.NumGoroutine" :=by simpa using c.1
  have hb:¬(fn.body=none):=by intro e;rw[e]at c;cases c.2
  have yJ:(args.toList.map a.eval).toArray=args.map a.eval:=by apply Array.ext';simp
  rw[yJ];simp[execOp,resolve,Deferred.ofValue,invoke,callFunc,g,j,hb,show a.eval (.func f)= .func (.func f) #[] #[]from rfl]
 ·cases c
variable{ds:List Δ}{vs:List V}
theorem pf{d:Δ}{r:V}(c:aT f vs r)(hx:Gt R args.toList=some ds:=by exact rfl)(hv:ds.map Δ.v1=vs:=by rfl)(z:d.v2=r:=by rfl)(ha:ds.all Δ.nt=true:=by rfl)(hq:d.q2=true:=by rfl)(hm:r.G5=false:=by rfl)(l:V.nof r=true:=by rfl)(A:Jb Tryz.prog f=true:=by kernel_rfl):Ok Tryz.prog w0 N ⟨dst,.call ⟨.value (.func f),args,A7⟩,t,p,e,gd⟩ i R Bx d none:=⟨fun Q γ a w F K hz g H E J hK=>by
 have C:=(c.to0 hm) w (Hn γ w) _ trivial (TJ.mono g.j (fun q h=>⟨eu h g.bel.size,fun i m=>by have:=(g.bn i q m).1;omega⟩) fun q h=>g.bel.block q h) (fun q h=>h.1) (hv▸Gt.v g E hx ha);unfold Oper.wp;rw[pG A,Oper.upon_enter];refine C.mono ?_;rintro e w' ⟨v,rfl,hb,L,G,h⟩;rcases h with h|⟨e,sz,cs,n,xs,u,_⟩|⟨I,u,_⟩
 ·have y:=g.Tu (below_le g hb);rw[←z]at h;exact hK γ v w' (.of hb) hb (y.sub fun _ h=>h.1) (v2_s (fun q hq=>by
   rcases hq with hq|hq
   ·exact⟨eu hq.1 hb.size,hq.2⟩
   ·have:=G q hq;exact⟨this.2,fun i m=>by have:=(g.bn i q m).2;omega⟩) h hq) fun b h=>by cases h
 ·rw[u]at l;cases l
 ·rw[u]at l;cases l⟩
theorem ok_bs{f:TypeId}{n:Nat}{ps:Array (Nat×Operand)}(h:∀(γ:Gh) (w:World) (a:Act),(∀t d,R t=some d→s2 w0 γ w d (a.tmps.getD t undef))→∃(xs:List Value) (c:TypeInfo) (z:Value),Tryz.prog.underlying ty=some (.slice f)∧Tryz.prog.info? f=some c∧c.zero=some z∧¬n*c.size>2^24∧¬n*c.size=0∧Instr.fill (fun i=>some (i*c.size,c.size)) ((Array.range (n*c.size)).map (z.cells[· %z.cells.size]!)) (ps.map fun(i,x)=>(i,a.eval x)).toList=some xs.toArray∧l0 w0 γ w ds xs):Ok Tryz.prog w0 N ⟨dst,.buildSlice ty n ps,t,p,e,gd⟩ i R Bx (.sl i n n) (some (f,ds)):=⟨fun Q γ a w F K hz m y u L hK=>by
 obtain⟨xs,c,z,J,I,H,G,E,C,A⟩:=h γ w a u;obtain⟨l,hb,j⟩:=Le m y (.cells xs.toArray f);refine wp_buildSlice ty f n ps rfl xs.toArray c z J I H G E C ?_;exact hK _ _ _ l hb j ⟨_,Cj _ _ _,rfl⟩ fun b g=>by
  cases g;exact⟨_,xs,Cj _ _ _,heap_alloc_new w _,l0.up m l A⟩⟩
theorem sl_rep(f:Wi w0 γ w F){n:Nat}{bt:TypeId}(h:s2 w0 γ w (.sl j n n) x)(hb:bx w0 γ w j (bt,ds))(hz:0<sz)(hl:ds.length=n*sz)(E:n≤1000000):Rep0 w (fun q=>q<w.heap.size) x (.l sz (ds.map Δ.v0)):=by
 obtain⟨b,m,rfl⟩:=h;obtain⟨q,xs,C,A,g⟩:=hb;obtain rfl:b=q:=dS (m.symm.trans C);have hv:=l0.v f g;have u:xs.length=ds.length:=g.len;refine .l _ n n sz _ (fun j=>xs.getD j undef) b 0 hz (by simpa using hl) (by unfold maxLen;omega) (aY _) (.inr ⟨rfl,(f.bn j b m).2⟩) (fun k z=>?_) (fun k y c=>?_)
 ·have a:k<xs.length:=by simp at z;omega
  rw[eY];exact vY A (by simp[List.getD,bC a])
 ·have a:k<xs.length:=by
   have:=(iR.1 c).1;simp at this;omega
  exact(hv.2 k (xs.getD k undef) y (by simp[List.getD,bC a]) c).mono (fun q hq=>hq.1) fun _ _=>rfl
theorem pfs{s:Nat}{n:Nat}{bt:TypeId}{k:IntKind}{z:Int}(c:aT f [.l sz vs] (.i k z))(hx:R s=some (.sl j n n):=by exact rfl)(hb:lk Bx j=some (bt,ds):=by exact rfl)(hv:ds.map Δ.v0=vs:=by rfl)(hz:Nat.blt 0 sz=true:=by rfl)(hl:ds.length=n*sz:=by rfl)(u:Nat.ble n 1000000=true:=by rfl)(y:Jb Tryz.prog f=true:=by kernel_rfl):Ok Tryz.prog w0 N ⟨dst,.call ⟨.value (.func f),#[.tmp s],A7⟩,t,p,e,gd⟩ i R Bx (.k (.int k z)) none:=⟨fun Q γ a w F K _ g E C G hK=>by
 have m:=sl_rep g (C s _ hx) (G j _ hb) (Nat.blt_eq▸hz) hl (qY u);rw[hv]at m;have A:=Io (w:=w) (vs:=[a.eval (.tmp s)]) c (TO.up g.j g.bel) (fun q h=>h) (rp1 m);unfold Oper.wp;rw[pG y,Oper.upon_enter];refine A.mono ?_;rintro e w' ⟨rfl,hb⟩;exact hK γ _ w' (.of hb) hb ((g.Tu (below_le g hb)).sub fun _ h=>h.1) rfl fun b h=>by cases h⟩
theorem CB{x y:Operand}{s c:Bool}{l d2 j f:Δ}(hx:lX R x (.g [.k (.bool s),l,d2]))(F:lX R y (.g [.k (.bool c),j,f]))(h1:l.w=true)(h2:d2.w=true)(I:j.w=true)(H:f.w=true)(hu:Tryz.prog.underlying ty=some (.slice 27):=by kernel_rfl):Ok Tryz.prog w0 N ⟨dst,.buildSlice ty 2 #[(0,x),(1,y)],t,p,e,gd⟩ i R Bx (.sl i 2 2) (some (27,[.k (.bool s),l,d2,.k (.bool c),j,f])):=
 ok_bs fun γ w a u=>by
  obtain⟨xs,e1,q1⟩:=hx.ev u;obtain⟨z,J,q2⟩:=F.ev u;match xs,q1,z,q2 with
  |[A,x1,x2],q1,[y0,y1,O],q2=>
   obtain⟨a1,n1,c1,rfl⟩:=q1.2.1.L_ h1;obtain⟨M,n2,c2,rfl⟩:=q1.2.2.1.L_ h2;obtain⟨a3,E,c3,rfl⟩:=q2.2.1.L_ I;obtain⟨a4,C,L,rfl⟩:=q2.2.2.1.L_ H;have k1:A= .bool s:=q1.1;have k2:y0= .bool c:=q2.1;subst k1 k2;obtain⟨m,G⟩:∃m,Tryz.prog.info? 27=some m:=⟨_,rfl⟩;refine⟨[.bool s,.slice a1 n1 c1,.slice M n2 c2,.bool c,.slice a3 E c3,.slice a4 C L],_,.agg #[.bool false,.slice none 0 0,.slice none 0 0],hu,rfl,rfl,dc,dc,?_,rfl,q1.2.1,q1.2.2.1,rfl,q2.2.1,q2.2.2.1,trivial⟩;simp only[List.map_toArray,dI,fJ,e1,J];kernel_rfl
end
section
theorem Ir{p q:Nat→Bool}:∀(l:List Nat) (x:Nat),(∀y,q y=true→p y=true)→x∈l→p x=true→q x=false→(l.filter q).length<(l.filter p).length
 |[],x,_,hx,_,_=>by simp at hx
 |y::l,x,h,hx,f,hq=>by
  have hle:∀l:List Nat,(l.filter q).length≤(l.filter p).length:=fun l=>by
   induction l with
   |nil=>exact aY _
   |cons z l c=>
    simp only[List.filter_cons];by_cases a:q z=true
    ·rw[au a,au (h z a)];simp only[dX];omega
    ·rw[ah a];split
     ·simp only[dX];omega
     ·exact c
  simp only[List.filter_cons];rcases dZ.1 hx with rfl|hx
  ·rw[au f,hq];have:=hle l;simp only[aJ,if_false,dX];omega
  ·have c:=Ir l x h hx f hq;by_cases a:q y=true
   ·rw[au a,au (h y a)];simp only[dX];omega
   ·rw[ah a];split
    ·simp only[dX];omega
    ·exact c
variable{j:Nat}{ops:Array Oper}{o:Oper}{Q:Exit→Act→World→Prop}
theorem Gu{listed:Array Bool}{i:Nat}(d:Bool):(listed.setIfInBounds i true).getD j d=if i=j∧i<listed.size then true else listed.getD j d:=by
 by_cases a:i=j
 ·subst a;by_cases hs:i<listed.size
  ·simp[hs]
  ·simp[hs]
 ·rw[ah (fun h=>a h.1)];simp only[lH,Array.getElem?_setIfInBounds_ne a]
def Zi(md:Region.Mode)(ops:Array Oper):Bool:=(List.range ops.size).all fun j=>((ops[j]?).map fun o=>o.after.all fun e=>!Region.binds md e||decide (e.on<j)).getD true
variable{md:Region.Mode}
theorem QE(h:Zi md ops=true)(c:ops[j]? =some o):∀e,e∈o.after→Region.binds md e=true→e.on<j:=fun e l hb=>by
 have g:j<ops.size:=(pW.1 c).1;have a:=dh.1 h j (gQ.2 g);rw[c]at a;simp only[kZ,jJ]at a;have f:=Array.all_eq_true_iff_forall_mem.1 a e l;rw[hb]at f;simpa using f
theorem Iu{P:Program}(I:Array Bool→Act→World→Prop)(T:Zi md ops=true)
 (hstep:∀listed a w i o,I listed a w→ops[i]? =some o→listed.getD i true=false→(∀e,e∈o.after→Region.binds md e=true→listed.getD e.on false=true)→wpOp P ops Q i (I (listed.setIfInBounds i true)) a w)
 (hfin:∀listed a w,I listed a w→(∀j,j<ops.size→listed.getD j true=true)→Q .normal a w):
 ∀(f:Nat) (listed:Array Bool) (a:Act) (w:World),listed.size=ops.size→((List.range ops.size).filter fun i=>!listed.getD i true).length≤f→I listed a w→wpAny P md ops Q f listed a w:=by
 have all:∀listed:Array Bool,listed.size=ops.size→Region.ready md ops listed=[]→∀j,j<ops.size→listed.getD j true=true:=fun listed z E j=>by
  induction j using Nat.strongRecOn with
  |_ j C=>
   intro u;cases hl:listed.getD j true with
   |true=>rfl
   |false=>
    have m:j∈Region.ready md ops listed:=by
     have J:ops[j]? =some ops[j]:=sF u;refine mem_ready.2 ⟨hl,ops[j],J,fun e O G=>?_⟩;have l:=QE T J e O G;have g:=C e.on l om;simp only[lH,sF (show e.on<listed.size by omega),jJ]at g ⊢;exact g
    rw[E]at m;cases m
 intro f
 induction f with
 |zero=>
  intro listed a w z L A;have h0:∀j,j<ops.size→listed.getD j true=true:=fun j u=>by
   cases hl:listed.getD j true with
   |true=>rfl
   |false=>
    have m:j∈(List.range ops.size).filter fun i=>!listed.getD i true:=List.mem_filter.2 ⟨gQ.2 u,by rw[hl];rfl⟩
    rw[nz (Nat.le_zero.1 L)]at m;cases m
  refine⟨?_,hfin _ _ _ A h0⟩;refine List.eq_nil_iff_forall_not_mem.2 fun j u=>?_
  obtain⟨l,o,g,_⟩:=mem_ready.1 u;rw[h0 j (pW.1 g).1]at l;cases l
 |succ f C=>
  intro listed a w z L A;refine⟨fun E=>hfin _ _ _ A (all listed z E),fun i N=>?_⟩;obtain⟨l,o,g,U⟩:=mem_ready.1 N;have F:i<ops.size:=(pW.1 g).1;refine wpOp_mono (fun Y w' H=>C _ Y w' (by simp[z]) ?_ H) (hstep listed a w i o A g l U);have:=Ir (p:=fun i=>!listed.getD i true) (q:=fun j=>!(listed.setIfInBounds i true).getD j true) (List.range ops.size) i (fun y M=>?_) (gQ.2 F) (by show(!listed.getD i true)=true;rw[l];rfl) (by show(!(listed.setIfInBounds i true).getD i true)=false;rw[Gu,au ⟨rfl,om⟩];rfl)
  ·omega
  ·have c:(!(listed.setIfInBounds i true).getD y true)=true:=M;rw[Gu]at c;split at c
   ·cases c
   ·exact c
theorem TD{P:Program}{i:Nat}{K:Act→World→Prop}{a:Act}{w:World}(c:ops[i]? =some o)(f:Region.wanted o (yielded ops a.tmps)=true)(h:o.wp P a w K Q):wpOp P ops Q i K a w:=by
 unfold wpOp;simp only[c];rw[au f];exact .inl h
inductive Sp where
 |v (d:Δ) (nb:Option (TypeId×List Δ))
 |st (j:Nat) (b:TypeId×List Δ)
def Sp.d:Sp→Δ
 | .v d _=>d
 | .st _ _=> .k undef
structure OkS(P:Program)(w0:World)(N:Nat)(o:Oper)(R:Nat→Option Δ)(j:Nat)(b:TypeId×List Δ):Prop where
 ok:∀(Q:Exit→Act→World→Prop) (γ:Gh) (a:Act) (w:World) (F:Nat→Prop) (K:Act→World→Prop),a.tmps.size=N→Wi w0 γ w F→(∀t d,R t=some d→s2 w0 γ w d (a.tmps.getD t undef))→(∃b0,bx w0 γ w j b0∧b0.1=b.1∧b0.2.length=b.2.length)→
  (∀w',St γ w γ w'→(∀q,γ.β j≠some q→w'.heap[q]? =w.heap[q]?)→Wi w0 γ w' F→bx w0 γ w' j b→K a w')→o.wp P a w K Q
variable {w0 w w':World} {γ:Gh} {N c:Nat} {E:En} {Bx:Bs} {a:Act} {P:Program}
theorem ok_st{dst:Option Tmp}{ty t:TypeId}{x y:Operand}{p:String}{e:Array Edge}{gd:Option (Nat×Bool)}{R:Nat→Option Δ}{bt:TypeId}{es:List Δ}(hx:lX R x (.p j 0))(O:lX R y (.g es))(Z:(P.info? ty).map (·.size)=some es.length)(h1:es.all Δ.c1=true)(hd:dst=none):OkS P w0 N ⟨dst,.store ty x y,t,p,e,gd⟩ R j (bt,es):=⟨fun Q γ a w F K hz u L hb hK=>by
 obtain⟨q,hq,ex⟩:=hx.ev L;obtain⟨I,⟨M,xs,z,E,G⟩,e1,e2⟩:=hb;obtain rfl:q=M:=dS (hq.symm.trans z);obtain⟨l,ey,f⟩:=O.ev L;have Y:xs.length=I.2.length:=G.len;have C:l.length=es.length:=f.len;have e2':I.2.length=es.length:=e2;have H:I.1=bt:=e1;rw[H]at E;refine wp_store_row ty x y rfl q l.toArray ex ey bt xs.toArray E (by rw[Z];simp[C]) (by simp;omega) (by
  have:=f.one h1;simpa using this) ?_
 subst hd;have T:=u.bn j q hq;have c:bT w (fun k=>k=q) (w.setRow q l.toArray):=⟨rfl,rfl,rfl,sy,fun k _ A=>setRow_other w q k _ A⟩;have J:St γ w γ (w.setRow q l.toArray):=⟨c.size,fun k m U=>c.block k m fun e=>U j (e▸hq),fun _ _ h=>h,fun _ _ h=>h,fun _ _ h=> .inl h⟩;exact hK _ J (fun k m=>setRow_other w q k _ fun e=>m (e▸hq)) (u.Tu (w':=w.setRow q l.toArray) ⟨rfl,rfl,rfl,c.size,fun k m=>c.block k (eu m u.bel.size) om⟩) ⟨q,l,hq,setRow_heap w q xs.toArray _ _ _ E,l0.up u J f⟩⟩
def unst(Ss:List Sp)(Bx:Bs):Bs:=Bx.filter fun p=>Ss.all fun s=>match s with| .st j _=>!Nat.beq j p.1|_=>true
def bxAt(c:Nat)(Bx:Bs)(Ss:List Sp)(o:Oper)(j:Nat)(b:TypeId×List Δ):Prop:=∃ds:List Δ,(lk Bx j=some (b.1,ds)∨∃k d,j=c+k∧Ss[k]? =some (.v d (some (b.1,ds)))∧(o.after.any fun e=>Region.binds .any e&&e.on==k)=true)∧ds.length=b.2.length
def QF(P:Program)(w0:World)(N c:Nat)(E:En)(Bx:Bs)(S0:List Sp):Nat→List Oper→List Rl→List Sp→Prop
 |j,o::os,r::rs,s::ss=>(match s with
  | .v d b=>Ok P w0 N o (c+j) (dep E (S0.map Sp.d) r) (unst S0 Bx) d b
  | .st k b=>OkS P w0 N o (dep E (S0.map Sp.d) r) k b∧bxAt c Bx S0 o k b)∧QF P w0 N c E Bx S0 (j+1) os rs ss
 |_,[],[],[]=>True
 |_,_,_,_=>False
def spB(l:List Oper)(n N:Nat):Bool:=decide (l.length=n)&&Zi .any l.toArray&&((List.range n).all fun i=>match l[i]? with
 |some o=>(match o.dst with
  |some k=>decide (k<N)&&(List.range n).all fun j=>decide (i=j)||(match l[j]? with|some p=>p.dst != some k|none=>false)
  |none=>true)
 |none=>false)
def ssB(l:List Oper)(Ss:List Sp):Bool:=(List.range Ss.length).all fun i=>match l[i]?,Ss[i]? with
 |some o,some (.v _ _)=>o.dst.isSome
 |some o,some (.st j _)=>o.dst.isNone&&(List.range Ss.length).all fun k=>decide (i=k)||(match Ss[k]? with|some (.st m _)=>!Nat.beq j m|_=>true)
 |_,_=>false
def gB(l:List Oper)(Ss:List Sp):Bool:=(List.range Ss.length).all fun i=>match l[i]? with
 |some o=>(match o.guard with
  |none=>true
  |some (j,want)=>match l[j]?,Ss[j]? with
   |some p,some (.v (.k (.bool b)) _)=>p.dst.isSome&&(b==want)&&(o.after.any fun e=>Region.binds .any e&&e.on==j)
   |_,_=>false)
 |none=>true
def sL:List Oper→List Sp→En
 |o::os,.v d _::ss=>match o.dst with|some k=>(k,d)::sL os ss|none=>sL os ss
 |_::os,.st _ _::ss=>sL os ss
 |_,_=>[]
def Sp.n:Sp→Option (TypeId×List Δ)
 | .v _ nb=>nb
 | .st _ _=>none
def stL:List Sp→Bs
 |[]=>[]
 | .st j b::ss=>(j,b)::stL ss
 | .v _ _::ss=>stL ss
def rM(l:List Oper)(n:Nat)(rs:List Rl):Bool:=(List.range n).all fun j=>(rs.getD j []).all fun p=>match p.2 with
 |some k=>decide (k<n)&&(match l[k]? with|some o=>o.dst==some p.1|none=>false)&&(match l[j]? with|some o=>o.after.any fun e=>Region.binds .any e&&e.on==k|none=>false)
 |none=>(List.range n).all fun m=>match l[m]? with|some o=>o.dst != some p.1|none=>true
theorem Iw{α:Type}:∀{r:List (Nat×α)} {t:Nat} {x:α},lk r t=some x→(t,x)∈r
 |[],_,_,h=>by cases h
 |p::r,t,x,h=>by
  rcases dK h with ⟨rfl,rfl⟩|⟨_,h⟩
  ·exact jM
  ·exact jD _ (Iw h)
theorem Ll{z:List Sp}:∀{Bx:Bs} {j:Nat} {b:TypeId×List Δ},lk (unst z Bx) j=some b→lk Bx j=some b∧∀(k:Nat) (a:TypeId×List Δ),z[k]? ≠some (.st j a)
 |[],_,_,h=>by cases h
 |(i,x)::r,j,b,h=>by
  unfold unst at h;rw[List.filter_cons]at h;split at h
  ·rename_i u;have f:∀(k:Nat) (a:TypeId×List Δ),z[k]? ≠some (Sp.st i a):=fun k a l=>by
    have:=dh.1 u _ (dP l);simp at this
   rcases dK h with ⟨rfl,rfl⟩|⟨g,h⟩
   ·exact⟨by unfold lk;rw[Nat.beq_refl];rfl,f⟩
   ·obtain⟨y,c⟩:=Ll h;exact⟨by unfold lk;rw[wM g];exact y,c⟩
  ·rename_i u;obtain⟨y,c⟩:=Ll (Bx:=r) h;refine⟨?_,c⟩;by_cases e:i=j
   ·subst e;exfalso;refine u (dh.2 fun s A=>?_);cases s with
    |v _ _=>rfl
    |st m a=>
     obtain⟨k,l⟩:=List.getElem?_of_mem A;simp only[Bool.not_eq_true'];by_cases e:m=i
     ·subst e;exact absurd l (c k a)
     ·exact wM e
   ·unfold lk;rw[wM e];exact y
theorem QF.get{S0:List Sp}:∀{m:Nat} {l:List Oper} {rs:List Rl} {ss:List Sp} {j:Nat} {o:Oper},QF P w0 N c E Bx S0 m l rs ss→l[j]? =some o→∃s,ss[j]? =some s∧(match s with
 | .v d b=>Ok P w0 N o (c+(m+j)) (dep E (S0.map Sp.d) (rs.getD j [])) (unst S0 Bx) d b
 | .st k b=>OkS P w0 N o (dep E (S0.map Sp.d) (rs.getD j [])) k b∧bxAt c Bx S0 o k b)
 |m,g::os,r::rs,s::ss,0,o,h,a=>by
  simp at a;subst a;exact⟨s,rfl,h.1⟩
 |m,g::os,r::rs,s::ss,j+1,o,h,a=>by
  obtain⟨f,y,u⟩:=QF.get (j:=j) h.2 (by simpa using a);refine⟨f,by simpa using y,?_⟩;rw[show c+(m+(j+1))=c+(m+1+j)from om];exact u
 |_,[],_,_,_,_,_,a=>by simp at a
 |_,_::_,[],_,_,_,h,_=>by simp[QF]at h
 |_,_::_,_::_,[],_,_,h,_=>by simp[QF]at h
def cbx(c:Nat)(Bx:Bs)(Ss:List Sp)(listed:Array Bool)(i:Nat)(b:TypeId×List Δ):Prop:=
 (∃k:Nat,Ss[k]? =some (Sp.st i b)∧listed.getD k true=true)∨((∀(k:Nat) (b':TypeId×List Δ),Ss[k]? =some (Sp.st i b')→listed.getD k true=false)∧((∃k d,i=c+k∧Ss[k]? =some (.v d (some b))∧listed.getD k true=true)∨lk Bx i=some b))
theorem QG:∀{l:List Oper} {ss:List Sp} {t:Nat} {d:Δ},lk (sL l ss) t=some d→∃(j:Nat) (o:Oper) (nb:Option (TypeId×List Δ)),l[j]? =some o∧o.dst=some t∧ss[j]? =some (.v d nb)
 |[],_,_,_,h=>by simp[sL,lk]at h
 |o::os,[],_,_,h=>by simp[sL,lk]at h
 |o::os,.st _ _::ss,t,d,h=>by
  obtain⟨j,c,nb,u,m,g⟩:=QG (l:=os) (ss:=ss) (by simpa[sL]using h);exact⟨j+1,c,nb,by simpa using u,m,by simpa using g⟩
 |o::os,.v z f::ss,t,d,h=>by
  have a:lk (sL os ss) t=some d→∃(j:Nat) (c:Oper) (nb:Option (TypeId×List Δ)),(o::os)[j]? =some c∧c.dst=some t∧(Sp.v z f::ss)[j]? =some (.v d nb):=fun h=>by
   obtain⟨j,c,nb,u,m,g⟩:=QG (l:=os) (ss:=ss) h;exact⟨j+1,c,nb,by simpa using u,m,by simpa using g⟩
  unfold sL at h;split at h
  ·rename_i k y;rcases dK h with ⟨rfl,rfl⟩|⟨_,h⟩
   ·exact⟨0,o,f,rfl,y,rfl⟩
   ·exact a h
  ·exact a h
theorem Zj:∀{l:List Oper} {ss:List Sp} {j t:Nat} {o:Oper} {d:Δ} {nb:Option (TypeId×List Δ)},l[j]? =some o→o.dst=some t→ss[j]? =some (.v d nb)→(t,d)∈sL l ss
 |o::os,s::ss,0,t,m,d,nb,c,g,a=>by
  simp at c a;subst c a;simp[sL,g]
 |o::os,s::ss,j+1,t,m,d,nb,c,g,a=>by
  have f:=Zj (l:=os) (ss:=ss) (j:=j) (by simpa using c) g (by simpa using a);cases s with
  |st _ _=>simpa[sL]using f
  |v y u=>
   unfold sL;split
   ·exact jD _ f
   ·exact f
 |[],_,_,_,_,_,_,h,_,_=>by simp at h
 |_::_,[],_,_,_,_,_,_,_,h=>by simp at h
theorem Lm:∀{ss:List Sp} {i:Nat} {b:TypeId×List Δ},lk (stL ss) i=some b→∃k:Nat,ss[k]? =some (Sp.st i b)
 |[],_,_,h=>by cases h
 | .v _ _::ss,i,b,h=>by
   obtain⟨k,a⟩:=Lm (ss:=ss) h;exact⟨k+1,by simpa using a⟩
 | .st j b1::ss,i,b,h=>by
   rcases dK h with ⟨rfl,rfl⟩|⟨_,h⟩
   ·exact⟨0,rfl⟩
   ·obtain⟨k,a⟩:=Lm (ss:=ss) h;exact⟨k+1,by simpa using a⟩
theorem TE:∀{ss:List Sp} {k i:Nat} {b:TypeId×List Δ},ss[k]? =some (.st i b)→(i,b)∈stL ss
 |s::ss,0,i,b,h=>by simp at h;subst h;simp[stL]
 |s::ss,k+1,i,b,h=>by
  have a:=TE (ss:=ss) (k:=k) (by simpa using h);cases s with
  |v _ _=>simpa[stL]using a
  |st _ _=>exact jD _ a
 |[],_,_,_,h=>by simp at h
end
section
variable {w0 w w':World} {γ:Gh} {N c:Nat} {E:En} {Bx:Bs} {a:Act} {P:Program}
structure OI(w0:World)(N c n:Nat)(E:En)(Bx:Bs)(l:List Oper)(Ss:List Sp)(listed:Array Bool)(a:Act)(w:World)(γ:Gh):Prop where
 W:Wi w0 γ w (fun i=>c≤i∧(i<c+n→listed.getD (i-c) true=false))
 sz:a.tmps.size=N
 df:a.defers=[]
 ls:listed.size=n
 old:∀t d,lk E t=some d→(∀(k:Nat) (o:Oper),l[k]? =some o→o.dst≠some t)→s2 w0 γ w d (a.tmps.getD t undef)
 val:∀(k:Nat) (o:Oper) (t:Nat) (d:Δ) (nb:Option (TypeId×List Δ)),l[k]? =some o→o.dst=some t→Ss[k]? =some (.v d nb)→listed.getD k true=true→s2 w0 γ w d (a.tmps.getD t undef)
 box:∀i b,cbx c Bx Ss listed i b→bx w0 γ w i b
theorem Oe{id:Nat}{l:List Oper}{Q:Exit→Act→World→Prop}(n:Nat)(Ss:List Sp)(rs:List Rl)(hSn:Ss.length=n)(S:PS w0 N c E Bx γ a w)(hm:P.follows .mixedOrders=true)(hB:spB l n N=true)(hr:rM l n rs=true)
 (ops:QF P w0 N c E Bx Ss 0 l rs Ss) (hs:ssB l Ss=true) (hgB:gB l Ss=true)
 (fin:∀γ' a' w',PS w0 N (c+n) (sL l Ss++E) (stL Ss++(bL c 0 (Ss.map Sp.n)++Bx)) γ' a' w'→Q .normal a' w'):(Code.region id l.toArray true).wp P Q a w:=by
 subst hSn
 simp only[spB,dA,qW]at hB
 obtain⟨⟨hll,hbk⟩,hop⟩:=hB
 have op:∀(i:Nat) (o:Oper),l[i]? =some o→i<Ss.length∧∀k,o.dst=some k→k<N∧∀(j:Nat) (p:Oper),i≠j→l[j]? =some p→p.dst≠some k:=fun i o H=>by
  have G:i<Ss.length:=by have:=(iR.1 H).1;omega
  have z:=dh.1 hop i (gQ.2 G);rw[H]at z;refine⟨G,fun k f=>?_⟩;have g:=z;simp only[f,dA,qW]at g;refine⟨g.1,fun j p hij hp=>?_⟩;have F:j<Ss.length:=by have:=(iR.1 hp).1;omega
  have C:=dh.1 g.2 j (gQ.2 F);rw[hp]at C;simp only[Bool.or_eq_true,qW,ku,ne_eq]at C;exact C.resolve_left hij
 have ss:∀(i:Nat) (o:Oper) (s:Sp),l[i]? =some o→Ss[i]? =some s→match s with|Sp.v _ _=>o.dst.isSome=true|Sp.st j _=>o.dst=none∧∀(k:Nat) (J:TypeId×List Δ),k≠i→Ss[k]? ≠some (Sp.st j J):=fun i o s H A=>by
  have G:=(iR.1 A).1;have z:=dh.1 hs i (gQ.2 G);rw[H,A]at z;cases s with
  |v _ _=>exact z
  |st j b=>
   simp only[dA,Option.isNone_iff_eq_none]at z;refine⟨z.1,fun k J f hks=>?_⟩;have g:=dh.1 z.2 k (gQ.2 (iR.1 hks).1);rw[hks]at g;simp only[Bool.or_eq_true,qW,Nat.beq_refl,Bool.not_true,aJ,or_false]at g;exact f g.symm
 refine wp_region_any hm ?_
 have hb0:Below w.heap.size w {w with drawn:=w.drawn+1}:=⟨rfl,rfl,rfl,aY _,fun _ _=>rfl⟩
 have e0:∀j,j<Ss.length→(Array.replicate l.toArray.size false).getD j true=false:=fun j F=>by simp[show j<l.length from om]
 refine Iu (fun listed a w=>∃γ,OI w0 N c Ss.length E Bx l Ss listed a w γ) hbk ?_ ?_ _ _ a {w with drawn:=w.drawn+1} sy (by rw[show l.toArray.size=Ss.length from by simp;omega];exact bK (List.length_filter_le _ _) sy) ⟨γ,⟨(S.W.Tu (below_le S.W hb0)).sub fun i G=>G.1,S.sz,S.df,by simp;omega,fun t d h _=>s2.up S.W (.of hb0) (S.env t d h),fun k o t d nb z _ C T=>?_,fun i b h=>?_⟩⟩
 ·rintro listed a w1 i o ⟨γ1,I⟩ H hli Oa;rw[oQ]at H;obtain⟨G,hdst⟩:=op i o H;obtain⟨s,A,Z⟩:=ops.get H;rw[eY]at Z;have hil:i<listed.size:=by rw[I.ls];exact G
  have hset:∀j,(listed.setIfInBounds i true).getD j true=if i=j then true else listed.getD j true:=fun j=>by
   rw[Gu];by_cases e:i=j
   ·rw[au ⟨e,hil⟩,au e]
   ·rw[ah (fun h=>e h.1),ah e]
  have hdp:∀e,e∈o.after→Region.binds .any e=true→listed.getD e.on true=true:=fun e he hb=>Gs (Oa e he hb)
  have hR:∀t d,dep E (Ss.map Sp.d) (rs.getD i []) t=some d→s2 w0 γ1 w1 d (a.tmps.getD t undef):=fun t d ht=>by
   have z:=dh.1 hr i (gQ.2 G);unfold dep at ht;split at ht
   ·rename_i k f;have g:=dh.1 z _ (Iw f);simp only[dA,qW,H,Array.any_eq_true']at g;obtain⟨⟨C,T⟩,e,he,h5,h6⟩:=g;split at T
    ·rename_i o2 ho2;have h4':o2.dst=some t:=by simpa using T
     have h7:=hdp e he h5;rw[show e.on=k from by simpa using h6]at h7;rw[iU]at ht;obtain⟨s2',Y,hd2⟩:=jT.1 ht;have h8:=ss k o2 s2' ho2 Y;cases s2' with
     |v d' nb=>exact I.val k o2 t d nb ho2 h4' (hd2▸Y) h7
     |st j b=>rw[h8.1]at h4';cases h4'
    ·cases T
   ·rename_i f;have g:=dh.1 z _ (Iw f);refine I.old t d ht fun k o2 ho2=>?_
    have hk2:k<Ss.length:=by have:=(iR.1 ho2).1;omega
    have C:=dh.1 g k (gQ.2 hk2);rw[ho2]at C;simpa using C
   ·cases ht
  have hwt:Region.wanted o (yielded l.toArray a.tmps)=true:=by
   have z:=dh.1 hgB i (gQ.2 G);rw[H]at z;cases hg:o.guard with
   |none=>unfold Region.wanted;rw[hg]
   |some jw=>
    obtain⟨j,want⟩:=jw;simp only[hg]at z;split at z
    ·rename_i p b nb hp hsj;simp only[dA,Array.any_eq_true']at z;obtain⟨⟨g,C⟩,e,he,h5,h6⟩:=z;obtain⟨u,hu⟩:=yH.1 g;have h7:=hdp e he h5;rw[show e.on=j from by simpa using h6]at h7;have h8:=I.val j p u _ nb hp hu hsj h7;have h9:a.tmps.getD u undef= .bool b:=h8;exact(vN hg (by rw[oQ,hp];exact hu) I.sz h9 ((op j p hp).2 u hu).1).trans C
    ·cases z
  refine TD (by rw[oQ];exact H) hwt ?_;cases s with
  |v d nb=>
   have hds:=ss i o _ H A;obtain⟨t,ht⟩:=yH.1 hds;obtain⟨htN,htd⟩:=hdst t ht;refine Z.ok Q γ1 a w1 _ _ I.sz I.W ⟨om,fun _=>by rw[show c+i-c=i from om];exact hli⟩ hR (fun j b F=>?_) fun γ' v w' M hbw hW' hv hn=>⟨γ',hW'.sub fun j F=>⟨⟨F.1,fun h=>?_⟩,fun e=>?_⟩,?_,?_,by simpa using I.ls,fun u d1 hu hn1=>?_,fun k o2 u d1 nb1 z g C T=>?_,fun j b1 F=>?_⟩
   ·obtain⟨z,g⟩:=Ll F;exact I.box j b (.inr ⟨fun k J f=>absurd f (g k J),.inr z⟩)
   ·have g:=F.2 h;rw[hset]at g;split at g
    ·cases g
    ·exact g
   ·have g:=F.2 om;rw[hset,au om]at g;cases g
   ·rw[ht];show(a.tmps.setIfInBounds t v).size=N;simp[I.sz]
   ·rw[ht];exact I.df
   ·rw[ht,tJ (fun e=>hn1 i o H (by rw[ht,e]))];exact s2.up I.W M (I.old u d1 hu hn1)
   ·by_cases e:k=i
    ·subst e;rw[H]at z;cases z;rw[A]at C;cases C;rw[ht]at g;cases g;rw[ht,put_eq (by rw[I.sz];exact htN)];exact hv
    ·rw[hset,ah (Ne.symm e)]at T;rw[ht,tJ (fun e2=>htd k o2 (Ne.symm e) z (by rw[g,e2]))];exact s2.up I.W M (I.val k o2 u d1 nb1 z g C T)
   ·have same:∀b2,cbx c Bx Ss listed j b2→bx w0 γ' w' j b2:=fun b2 h=>(I.box j b2 h).up I.W M fun q hq=>hbw.block q (I.W.bn j q hq).2
    rcases F with ⟨k,f,y⟩|⟨O,F⟩
    ·have e:k≠i:=fun e=>by subst e;rw[A]at f;cases f
     rw[hset,ah (Ne.symm e)]at y;exact same b1 (.inl ⟨k,f,y⟩)
    ·have L:∀(k:Nat) (J:TypeId×List Δ),Ss[k]? =some (Sp.st j J)→listed.getD k true=false:=fun k J f=>by
      have:=O k J f;rw[hset]at this;split at this
      ·cases this
      ·exact this
     rcases F with ⟨k,d2,U,f,y⟩|F
     ·by_cases e:k=i
      ·subst e;rw[A]at f;cases f;rw[U];exact hn _ rfl
      ·rw[hset,ah (Ne.symm e)]at y;exact same b1 (.inr ⟨L,.inl ⟨k,d2,U,f,y⟩⟩)
     ·exact same b1 (.inr ⟨L,.inr F⟩)
  |st j b=>
   obtain⟨Z,ds,hat,hlen⟩:=Z;obtain⟨hdn,huni⟩:=ss i o _ H A;have hold:∃b0,bx w0 γ1 w1 j b0∧b0.1=b.1∧b0.2.length=b.2.length:=by
    have O:∀(k:Nat) (J:TypeId×List Δ),Ss[k]? =some (Sp.st j J)→listed.getD k true=false:=fun k J f=>by
     by_cases e:k=i
     ·rw[e];exact hli
     ·exact absurd f (huni k J e)
    rcases hat with z|⟨k,d,U,f,wP⟩
    ·exact⟨(b.1,ds),I.box j _ (.inr ⟨O,.inr z⟩),rfl,hlen⟩
    ·obtain⟨e,he,h5⟩:=Array.any_eq_true'.1 wP;simp only[dA,beq_iff_eq]at h5;have:=hdp e he h5.1;rw[h5.2]at this;exact⟨(b.1,ds),I.box j _ (.inr ⟨O,.inl ⟨k,d,U,f,this⟩⟩),rfl,hlen⟩
   have hput:∀v,a.put o.dst v=a:=fun v=>by rw[hdn];rfl
   refine Z.ok Q γ1 a w1 _ _ I.sz I.W hR hold fun w' M hbl hW' hbx=>⟨γ1,hW'.sub fun k f=>⟨f.1,fun h=>?_⟩,I.sz,I.df,by simpa using I.ls,fun u d1 hu hn1=>s2.up I.W M (I.old u d1 hu hn1),fun k o2 u d1 nb1 z g C T=>?_,fun m b1 F=>?_⟩
   ·have g:=f.2 h;rw[hset]at g;split at g
    ·cases g
    ·exact g
   ·have e:k≠i:=fun e=>by subst e;rw[A]at C;cases C
    rw[hset,ah (Ne.symm e)]at T;exact s2.up I.W M (I.val k o2 u d1 nb1 z g C T)
   ·have same:m≠j→∀b2,cbx c Bx Ss listed m b2→bx w0 γ1 w' m b2:=fun hne b2 h=>(I.box m b2 h).up I.W M fun q hq=>hbl q fun g=>hne (I.W.bi m j q hq g)
    rcases F with ⟨k,f,y⟩|⟨O,F⟩
    ·by_cases e:k=i
     ·subst e;rw[A]at f;cases f;exact hbx
     ·rw[hset,ah (Ne.symm e)]at y;exact same (fun e2=>huni k b1 e (e2▸f)) b1 (.inl ⟨k,f,y⟩)
    ·have hmj:m≠j:=fun e=>by
      have:=O i b (e▸A);rw[hset,au rfl]at this;cases this
     have L:∀(k:Nat) (J:TypeId×List Δ),Ss[k]? =some (Sp.st m J)→listed.getD k true=false:=fun k J f=>by
      have:=O k J f;rw[hset]at this;split at this
      ·cases this
      ·exact this
     rcases F with ⟨k,d2,U,f,y⟩|F
     ·have e:k≠i:=fun e=>by subst e;rw[A]at f;cases f
      rw[hset,ah (Ne.symm e)]at y;exact same hmj b1 (.inr ⟨L,.inl ⟨k,d2,U,f,y⟩⟩)
     ·exact same hmj b1 (.inr ⟨L,.inr F⟩)
 ·rintro listed a w1 ⟨γ1,I⟩ hall;have hall':∀j,j<Ss.length→listed.getD j true=true:=fun j F=>hall j (by simp;omega)
  refine fin γ1 a w1 ⟨I.W.sub fun i G=>⟨om,fun h=>om⟩,I.sz,I.df,fun t d ht=>?_,fun i b G=>?_⟩
  ·rcases ER ht with ht|⟨hn,ht⟩
   ·obtain⟨j,o,nb,z,g,C⟩:=QG ht;exact I.val j o t d nb z g C (hall' j (iR.1 C).1)
   ·refine I.old t d ht fun k o H hd=>?_
    obtain⟨f,_⟩:=op k o H;have T:=ss k o Ss[k] H (bC f);have h5:Ss[k]? =some Ss[k]:=bC f;generalize Ss[k]=s at T h5;cases s with
    |v d' nb=>exact hn _ (Zj H hd h5) rfl
    |st j J=>rw[T.1]at hd;cases hd
  ·refine I.box i b ?_;rcases ER G with G|⟨hn,G⟩
   ·obtain⟨k,f⟩:=Lm G;exact .inl ⟨k,f,hall' k (iR.1 f).1⟩
   ·refine .inr ⟨fun k J f=>absurd rfl (hn _ (TE f)),?_⟩;rcases ER G with G|⟨_,G⟩
    ·obtain⟨j,z,g⟩:=Lh G;rw[iU]at z;obtain⟨s,hs1,Y⟩:=jT.1 z;cases s with
     |v d nb=>
      have e:nb=some b:=Y;subst e;exact .inl ⟨j,d,om,hs1,hall' j (iR.1 hs1).1⟩
     |st _ _=>cases Y
    ·exact .inr G
 ·rw[e0 k (iR.1 C).1]at T;cases T
 ·rcases h with ⟨k,f,y⟩|⟨_,⟨k,d,_,f,y⟩|h⟩
  ·rw[e0 k (iR.1 f).1]at y;cases y
  ·rw[e0 k (iR.1 f).1]at y;cases y
  ·exact(S.box i b h).up S.W (.of hb0) fun q hq=>rfl
def PS.tg(_:PS w0 N c E Bx γ a w)(t:Nat):Nat:=match lk E t with
 |some (.p j _)=>j
 |_=>0
end
section
variable {w0 w w':World} {γ:Gh} {N c:Nat} {E:En} {Bx:Bs} {a:Act} {P:Program}
theorem DZ{ops:Array Oper}{rest:List Oper}{Q:Exit→Act→World→Prop}{dst:Option Tmp}{ty t:TypeId}{x y:Operand}{p:String}{e:Array Edge}{j:Nat}{bt:TypeId}{d1 d2 e1 e2:Δ}{ds:List Δ}(S:PS w0 N c E Bx γ a w)(hx:lX (lk E) x (.p j 0))(hb:lk Bx j=some (bt,d1::d2::ds))(Y:lX (lk E) y (.g [e1,e2]))(hi:(P.info? ty).map (·.size)=some 2)(h1:(e1.c1&&e2.c1)=true)(hd:dst=none)
 (next:∀O w',PS w0 N c E ((j,bt,e1::e2::ds)::Bx) γ O w'→wpList P ops Q rest O w'):wpList P ops Q (⟨dst,.store ty x y,t,p,e,none⟩::rest) a w:=by
 obtain⟨q,hq,ex⟩:=hx.ev S.env
 obtain⟨U,xs,G,L,m⟩:=S.box j _ hb
 obtain rfl:q=U:=dS (hq.symm.trans G)
 obtain⟨T,ey,f⟩:=Y.ev S.env
 simp only[dA]at h1
 match T,f,xs,m with
 |[u,v],f,F::x1::z,m=>
  have hu:=f.1.one h1.1;have hv:=f.2.1.one h1.2;have g1:=heap_setCell_same w q 0 (F::x1::z).toArray bt u L;have M:=heap_setCell_same (w.setCell ⟨q,0,none⟩ u) q 1 _ bt v g1;have e0:(((F::x1::z).toArray.setIfInBounds 0 u).setIfInBounds 1 v)=(u::v::z).toArray:=sy;rw[e0]at M;refine wpList_store_mid rfl ty x y rfl q 0 #[u,v] ex ey (fun k l=>?_) (by rw[hi];rfl) (by simp[hu,hv]) ?_
  ·have J:k<(F::x1::z).length:=by simp at l ⊢;omega
   rw[eY];exact⟨by rw[vY L (bC J)];rfl,by simp[World.frozen?,L]⟩
  subst hd;show wpList P ops Q rest (a.put none undef) ((w.setCell ⟨q,0,none⟩ u).setCell ⟨q,1,none⟩ v);have Z:=S.W.bn j q hq;have H:∀k,k≠q→((w.setCell ⟨q,0,none⟩ u).setCell ⟨q,1,none⟩ v).heap[k]? =w.heap[k]? :=fun k l=>(heap_setCell_other _ _ k v l).trans (heap_setCell_other _ _ k u l)
  have A:((w.setCell ⟨q,0,none⟩ u).setCell ⟨q,1,none⟩ v).heap.size=w.heap.size:=by rw[World.size_setCell,World.size_setCell]
  refine next _ _ ?_
  have C:St γ w γ ((w.setCell ⟨q,0,none⟩ u).setCell ⟨q,1,none⟩ v):=⟨by rw[A];exact aY _,fun k l hn=>H k fun e=>hn j (e▸hq),fun _ _ h=>h,fun _ _ h=>h,fun _ _ h=> .inl h⟩;refine⟨S.W.Tu (w':=(w.setCell ⟨q,0,none⟩ u).setCell ⟨q,1,none⟩ v) ⟨rfl,rfl,rfl,by rw[A];exact aY _,fun k l=>H k om⟩,S.sz,S.df,fun t d h=>s2.up S.W C (S.env t d h),fun i b h=>?_⟩;rcases dK h with ⟨rfl,rfl⟩|⟨I,h⟩
  ·exact⟨q,u::v::z,hq,M,s0.up S.W C f.1,s0.up S.W C f.2.1,l0.up S.W C m.2.2⟩
  ·exact(S.box i b h).up S.W C fun k l=>H k fun e=>I (S.W.bi i j q (e▸l) hq).symm
end
section
variable {w0 w w':World} {γ:Gh} {N i c:Nat} {R:Nat→Option Δ} {Bx:Bs} {F:Nat→Prop} {P:Program}
def isSl(P:Program)(ty:TypeId):Bool:=match P.underlying ty with
 |some (.slice _)=>true
 |_=>false
def slE(P:Program)(ty:TypeId)(s:Nat):Bool:=match P.underlying ty with
 |some (.slice e)=>(match P.info? e with
  |some ti=>Nat.beq ti.size s
  |none=>false)
 |_=>false
def cvB(P:Program)(src d:TypeId)(k:IntKind):Bool:=(P.underlying src).isSome&&(match P.underlying d with
 |some (.int k')=>decide (k'=k)
 |_=>false)
section
variable {dst:Option Tmp} {x y:Operand} {ty t:TypeId} {p:String} {e:Array Edge} {gd:Option (Nat×Bool)} {q k n m c' j s:Nat} {ad:Option Addr} {kk:IntKind} {z:Int} {d d2:Δ}
theorem Zk(hu:isSl P ty=true){n m:Nat}(w:World):(Builtin.len_ #[ty] t #[.slice ad n m]).run P w= .ok (.int .i64 (n:Int)) w:=by
 unfold isSl at hu;split at hu
 ·rename_i el a;simp[Builtin.len_,run_underlying a,goInt]
 ·cases hu
theorem ok_lk(h:lX R x (.k (.slice ad n m)))(hu:isSl P ty=true):Ok P w0 N ⟨dst,.call ⟨.builtin .len,#[x],#[ty]⟩,t,p,e,gd⟩ i R Bx (.k (.int .i64 (n:Int))) none:=
 wV fun γ w a c _=>by
  have f:a.eval x= .slice ad n m:=h.ev c;exact⟨_,by simp[execOp,resolve,invoke,builtin,f,Zk hu,Result.andThen],rfl⟩
theorem ok_cv{src:TypeId}{k1:IntKind}{r:Value}(h:lX R x (.k (.int k1 z)))(hu:cvB P src ty kk=true)(l:Value.int kk (kk.wrap z)=r):Ok P w0 N ⟨dst,.convert src ty x,t,p,e,gd⟩ i R Bx (.k r) none:=
 wV fun γ w a m _=>by
  have y:a.eval x= .int k1 z:=h.ev m;unfold cvB at hu;simp only[dA]at hu;obtain⟨u,f⟩:=hu;split at f
  ·rename_i g c;have e1:g=kk:=of_decide_eq_true f;subst e1;have j:P.intKind ty=g:=by simp[Program.intKind,c]
   have:=run_convert_int (P:=P) w src ty k1 z u (by rw[j];exact c);rw[j]at this;exact⟨_,by simp[execOp,y,this,Result.andThen],l⟩
  ·cases f
end
end
section
def Δ.wo:Δ→Option (List Nat)
 | .ow A _| .rd A| .rz _ A=>some A
 |_=>none
section
variable {w0 w:World} {γ:Gh}
def Row(γ:Gh)(w:World)(A:List Nat)(x:Value):Prop:=∃a c,∃b o:Nat,x= .slice a A.length c∧(A=[]∨a=some ⟨b,o,none⟩∧b<w.heap.size∧∀i,γ.β i≠some b)∧∀j,j<A.length→w.cell? ⟨b,o+j,none⟩=some (.int .u64 ((A.getD j 0:Nat):Int))
variable{A:List Nat}{x:Value}
theorem Row.rep{H:Nat→Prop}(C:∀q,H q→q<w.heap.size∧∀i,γ.β i≠some q)(h:Rep0 w H x (.l 1 (W A))):Row γ w A x:=by
 obtain⟨a,n,cap,f,b,o,rfl,_,hl,_,_,ha,z,y⟩:=(Rep.up (ov:=fun _=>none) h).vV;rw[aQ,aO]at hl;subst hl;refine⟨a,cap,b,o,rfl,?_,fun j m=>?_⟩
 ·rcases ha with c|⟨c,g⟩
  ·exact .inl (nz (by rw[←aQ,c];rfl))
  ·exact .inr ⟨c,C b g⟩
 ·have c:=z j (by rw[aQ];exact m);have g:=(Rep.up (ov:=fun _=>none) (y j (.i .u64 ((A.getD j 0:Nat):Int)) (by simp[W,List.getD,m]))).dU;rw[c,g]
theorem s0.row{F:Nat→Prop}(G:Wi w0 γ w F):∀{d:Δ} {x:Value},s0 w0 γ w d x→d.wo=some A→Row γ w A x
 | .ow A t,x,⟨h,E⟩,e=>by
   cases e;obtain⟨m,M,y⟩:=h;rcases y.2 with ⟨rfl,L⟩|⟨g,cap,cur,rfl,u,a,P,O,N,J⟩
   ·have I:A=[]:=nz (by have:=y.1;simp[Wv]at this;omega);subst I;exact⟨none,0,0,0,rfl,.inl rfl,fun j c=>by simp at c⟩
   ·have z:A.length=m:=by have:=y.1;simpa[Wv]using this
    subst z;have hb:=G.kn t g E;refine⟨_,cap,g,0,rfl,.inr ⟨rfl,hb.2⟩,fun j c=>?_⟩;have C:=congrArg (fun l=>l[j]?) J;rw[aO]at C;simp only[ou,c,if_true,Wv,iU]at C;have:=cell_of_row w g j cur _ (0,0) a;rw[eY,this,←pX,C];simp[c]
 | .rd A,x,⟨H,u,a⟩,e=>by cases e;exact Row.rep u a
 | .rz _ A,x,⟨H,u,a⟩,e=>by cases e;exact Row.rep (fun q hq=>(u q hq).1) a
 | .k _,_,_,e=>by cases e
 | .p _ _,_,_,e=>by cases e
 | .sl _ _ _,_,_,e=>by cases e
 | .f _,_,_,e=>by cases e
 | .g _,_,_,e=>by cases e
 | .t _,_,_,e=>by cases e
theorem wo_s0{d:Δ}(h:s2 w0 γ w d x)(a:d.wo=some A):s0 w0 γ w d x:=by
 unfold Δ.wo at a;split at a<;>first|exact h|cases a
def cellF(v:Value):Fx:=⟨fun γ w x=>∃ad,x= .pointer (some ad)∧ad.block<w.heap.size∧(∀i,γ.β i≠some ad.block)∧w.cell? ad=some v,true,fun hs ⟨ad,h1,h2,h3,h4⟩=>⟨ad,h1,eu h2 hs.sz,fun i hi=>(hs.nb i _ hi).elim (h3 i) fun h=>om,(World.cell?_of_block (hs.np _ h2 h3)).trans h4⟩,fun _ _ _ _ ⟨_,h,_⟩=>h▸rfl⟩
end
section
variable {w0:World} {N i:Nat} {R:Nat→Option Δ} {Bx:Bs} {P:Program} {dst:Option Tmp} {x y:Operand} {ty t:TypeId} {p:String} {e:Array Edge} {gd:Option (Nat×Bool)} {d:Δ} {A:List Nat} {kk:IntKind} {z:Int}
theorem Zl{o:Oper}{d:Δ}(h:∀(γ:Gh) (w:World) (a:Act) (F:Nat→Prop),Wi w0 γ w F→(∀t d,R t=some d→s2 w0 γ w d (a.tmps.getD t undef))→∃v,(execOp a.eval o).run P w= .ok (.value v) w∧s2 w0 γ w d v):Ok P w0 N o i R Bx d none:=⟨fun Q γ a w F K hz c l f m hK=>by
 obtain⟨v,j,g⟩:=h γ w a F c f;unfold Oper.wp;rw[j];exact hK γ v w (.rf _ _) (dQ w) (c.sub fun _ h=>h.1) g fun b hb=>by cases hb⟩
theorem D5(h:lX R x d)(hd:d.wo=some A)(hu:isSl P ty=true):Ok P w0 N ⟨dst,.call ⟨.builtin .len,#[x],#[ty]⟩,t,p,e,gd⟩ i R Bx (.k (.int .i64 (A.length:Int))) none:=
 Zl fun γ w a F f g=>by
  obtain⟨ad,c,b,o,j,_⟩:=s0.row f (wo_s0 (h.ev g) hd) hd;exact⟨_,by simp[execOp,resolve,invoke,builtin,j,Zk hu,Result.andThen],rfl⟩
theorem ok_iw(h:lX R x d)(hd:d.wo=some A)(E:lX R y (.k (.int kk z)))(hu:slE P ty 1=true)(hz:(decide (0≤z)&&decide (z<(A.length:Int)))=true):Ok P w0 N ⟨dst,.indexAddr ty x y,t,p,e,gd⟩ i R Bx (.f (cellF (.int .u64 ((A.getD z.toNat 0:Nat):Int)))) none:=
 Zl fun γ w a F I C=>by
  obtain⟨ad,c,b,o,M,l,L⟩:=s0.row I (wo_s0 (h.ev C) hd) hd;have J:a.eval y= .int kk z:=E.ev C;have g:=hz;simp only[dA,qW]at g;rcases l with rfl|⟨rfl,l⟩
  ·simp at g;omega
  have H:z.toNat<A.length:=om;refine⟨.pointer (some ⟨b,o+z.toNat,none⟩),?_,_,rfl,l.1,l.2,L _ H⟩;unfold slE at hu;split at hu
  ·rename_i el j;split at hu
   ·rename_i O m;have G:=Nat.eq_of_beq_eq_true hu;have u:P.elem ty=el:=by simp[Program.elem,j]
    have:=run_indexAt_slice (P:=P) w ty ⟨b,o,none⟩ A.length c kk z (by rw[u];exact j);rw[au g,u]at this;simp[execOp,M,J,this,sizeOf,typeInfo,m,G,Addr.add_lit,Result.andThen]
   ·cases hu
  ·cases hu
theorem ok_lf{v:Value}(h:lX R x (.f (cellF v)))(j:lN P ty=false)(hu:(P.underlying ty).isSome=true):Ok P w0 N ⟨dst,.load ty x,t,p,e,gd⟩ i R Bx (.k v) none:=
 Zl fun γ w a F z m=>by
  have h0:∃ad,a.eval x= .pointer (some ad)∧ad.block<w.heap.size∧(∀i,γ.β i≠some ad.block)∧w.cell? ad=some v:=h.ev m;obtain⟨ad,u,_,_,l⟩:=h0;obtain⟨y,c⟩:=yH.1 hu;have g:(isAgg ty).run P w= .ok false w:=by
   rw[←j];simp only[isAgg,lN,Sem.run_bind,run_underlying c,Result.andThen_ok,c];cases y<;>rfl
  exact⟨v,by simp[execOp,u,Instr.loadAt,Instr.sureAddr,loadVar,g,l],rfl⟩
end
variable{w0:World}{N c:Nat}{a:Act}{γ:Gh}{E:En}{Bx:Bs}
theorem PS.nl0{w:World}(S:PS w0 N c E Bx γ a w):PS w0 N (c+1) E Bx (γ.cal c fun _=>some none) a w:=by
 have l:St γ w (γ.cal c fun _=>some none) w:=⟨aY _,fun _ _ _=>rfl,fun _ _ h=>h,fun t x h=>?_,fun _ _ h=> .inl h⟩
 ·refine⟨⟨S.W.j,S.W.bel,S.W.bn,S.W.bi,fun t q h=>?_,fun t u q g f=>?_,fun i m=>⟨(S.W.fr i om).1,fun r y=>?_⟩⟩,S.sz,S.df,fun t d ht=>s2.up S.W l (S.env t d ht),fun i b m=>(S.box i b m).up S.W l fun _ _=>rfl⟩
  ·replace h:(if 4*c≤t∧t<4*c+4 then some none else γ.κ t)=some (some q):=h;split at h
   ·cases h
   ·exact S.W.kn t q h
  ·replace g:(if 4*c≤t∧t<4*c+4 then some none else γ.κ t)=some (some q):=g;replace f:(if 4*c≤u∧u<4*c+4 then some none else γ.κ u)=some (some q):=f;split at g
   ·cases g
   ·split at f
    ·cases f
    ·exact S.W.ki t u q g f
  ·show(if 4*c≤4*i+r∧4*i+r<4*c+4 then some none else γ.κ (4*i+r))=none;rw[ah om];exact(S.W.fr i om).2 r y
 ·show(if 4*c≤t∧t<4*c+4 then some none else γ.κ t)=some x;rw[ah]
  ·exact h
  ·intro z;have:=(S.W.fr c (aY c)).2 (t-4*c) om;rw[show 4*c+(t-4*c)=t from om,h]at this;cases this
theorem PS.nl{w:World}(S:PS w0 N c E Bx γ a w)(k:Nat)(f:lk E k=some (.k (.slice none 0 0))):PS w0 N (c+1) ((k,.ow [] (4*c))::E) Bx (γ.cal c fun _=>some none) a w:=by
 obtain⟨j,hz,g,l,m⟩:=S.nl0;refine⟨j,hz,g,fun t d ht=>?_,m⟩;rcases dK ht with ⟨rfl,rfl⟩|⟨_,ht⟩
 ·have e:a.tmps.getD k undef= .slice none 0 0:=S.env k _ f;rw[e];exact⟨Own.nil _ _,by show(if 4*c≤4*c∧4*c<4*c+4 then some none else γ.κ (4*c))=_;rw[au ⟨aY _,om⟩];rfl⟩
 ·exact l t d ht
end
section
theorem Zm{p:Nat→Prop}:∀n,p n→∃n,p n∧∀m,p m→n≤m:=fun n=>by
 induction n using Nat.strongRecOn with
 |_ n c=>
  intro g;by_cases h:∃m,m<n∧p m
  ·obtain⟨m,a,f⟩:=h;exact c m a f
  ·exact⟨n,g,fun m a=>Nat.le_of_not_lt fun j=>h ⟨m,j,a⟩⟩
theorem oD{P:Program}{Q:Exit→Act→World→Prop}{a:Act}{w:World}{c:Code}(I:Nat→Act→World→Prop)(n0:Nat)(h0:I n0 a w)
 (round:∀n a w,I n a w→c.wp P (Exit.then (fun g w'=>∃m,m<n∧I m g w') Q) a w):(Code.loop c).wp P Q a w:=by
 have hl:∀(a:Act) (w:World),(∃n,I n a w)→∃n,I n a w∧∀m,I m a w→n≤m:=fun a w ⟨n,h⟩=>Zm n h
 refine wp_loop (fun a w=>∃n,I n a w) (fun a w=>open Classical in if h:∃n,I n a w then Classical.choose (hl a w h)else 0) ⟨n0,h0⟩ fun a w j=>?_
 have l:=Classical.choose_spec (hl a w j)
 refine wp_mono (round _ a w l.1) fun ex g w' h=>?_
 cases ex<;>first|exact h|skip
 obtain⟨m,u,f⟩:=h
 refine⟨⟨m,f⟩,?_⟩
 rw[dif_pos ⟨m,f⟩,dif_pos j]
 exact cZ ((Classical.choose_spec (hl g w' ⟨m,f⟩)).2 m f) u
def PS.cn{w0 w:World}{γ:Gh}{N c:Nat}{E:En}{Bx:Bs}{a:Act}(_:PS w0 N c E Bx γ a w)(k:Nat):Nat:=c+k
theorem psn{p:Prop}(h:p:=by exact⟨ok_st rfl rfl kf rfl rfl,_,.inr ⟨_,_,rfl,rfl,kf⟩,rfl⟩):p:=h
def Δ.y0(n:Nat):Δ→Bool
 | .k _| .rd _=>true
 | .ow _ u=>decide (u<n)
 |_=>false
def Δ.y1(n:Nat):Δ→Bool
 | .g ds=>ds.all (Δ.y0 n)
 |d=>d.y0 n
section
variable {w0 w:World} {γ γ':Gh} {N c:Nat} {E:En} {Bx:Bs} {a:Act}
variable{ts:List Nat}
theorem s0.rt(l:∀u,u<ts.length→γ'.κ u=γ.κ (ts.getD u 0))(hβ:∀i,γ'.β i=none):∀{d:Δ} {x:Value},s0 w0 γ w (d.tg0 ts) x→d.y0 ts.length=true→s0 w0 γ' w d x
 | .k _,_,h,_=>h
 | .ow A u,_,⟨h,a⟩,j=>⟨h,(l u (of_decide_eq_true j)).trans a⟩
 | .rd _,_,⟨H,m,a⟩,_=>⟨H,fun q hq=>⟨(m q hq).1,fun i c=>by rw[hβ i]at c;cases c⟩,a⟩
 | .rz _ _,_,_,h=>by cases h
 | .p _ _,_,_,h=>by cases h
 | .sl _ _ _,_,_,h=>by cases h
 | .f _,_,_,h=>by cases h
 | .g _,_,_,h=>by cases h
 | .t _,_,_,h=>by cases h
theorem l0.rt(a:∀u,u<ts.length→γ'.κ u=γ.κ (ts.getD u 0))(hβ:∀i,γ'.β i=none):∀{ds:List Δ} {xs:List Value},l0 w0 γ w (ds.map (Δ.tg0 ts)) xs→ds.all (Δ.y0 ts.length)=true→l0 w0 γ' w ds xs
 |[],[],_,_=>trivial
 |d::ds,x::xs,h,ha=>by
  simp only[iI,dA]at ha;exact⟨s0.rt a hβ h.1 ha.1,l0.rt a hβ h.2 ha.2⟩
 |[],_::_,h,_=>h.elim
 |_::_,[],h,_=>h.elim
theorem s2.rt(a:∀u,u<ts.length→γ'.κ u=γ.κ (ts.getD u 0))(hβ:∀i,γ'.β i=none):∀{d:Δ} {x:Value},s2 w0 γ w (d.tg ts) x→d.y1 ts.length=true→s2 w0 γ' w d x
 | .g _,_,⟨xs,e,h⟩,ha=>⟨xs,e,l0.rt a hβ h ha⟩
 | .k _,_,h,_=>h
 | .ow _ _,_,h,ha=>s0.rt (d:= .ow _ _) a hβ h ha
 | .rd _,_,h,ha=>s0.rt (w0:=w0) (w:=w) (ts:=ts) (d:= .rd _) a hβ h ha
 | .rz _ _,_,_,h=>by cases h
 | .p _ _,_,_,h=>by cases h
 | .sl _ _ _,_,_,h=>by cases h
 | .f _,_,_,h=>by cases h
 | .t _,_,_,h=>by cases h
def rtE(E:En)(ts:List Nat):En→Prop
 |[]=>True
 |p::r=>lk E p.1=some (p.2.tg ts)∧rtE E ts r
theorem QH{E:En}{ts:List Nat}:∀{E':En} {t:Nat} {d:Δ},rtE E ts E'→lk E' t=some d→lk E t=some (d.tg ts)∧(t,d)∈E'
 |[],_,_,_,h=>by cases h
 |p::r,t,d,a,h=>by
  rcases dK (i:=p.1) (x:=p.2) h with ⟨rfl,rfl⟩|⟨_,h⟩
  ·exact⟨a.1,jM⟩
  ·exact⟨(QH (E:=E) a.2 h).1,jD _ (QH (E:=E) a.2 h).2⟩
theorem PS.rt(S:PS w0 N c E Bx γ a w)(ts:List Nat)(E':En)(m:rtE E ts E')(l:E'.all (fun p=>p.2.y1 ts.length)=true:=by rfl)(hd:Kv ts=true:=by rfl):∃γ',PS w0 N ((ts.length+3)/4) E' [] γ' a w:=by
 refine⟨⟨fun _=>none,fun u=>if u<ts.length then γ.κ (ts.getD u 0)else none⟩,⟨S.W.j,S.W.bel,fun _ _ h=>(by cases h),fun _ _ _ h=>(by cases h),fun t q h=>?_,fun t u q g f=>?_,fun i y=>⟨rfl,fun r _=>ah om⟩⟩,S.sz,S.df,fun t d ht=>?_,fun _ _ h=>by cases h⟩
 ·dsimp only at h;split at h
  ·exact⟨(S.W.kn _ q h).1,(S.W.kn _ q h).2.1,fun _ h=>by cases h⟩
  ·cases h
 ·dsimp only at g f;split at g
  ·split at f
   ·exact DY hd t u ‹_› ‹_› (S.W.ki _ _ q g f)
   ·cases f
  ·cases g
 ·obtain⟨g,f⟩:=QH m ht;exact s2.rt (fun u hu=>au hu) (fun _=>rfl) (S.env t _ g) (dh.1 l _ f)
end
end
section
def Δ.tb0(ts js:List Nat):Δ→Δ
 | .ow A u=> .ow A (ts.getD u 0)
 | .p i o=> .p (js.getD i 0) o
 | .sl i n c=> .sl (js.getD i 0) n c
 |d=>d
def Δ.tb1(ts js:List Nat):Δ→Δ
 | .g ds=> .g (ds.map (Δ.tb0 ts js))
 |d=>d.tb0 ts js
def Δ.z0(n m:Nat):Δ→Bool
 | .k _| .rd _=>true
 | .ow _ u=>decide (u<n)
 | .p i _=>decide (i<m)
 | .sl i _ _=>decide (i<m)
 |_=>false
def Δ.z1(n m:Nat):Δ→Bool
 | .g ds=>ds.all (Δ.z0 n m)
 |d=>d.z0 n m
section
variable {w0 w:World} {γ γ':Gh} {N c:Nat} {E:En} {Bx:Bs} {a:Act}
structure Nw(γ γ':Gh)(ts js:List Nat):Prop where
 hk:∀u,u<ts.length→γ'.κ u=γ.κ (ts.getD u 0)
 hb:∀i,i<js.length→γ'.β i=γ.β (js.getD i 0)
 hn:∀i b,γ'.β i=some b→i<js.length
variable{ts js:List Nat}
theorem s0.tb(h:Nw γ γ' ts js):∀{d:Δ} {x:Value},s0 w0 γ w (d.tb0 ts js) x→d.z0 ts.length js.length=true→s0 w0 γ' w d x
 | .k _,_,a,_=>a
 | .ow A u,_,⟨a,c⟩,j=>⟨a,(h.hk u (of_decide_eq_true j)).trans c⟩
 | .rd _,_,⟨H,a,c⟩,_=>⟨H,fun q hq=>⟨(a q hq).1,fun i l=>(a q hq).2 (js.getD i 0) (by rw[←h.hb i (h.hn i q l)];exact l)⟩,c⟩
 | .p i o,_,⟨b,a,c⟩,j=>⟨b,(h.hb i (of_decide_eq_true j)).trans a,c⟩
 | .sl i n m,_,⟨b,a,c⟩,j=>⟨b,(h.hb i (of_decide_eq_true j)).trans a,c⟩
 | .rz _ _,_,_,h=>by cases h
 | .f _,_,_,h=>by cases h
 | .g _,_,_,h=>by cases h
 | .t _,_,_,h=>by cases h
theorem l0.tb(h:Nw γ γ' ts js):∀{ds:List Δ} {xs:List Value},l0 w0 γ w (ds.map (Δ.tb0 ts js)) xs→ds.all (Δ.z0 ts.length js.length)=true→l0 w0 γ' w ds xs
 |[],[],_,_=>trivial
 |d::ds,x::xs,a,ha=>by
  simp only[iI,dA]at ha;exact⟨s0.tb h a.1 ha.1,l0.tb h a.2 ha.2⟩
 |[],_::_,h,_=>h.elim
 |_::_,[],h,_=>h.elim
theorem s2.tb(h:Nw γ γ' ts js):∀{d:Δ} {x:Value},s2 w0 γ w (d.tb1 ts js) x→d.z1 ts.length js.length=true→s2 w0 γ' w d x
 | .g _,_,⟨xs,e,a⟩,ha=>⟨xs,e,l0.tb h a ha⟩
 | .k v,_,a,ha=>s0.tb (w0:=w0) (w:=w) (d:= .k v) h a ha
 | .ow A u,_,a,ha=>s0.tb (w0:=w0) (w:=w) (d:= .ow A u) h a ha
 | .rd A,_,a,ha=>s0.tb (w0:=w0) (w:=w) (d:= .rd A) h a ha
 | .p i o,_,a,ha=>s0.tb (w0:=w0) (w:=w) (d:= .p i o) h a ha
 | .sl i n m,_,a,ha=>s0.tb (w0:=w0) (w:=w) (d:= .sl i n m) h a ha
 | .rz _ _,_,_,h=>by cases h
 | .f _,_,_,h=>by cases h
 | .t _,_,_,h=>by cases h
def tbE(E:En)(ts js:List Nat):En→Prop
 |[]=>True
 |p::r=>lk E p.1=some (p.2.tb1 ts js)∧tbE E ts js r
theorem QI{E:En}{ts js:List Nat}:∀{E':En} {t:Nat} {d:Δ},tbE E ts js E'→lk E' t=some d→lk E t=some (d.tb1 ts js)∧(t,d)∈E'
 |[],_,_,_,h=>by cases h
 |p::r,t,d,a,h=>by
  rcases dK (i:=p.1) (x:=p.2) h with ⟨rfl,rfl⟩|⟨_,h⟩
  ·exact⟨a.1,jM⟩
  ·exact⟨(QI (E:=E) a.2 h).1,jD _ (QI (E:=E) a.2 h).2⟩
def tbB(Bx:Bs)(ts js:List Nat):Bs→Prop
 |[]=>True
 |p::r=>lk Bx (js.getD p.1 0)=some (p.2.1,p.2.2.map (Δ.tb0 ts js))∧tbB Bx ts js r
theorem QJ{Bx:Bs}{ts js:List Nat}:∀{c:Bs} {i:Nat} {b:TypeId×List Δ},tbB Bx ts js c→lk c i=some b→lk Bx (js.getD i 0)=some (b.1,b.2.map (Δ.tb0 ts js))∧(i,b)∈c
 |[],_,_,_,h=>by cases h
 |p::r,i,b,a,h=>by
  rcases dK (i:=p.1) (x:=p.2) h with ⟨rfl,rfl⟩|⟨_,h⟩
  ·exact⟨a.1,jM⟩
  ·exact⟨(QJ (Bx:=Bx) a.2 h).1,jD _ (QJ (Bx:=Bx) a.2 h).2⟩
theorem PS.tb(S:PS w0 N c E Bx γ a w)(c':Nat)(ts js:List Nat)(E':En)(B':Bs)(I:tbE E ts js E')(J:tbB Bx ts js B')(C:(Nat.ble ts.length (4*c')&&Nat.ble js.length c')=true:=by rfl)(G:E'.all (fun p=>p.2.z1 ts.length js.length)=true:=by rfl)(hm:B'.all (fun p=>Nat.blt p.1 js.length&&p.2.2.all (Δ.z0 ts.length js.length))=true:=by rfl)(hd:Kv ts=true:=by rfl)(H:Kv js=true:=by rfl):∃γ',PS w0 N c' E' B' γ' a w:=by
 simp only[dA]at C;have c1:=qY C.1;have c2:=qY C.2;have y:Nw γ ⟨fun i=>if i<js.length then γ.β (js.getD i 0)else none,fun u=>if u<ts.length then γ.κ (ts.getD u 0)else none⟩ ts js:=⟨fun u hu=>au hu,fun i z=>au z,fun i b h=>by
  dsimp only at h;split at h
  ·assumption
  ·cases h⟩
 generalize A:(⟨fun i=>if i<js.length then γ.β (js.getD i 0)else none,fun u=>if u<ts.length then γ.κ (ts.getD u 0)else none⟩:Gh)=γ' at y;have f:∀i b,γ'.β i=some b→i<js.length∧γ.β (js.getD i 0)=some b:=fun i b h=>⟨y.hn i b h,by rw[←y.hb i (y.hn i b h)];exact h⟩
 have l:∀t x,γ'.κ t=some (some x)→t<ts.length∧γ.κ (ts.getD t 0)=some (some x):=fun t x h=>by
  rw[←A]at h;dsimp only at h;split at h
  ·exact⟨‹_›,h⟩
  ·cases h
 refine⟨γ',⟨S.W.j,S.W.bel,fun i b h=>S.W.bn _ b (f i b h).2,fun i j b g m=>DY H i j (f i b g).1 (f j b m).1 (S.W.bi _ _ b (f i b g).2 (f j b m).2),fun t q h=>?_,fun t u q g m=>DY hd t u (l t q g).1 (l u q m).1 (S.W.ki _ _ q (l t q g).2 (l u q m).2),fun i z=>⟨?_,fun r _=>?_⟩⟩,S.sz,S.df,fun t d ht=>?_,fun i b z=>?_⟩
 ·have g:=S.W.kn _ q (l t q h).2;exact⟨g.1,g.2.1,fun i z=>g.2.2 _ (f i q z).2⟩
 ·rw[←A];exact ah om
 ·rw[←A];exact ah om
 ·obtain⟨g,m⟩:=QI I ht;exact s2.tb y (S.env t _ g) (dh.1 G _ m)
 ·obtain⟨g,m⟩:=QJ J z;have F:=dh.1 hm _ m;simp only[dA]at F;obtain⟨q,xs,O,M,L⟩:=S.box _ _ g;exact⟨q,xs,(y.hb i (Nat.blt_eq▸F.1)).trans O,M,l0.tb y L F.2⟩
end
section
variable {w0:World} {N i:Nat} {R:Nat→Option Δ} {Bx:Bs} {P:Program} {dst:Option Tmp} {x y:Operand} {ty t:TypeId} {p:String} {e:Array Edge} {gd:Option (Nat×Bool)} {kk:IntKind} {z:Int}
theorem Og{b o n m s:Nat}(h:lX R x (.k (.slice (some ⟨b,o,none⟩) n m)))(l:lX R y (.k (.int kk z)))(hu:slE P ty s=true)(hz:0≤z∧z<(n:Int)):Ok P w0 N ⟨dst,.indexAddr ty x y,t,p,e,gd⟩ i R Bx (.k (.pointer (some ⟨b,o+z.toNat*s,none⟩))) none:=
 wV fun γ w a j _=>by
  have C:a.eval x= .slice (some ⟨b,o,none⟩) n m:=h.ev j;have A:a.eval y= .int kk z:=l.ev j;refine⟨_,?_,rfl⟩;unfold slE at hu;split at hu
  ·rename_i el c;split at hu
   ·rename_i E f;have u:=Nat.eq_of_beq_eq_true hu;have g:P.elem ty=el:=by simp[Program.elem,c]
    have:=run_indexAt_slice (P:=P) w ty ⟨b,o,none⟩ n m kk z (by rw[g];exact c);rw[au hz,g]at this;simp[execOp,C,A,this,sizeOf,typeInfo,f,u,Addr.add_lit,Result.andThen]
   ·cases hu
  ·cases hu
theorem ok_lr{b k n:Nat}{ds:List Δ}{xs:List Value}(h:lX R x (.k (.pointer (some ⟨b,k,none⟩))))(z:b<w0.heap.size∧∀j u,xs[j]? =some u→w0.cell? ⟨b,k+j,none⟩=some u)(hl:xs.length=n)(E:(P.info? ty).map (·.size)=some n)(c:lN P ty=true)(hd:∀γ w F,Wi w0 γ w F→l0 w0 γ w ds xs):Ok P w0 N ⟨dst,.load ty x,t,p,e,gd⟩ i R Bx (.g ds) none:=
 Zl fun γ w a F A G=>by
  have H:a.eval x= .pointer (some ⟨b,k,none⟩):=h.ev G;obtain⟨I,l,C⟩:=jT.1 E;obtain⟨f,y⟩:∃f,P.underlying ty=some f:=by
   unfold lN at c;cases hu:P.underlying ty with
   |some f=>exact⟨f,rfl⟩
   |none=>rw[hu]at c;cases c
  have:=(vX (P:=P) (w:=w) ty b k n xs hl (fun m u hu=>(lU (A.bel.block b z.1)).trans (z.2 m u hu)) l C y).1 c;exact⟨_,by simp[execOp,H,this],_,rfl,hd γ w F A⟩
end
end
section
theorem of_raw{w:World}{s:Bool}{ua:Option Addr}{n c:Nat}:Calls Tryz.prog 123 #[.bool s,.slice ua n c] w (fun e w'=>e= .returned (.agg #[.bool (s&&decide (0<n)),.slice ua n c])∧Below w.heap.size w w'):=by
 refine zY (vs:=[.bool s,.slice ua n c]) Tryz.func123 (c:=qf Tryz.f123) rfl (by show 2≤_;decide) fun a0 z0 e0 E=>?_
 have z:a0.tmps.getD 0 undef= .bool s:=e0 0 (by show 0<2;decide);have y:a0.tmps.getD 1 undef= .slice ua n c:=e0 1 (by show 1<2;decide);change a0.tmps.size=13 at z0;have g0:=gI z0 z dc;have C:=gI z0 y dc;have key:∀(t:Array Value) (x:Bool),t.size=13→t.getD 4 undef= .pointer (some ⟨w.heap.size,0,none⟩)→x=(s&&decide (0<n))→bodyPost Tryz.prog Tryz.f123 (fun e w'=>e= .returned (.agg #[.bool (s&&decide (0<n)),.slice ua n c])∧Below w.heap.size w w') .ret {tmps:=t,defers:=[]} (w.alloc (.cells #[.bool x,.slice ua n c] 25)):=fun t x hz A hx=>by
  subst hx;exact int_fin rfl rfl A (heap_alloc_new w _) ⟨rfl,zZ w _⟩
 cases s
 ·refine wp_seq_k fun u f=>?_
  have j:=PLift.up f;clear f;refine wp_region_lit ?_;go_wp2;refine j.down _ _ ?_;refine wp_seq_k fun m a=>?_
  have g:=PLift.up a;clear a;refine wp_region_lit ?_;go_wp2;refine g.down _ _ ?_;refine wp_ret ?_;refine key _ _ (by simp[z0]) ?_ rfl;repeat (first|rw[iQ (by simp[z0])]|rw[dM dc])
 ·by_cases hn:0<n
  ·have l:(0:Int)<(n:Int):=om;refine wp_seq_k fun u f=>?_
   have j:=PLift.up f;clear f;refine wp_region_lit ?_;go_wp2;refine j.down _ _ ?_;refine wp_seq_k fun m a=>?_
   have g:=PLift.up a;clear a;refine wp_region_lit ?_;go_wp2;refine g.down _ _ ?_;refine wp_ret ?_;refine key _ _ (by simp[z0]) ?_ (by simp[hn]);repeat (first|rw[iQ (by simp[z0])]|rw[dM dc])
  ·have l:¬(0:Int)<(n:Int):=om;refine wp_seq_k fun u f=>?_
   have j:=PLift.up f;clear f;refine wp_region_lit ?_;go_wp2;refine j.down _ _ ?_;refine wp_seq_k fun m a=>?_
   have g:=PLift.up a;clear a;refine wp_region_lit ?_;go_wp2;refine g.down _ _ ?_;refine wp_ret ?_;refine key _ _ (by simp[z0]) ?_ (by simp[hn]);repeat (first|rw[iQ (by simp[z0])]|rw[dM dc])
variable{A:List Nat}
theorem own_nn{w:World}{B n:Nat}{v:Value}(a:w.ownsRow B 49 1 v n (Wv A)):n=A.length:=by
 have:=a.1;simp only[Wv,iJ]at this;omega
theorem Own.shape{w0 w:World}{v:Value}(h:Own w0 A v w):∃ua a,v= .slice ua A.length a:=by
 obtain⟨m,f,c⟩:=h;obtain⟨ua,a,e⟩:=iE c;exact⟨ua,a,by rw[e,own_nn c]⟩
theorem IA.rep{w:World}{c:Nat→Prop}{v:Value}{s:Bool}{a:List Nat}(h:IA w c v s a):Rep0 w c v (zL s a):=by
 obtain⟨x,rfl,h⟩:=h;obtain⟨j,f⟩:=N9 (.b s) h;exact .g [.bool s,x] [.b s,.l 1 (W a)] j f
section
variable {w0 w:World} {N i:Nat} {R:Nat→Option Δ} {Bx:Bs} {dst:Option Tmp} {t:TypeId} {p:String} {e:Array Edge} {gd:Option (Nat×Bool)}
theorem Ad{x y:Operand}{A7:Array TypeId}{s:Bool}{u:Nat}(hx:lX R x (.k (.bool s)))(C:lX R y (.ow A u)):Ok Tryz.prog w0 N ⟨dst,.call ⟨.value (.func 123),#[x,y],A7⟩,t,p,e,gd⟩ i R Bx (.g [.k (.bool (s&&decide (0<A.length))),.ow A u]) none:=⟨fun Q γ a w F K hz l H m I hK=>by
 have e1:a.eval x= .bool s:=hx.ev m;have z:=C.ev m;obtain⟨f,c,j⟩:=z.1.shape;replace j:a.eval y= .slice f A.length c:=j;unfold Oper.wp;rw[pG kf,Oper.upon_enter];have G:=of_raw (w:=w) (s:=s) (ua:=f) (n:=A.length) (c:=c);rw[show(List.map a.eval #[x,y].toList).toArray=#[.bool s,.slice f A.length c]from by simp[e1,j]];refine G.mono ?_;rintro e w' ⟨rfl,hb⟩;refine hK γ _ w' (.of hb) hb ((l.Tu (below_le l hb)).sub fun k E=>E.1) ⟨[.bool (s&&decide (0<A.length)),.slice f A.length c],rfl,rfl,?_,trivial⟩ fun b h=>by cases h
 rw[←j];exact s0.up (d:= .ow A u) l (.of hb) z⟩
end
variable {s t:Bool} {a b:List Nat} {x z:Int}
theorem Fj{v u:Nat}:iO (zI s v) u= .g [.k (.bool (s&&decide (0<(dg B v).length))),.ow (dg B v) u]:=by
 unfold iO;rw[Qy,EJ,dgp]
theorem Lp(ha:Wd a)(la:a.length≤100000000):Fn 134 [.rd a] (.ow (dg B (nv B a)) 0):=Cm fun w vs c h=>match vs,h with
 |[u],h=>JI (vs:=[u]) (rE a ha om) c (fun q h=>h) (rp1 (Oc h.1))
section
variable (hx:zv s a=x) (ha:Wd a) (la:a.length≤100000000)
include hx ha la
theorem Zn:Fn 124 [iD s a] (iO x 0):=by
 rw[←hx,show zv s a=zI s (nv B a)from rfl,Fj];refine dV Tryz.func124 (code:=qf Tryz.f124) rfl rfl fun w ac S=>?_
 refine bM fun _ _ _ S=>?_;(refine wp_seq (gU 6 [_,_,_,_,_,_] [_,_,_,_,_,_] [[(1,none)],[(3,some 0)],[(1,none)],[(5,some 2)],[(6,some 3)],[(4,some 1),(7,some 4)]] rfl S aN kf kf kf ⟨px,px,px,px,pc (Lp ha la),Ad rfl rfl,trivial⟩ ?_);clear S;intro _ _ _ S);refine bM fun _ _ _ S=>?_;exact wp_ret (pF [_] S rfl ⟨_,_,_,rfl,rfl,rfl⟩)
theorem zk:Fn 80 [iD s a] (iO (-x) 0):=by
 rw[←hx,show-zv s a=zI (!s) (nv B a)from by unfold zv zI;cases s<;>simp,Fj];refine dV Tryz.func80 (code:=qf Tryz.f80) rfl rfl fun w ac S=>?_
 refine bM fun _ _ _ S=>?_;(refine wp_seq (gU 7 [_,_,_,_,_,_,_] [_,_,_,_,_,_,_] [[(1,none)],[(3,some 0)],[(4,some 1)],[(1,none)],[(6,some 3)],[(7,some 4)],[(5,some 2),(8,some 5)]] rfl S aN kf kf kf ⟨px,px,px,px,px,pc (Lp ha la),Ad rfl rfl,trivial⟩ ?_);clear S;intro _ _ _ S);refine bM fun _ _ _ S=>?_;exact wp_ret (pF [_] S rfl ⟨_,_,_,rfl,rfl,rfl⟩)
theorem Zo:Fn 72 [.k (.bool s),.rd a] (iO x 0):=by
 refine dV Tryz.func72 (code:=qf Tryz.f72) rfl rfl fun w ac S=>?_
 refine bM fun _ _ _ S=>?_;(refine aj S (pc (Zn hx ha la)) fun _ _ _ S=>?_);refine bM fun _ _ _ S=>?_;exact wp_ret (pF [_] S rfl ⟨_,_,_,rfl,rfl,rfl⟩)
end
end
section
variable {s t:Bool} {a b:List Nat} {x z:Int}
section
variable (ha:Wd a) (la:a.length≤100000000) (hb:Wd b) (lb:b.length≤100000000)
include ha la hb lb
theorem g_add:Fn 137 [.rd a,.rd b] (.ow (dg B (nv B a+nv B b)) 0):=Cm fun w vs c h=>match vs,h with
 |[u,v],h=>JI (vs:=[u,v]) (v_ a b ha hb om om) c (fun q h=>h) (N9 (Oc h.1) (Oc h.2.1))
theorem g_diff:Fn 138 [.rd a,.rd b] (.t [.ow (dg B (if nv B a<nv B b then nv B b-nv B a else nv B a-nv B b)) 0,.k (.bool (decide (nv B a<nv B b)))]):=TB fun w vs f h=>match vs,h with
 |[u,v],h=>by
  have c:=diffO a b ha hb om om;rw[←apply_ite (dg B)]at c;exact YZ (vs:=[u,v]) c (fun w' j z hz=>(Rep.up (ov:=fun _=>none) hz).qH) f (fun q h=>h) (N9 (Oc h.1) (Oc h.2.1))
end
variable (hx:zv s a=x) (ha:Wd a) (la:a.length≤100000000) (hz:zv t b=z) (hb:Wd b) (lb:b.length≤100000000)
include hx ha la hz hb lb
theorem f_mul:Fn 112 [iD s a,iD t b] (iO (x*z) 0):=by
 rw[←hx,←hz,show zv s a*zv t b=zI (s != t) (nv B a*nv B b)from by unfold zv zI;cases s<;>cases t<;>simp[Int.neg_mul,Int.mul_neg],Fj];refine dV Tryz.func112 (code:=qf Tryz.f112) rfl rfl fun w ac S=>?_
 refine bM fun _ _ _ S=>?_;(refine wp_seq (gU 11 [_,_,_,_,_,_,_,_,_,_,_] [_,_,_,_,_,_,_,_,_,_,_] [[(2,none)],[(5,some 0)],[(3,none)],[(7,some 2)],[(6,some 1),(8,some 3)],[(2,none)],[(10,some 5)],[(3,none)],[(12,some 7)],[(11,some 6),(13,some 8)],[(9,some 4),(14,some 9)]] rfl S aN kf kf kf ⟨px,px,px,px,px,px,px,px,px,pc (ES ha la hb lb rfl rfl),Ad rfl rfl,trivial⟩ ?_);clear S;intro _ _ _ S);refine bM fun _ _ _ S=>?_;exact wp_ret (pF [_] S rfl ⟨_,_,_,rfl,rfl,rfl⟩)
theorem f_add:Fn 84 [iD s a,iD t b] (iO (x+z) 0):=by
 by_cases hst:s=t
 ·subst hst;rw[←hx,←hz,show zv s a+zv s b=zI s (nv B a+nv B b)from by unfold zv zI;cases s<;>simp<;>omega,Fj];refine dV Tryz.func84 (code:=qf Tryz.f84) rfl rfl fun w ac S=>?_
  refine bM fun _ _ _ S=>?_;refine jG S rfl (aV s) ?_;(refine wp_seq (gU 8 [_,_,_,_,_,_,_,_] [_,_,_,_,_,_,_,_] [[(2,none)],[(12,some 0)],[(2,none)],[(14,some 2)],[(3,none)],[(16,some 4)],[(15,some 3),(17,some 5)],[(13,some 1),(18,some 6)]] rfl S aN kf kf kf ⟨px,px,px,px,px,px,pc (g_add ha la hb lb),Ad rfl rfl,trivial⟩ ?_);clear S;intro _ _ _ S);refine bM fun _ _ _ S=>?_;exact wp_ret (pF [_] S rfl ⟨_,_,_,rfl,rfl,rfl⟩)
 ·rw[←hx,←hz,show zv s a+zv t b=zI (s != decide (nv B a<nv B b)) (if nv B a<nv B b then nv B b-nv B a else nv B a-nv B b)from by
   unfold zv zI;by_cases hlt:nv B a<nv B b
   ·rw[au hlt];cases s<;>cases t<;>simp at hst<;>simp[hlt]<;>omega
   ·rw[ah hlt];cases s<;>cases t<;>simp at hst<;>simp[hlt]<;>omega,Fj]
  refine dV Tryz.func84 (code:=qf Tryz.f84) rfl rfl fun w ac S=>?_
  refine bM fun _ _ _ S=>?_;refine eH S rfl (beq_eq_false_iff_ne.2 hst) (wp_skip (bM ?_));clear S;intro _ _ _ S;(refine aj S (pc (g_diff ha la hb lb)) fun _ _ _ S=>?_);refine bM fun _ _ _ S=>?_;(refine aj S (Ad rfl rfl) fun _ _ _ S=>?_);refine bM fun _ _ _ S=>?_;exact wp_ret (pF [_] S rfl ⟨_,_,_,rfl,rfl,rfl⟩)
theorem w_sub:Fn 129 [iD s a,iD t b] (iO (x-z) 0):=by
 rw[Int.sub_eq_add_neg];refine dV Tryz.func129 (code:=qf Tryz.f129) rfl rfl fun w ac S=>?_
 refine bM fun _ _ _ S=>?_;(refine wp_seq (gU 4 [_,_,_,_] [_,_,_,_] [[(2,none)],[(3,none)],[(6,some 1)],[(5,some 0),(7,some 2)]] rfl S aN kf kf kf ⟨px,px,pc (zk hz hb lb),pc (f_add hx ha la (fD (-z)) (af _) (by rw[kX,←hz,zV];exact bK (aA (eP hb)) lb)),trivial⟩ ?_);clear S;intro _ _ _ S);refine bM fun _ _ _ S=>?_;exact wp_ret (pF [_] S rfl ⟨_,_,_,rfl,rfl,rfl⟩)
end
section
variable{p:Prop}{u:Value}
theorem goR(h:p:=by first|exact dC px|exact dC (D5 rfl rfl kf)|exact dC (ok_lf rfl kf kf)|exact Ze px rfl rfl rfl rfl|exact st_on rfl rfl rfl rfl|exact st_sT rfl rfl rfl kf rfl rfl rfl):p:=h
theorem Iy{q:Prop}(k:q)(h:PLift q→p:=by
 intro hq;(repeat (first|(show wpList _ _ _ (_::_) _ _;refine bQ S goR ?_;intro x1 x2 x3 S)|refine ET ?_|refine Zf ?_|refine h_ ?_));first|(revert x1 x2 x3;exact hq.down)|exact hq.down):p:=h ⟨k⟩
theorem k2_lt{w w':World}{c A2:List Nat}{v:Value}(h:Own w c u w')(h2:Own w A2 v w'):∀t q,k2 u v t=some (some q)→w.heap.size≤q∧q<w'.heap.size:=fun t q hq=>by
 unfold k2 at hq;split at hq
 ·obtain⟨m,_,a⟩:=h;exact a.lt q (dS hq)
 ·split at hq
  ·obtain⟨m,_,a⟩:=h2;exact a.lt q (dS hq)
  ·cases hq
theorem k2_in{v:Value}(f:∀q,u.ownBlock=some q→v.ownBlock≠some q):∀t t' q,k2 u v t=some (some q)→k2 u v t'=some (some q)→t=t':=fun t t' q c a=>by
 unfold k2 at c a;split at c
 ·split at a
  ·omega
  ·split at a
   ·exact absurd (dS a) (f q (dS c))
   ·cases a
 ·split at c
  ·split at a
   ·exact absurd (dS c) (f q (dS a))
   ·split at a
    ·omega
    ·cases a
  ·cases c
theorem fn_row3{f:FuncId}{ds:List Δ}{A:List Nat}{y z:Value}(h:∀w vs,Jw w→l1 w g0 w ds vs→Calls Tryz.prog f vs.toArray w (RowT3 w A y z)):Fn f ds (.t [.ow A 0,.k y,.k z]):=⟨fun w vs a ha=>(h w vs a ha).mono fun e w' ⟨u,n,e1,b,o,m⟩=>
 ⟨k1 u,_,e1,b,Za ⟨n,m,o⟩,Zb,[u,y,z],rfl,⟨⟨n,m,o⟩,rfl⟩,rfl,rfl,trivial⟩⟩
theorem dg_top{b v:Nat}(h:0<(dg b v).length):(dg b v).getD ((dg b v).length-1) 0≠0:=fun h0=>by
 have a:=Ap (dg b v) ((dg b v).length-1) om h0;rw[show(dg b v).length-1+1=(dg b v).length from om,iH,BO]at a;have:=r_ ((dg b v).take ((dg b v).length-1));rw[←a,jo]at this;omega
theorem TF{u v:Nat}(h:v≤u):(dg B v).length≤(dg B u).length:=aA (cZ h (by have:=eP (af u);rwa[ae]at this))
section
variable {a b:List Nat} (ha:Wd a) (la:a.length≤100000000) (hb:Wd b) (lb:b.length≤100000000)
include ha la
theorem A8{u:Nat}(hu:nv B a=u):Fn 134 [.rd a] (.ow (dg B u) 0):=hu▸Lp ha la
theorem q_word{u v:Nat}(hu:nv B a=u)(hv:0<v)(hvB:v<B):Fn 175 [.rd a,.k (.int .u64 (v:Int))] (.t [.ow (dg B (u/v)) 0,.k (.int .u64 ((u%v:Nat):Int)),e0]):=fn_row3 fun w vs f h=>match vs,h with
 |[x,y],h=>by
  have e:y= .int .u64 (v:Int):=h.2.1;subst e;rw[←hu];exact to_raw3 (vs:=[x,.int .u64 (v:Int)]) (wordO a v ha hv (by simpa[B]using hvB) om) (fun w' g v h=>(Rep.up (ov:=fun _=>none) h).dU) (fun w' g v h=>(Rep.up (ov:=fun _=>none) h).dU) f (fun q h=>h) (N9 (Oc h.1) (.i _ _))
include hb lb
theorem q_cmp{u v:Nat}(hu:nv B a=u)(hv:nv B b=v):Fn 119 [.rd a,.rd b] (.k (.int .i64 (sg u v))):=fn_k fun w vs c h=>match vs,h with
 |[x,y],h=>by
  have:=Io (vs:=[x,y]) (DC a b ha hb om om) c (fun q h=>h) (N9 (Oc h.1) (Oc h.2.1));rw[hu,hv]at this;exact this
theorem q_knuth{u v:Nat}(hu:nv B a=u)(hv:nv B b=v)(h2:2≤b.length)(g:b.length≤a.length)(htop:b.getD (b.length-1) 0≠0):Fn 176 [.rd a,.rd b] (.t [.ow (dg B (u/v)) 0,.ow (dg B (u%v)) 1]):=⟨fun w vs z h=>match vs,h with
 |[x,y],h=>by
  have m:=VH z (fun q h=>h) (Oc h.1) (Oc h.2.1) ha hb om h2 g htop;rw[hu,hv]at m;refine m.mono ?_;rintro e w' ⟨l,j,n1,n2,rfl,A,c,o2,f⟩;exact⟨k2 l j,_,rfl,A,k2_lt ⟨n1,Il c,c⟩ ⟨n2,Il o2,o2⟩,k2_in f,[l,j],rfl,⟨⟨n1,Il c,c⟩,rfl⟩,⟨⟨n2,Il o2,o2⟩,rfl⟩,trivial⟩⟩
theorem Zp{u v:Nat}(hu:nv B a=u)(hv:nv B b=v)(h0:v≠0):Fn 159 [.rd a,.rd b] (.t [.ow (dg B (u/v)) 0,.ow (dg B (u%v)) 1,e0]):=by
 obtain⟨M,C⟩:∃M:Nat,M=100000000:=⟨_,rfl⟩;have l:u<B^M:=hu▸bP ha om;have j:v<B^M:=hv▸bP hb om;have F:=aA l;have E:=aA j;have wu:=af u;have g:=af v;have l0:(dg B v).length≠0:=fun e=>h0 (by rw[←ae v,nz e];rfl)
 refine dV Tryz.func159 (code:=qf Tryz.f159) rfl rfl fun w ac S=>?_
 refine Iy fun _ _ _ S=>?_;(refine aj S (pc (A8 ha la hu)) fun _ _ _ S=>?_);refine Iy fun _ _ _ S=>?_;(refine aj S (pc (A8 hb lb hv)) fun _ _ _ S=>?_);refine Iy fun _ _ _ S=>?_;refine wp_seq (wp_block (Iy ?_));clear S;intro _ _ _ S;refine eH S rfl (rfl) (Iy ?_);clear S;intro _ _ _ S;(refine aj S (pc (q_cmp wu om g om (ae u) (ae v))) fun _ _ _ S=>?_);by_cases c:u<v
 ·have m:sg u v<0:=by rw[SL];exact c
  refine Iy fun _ _ _ S=>?_;refine jG S rfl (rfl) (Iy ?_);clear S;intro _ _ _ S;have e1:u/v=0:=jQ c;have A:u%v=u:=bD c;rw[e1,A];replace S:=S.nl 4 rfl;exact wp_ret (gq [_,_] S rfl rfl tv)
 ·have m:¬sg u v<0:=fun h=>c (by rwa[SL]at h)
  refine Iy fun _ _ _ S=>?_;refine eH S rfl (rfl) ?_;by_cases f:(dg B v).length=1
  ·(repeat (first|(show wpList _ _ _ (_::_) _ _;refine bQ S goR fun _ _ _ S=>?_)|refine ET ?_|refine Zf ?_|refine h_ ?_));refine jG S rfl (rfl) ?_;have hvB:v<B:=by have:=eP (af v);rw[ae,f,Nat.pow_one]at this;exact this
   have z:(dg B v).getD (0:Int).toNat 0=v:=(S9 (b:=dg B v) f).trans (ae v);have y:u%v<18446744073709551616:=oh (cu _ om) (by simpa[B]using hvB);refine Iy fun _ _ _ S=>?_;(refine aj S (ok_iw rfl rfl rfl kf (by rw[f];rfl)) fun _ _ _ S=>?_);rw[z]at S;refine Iy fun _ _ _ S=>?_;(refine aj S (pc (q_word wu om (ae u) (C_ h0) hvB)) fun _ _ _ S=>?_);refine Iy fun _ _ _ S=>?_;(refine aj S (pc (Ac y)) fun _ _ _ S=>?_);refine Iy fun _ _ _ S=>?_;exact wp_ret (gq [_,_] S rfl rfl tv)
  ·(repeat (first|(show wpList _ _ _ (_::_) _ _;refine bQ S goR fun _ _ _ S=>?_)|refine ET ?_|refine Zf ?_|refine h_ ?_));refine eH S rfl (rfl) (wp_skip (Iy ?_));clear S;intro _ _ _ S;(refine aj S (pc (q_knuth wu om g om (ae u) (ae v) om (TF om) (dg_top om))) fun _ _ _ S=>?_);refine Iy fun _ _ _ S=>?_;exact wp_ret (gq [_,_] S rfl rfl tv)
theorem q_mod{u v:Nat}(hu:nv B a=u)(hv:nv B b=v)(h0:v≠0):Fn 177 [.rd a,.rd b] (.t [.ow (dg B (u%v)) 0,e0]):=by
 refine dV Tryz.func177 (code:=qf Tryz.f177) rfl rfl fun w ac S=>?_
 refine bM fun _ _ _ S=>?_;(refine aj S (pc (Zp ha la hb lb hu hv h0)) fun _ _ _ S=>?_);refine bM fun _ _ _ S=>?_;exact wp_ret (gq [_] S rfl rfl ⟨rfl,rfl,trivial⟩)
theorem f_exd{u v:Nat}(hu:nv B a=u)(hv:nv B b=v)(hd:v∣u)(h0:v≠0):Fn 132 [.rd a,.rd b] (.t [.ow (dg B (u/v)) 0,e0]):=by
 have hq:=Zp ha la hb lb hu hv h0;have c:dg B (u%v)=[]:=by rw[Nat.mod_eq_zero_of_dvd hd];exact(uz B2).2 rfl
 rw[c]at hq;have l0:([]:List Nat).length=0:=rfl;refine dV Tryz.func132 (code:=qf Tryz.f132) rfl rfl fun w ac S=>?_
 refine bM fun _ _ _ S=>?_;(refine aj S (pc (hq)) fun _ _ _ S=>?_);refine Iy fun _ _ _ S=>?_;refine wp_seq (wp_block (Iy ?_));clear S;intro _ _ _ S;refine eH S rfl (rfl) (Iy ?_);clear S;intro _ _ _ S;refine eH S rfl (rfl) (wp_skip (Iy ?_));clear S;intro _ _ _ S;exact wp_ret (gq [_] S rfl rfl ⟨rfl,rfl,trivial⟩)
theorem q_gmod{u v:Nat}(hu:nv B a=u)(hv:nv B b=v)(h0:v≠0):Fn 162 [.rd a,.rd b] (.ow (dg B (u%v)) 0):=by
 refine dV Tryz.func162 (code:=qf Tryz.f162) rfl rfl fun w ac S=>?_
 refine bM fun _ _ _ S=>?_;(refine aj S (pc (q_mod ha la hb lb hu hv h0)) fun _ _ _ S=>?_);refine bM fun _ _ _ S=>?_;exact wp_ret (pF [_] S rfl rfl)
end
end
theorem f_gcd{a b:List Nat}(ha:Wd a)(la:a.length≤100000000)(hb:Wd b)(lb:b.length≤100000000){u v:Nat}(hu:nv B a=u)(hv:nv B b=v):Fn 131 [.rd a,.rd b] (.ow (dg B (Nat.gcd u v)) 0):=by
 have z:(dg B u).length≤100000000:=by obtain⟨M,j⟩:∃M:Nat,M=100000000:=⟨_,rfl⟩;exact j▸aA (hu▸bP ha om)
 have y:(dg B v).length≤100000000:=by obtain⟨M,j⟩:∃M:Nat,M=100000000:=⟨_,rfl⟩;exact j▸aA (hv▸bP hb om)
 refine dV Tryz.func131 (code:=qf Tryz.f131) rfl rfl fun w ac S=>?_
 refine bM fun _ _ _ S=>?_;(refine aj S (pc (A8 ha la hu)) fun _ _ _ S=>?_);refine bM fun _ _ _ S=>?_;(refine aj S (pc (A8 hb lb hv)) fun _ _ _ S=>?_);refine bM fun _ _ _ S=>?_;refine wp_seq (wp_block ?_);obtain⟨γ',m⟩:=S.rt [_,_] [(0,.ow (dg B u) 0),(1,.ow (dg B v) 1)] ⟨rfl,rfl,trivial⟩;refine oD (fun n a w'=>∃c γ,Nat.gcd c n=Nat.gcd u v∧(dg B c).length≤100000000∧(dg B n).length≤100000000∧PS w 17 1 [(0,.ow (dg B c) 0),(1,.ow (dg B n) 1)] [] γ a w') v ⟨u,γ',rfl,z,y,m⟩ ?_;rintro n a1 C ⟨c,γ1,g,l1,f,S⟩;clear m γ';by_cases h0:n=0
 ·subst h0;rw[Nat.gcd_zero_right]at g;subst g;have hl:¬0<(dg B 0).length:=by rw[(uz B2).2 rfl];simp
  refine Iy fun _ _ _ S=>?_;refine eH S rfl (rfl) ?_;refine wp_exit (Iy ?_);clear S;intro _ _ _ S;exact wp_ret (pF [_] S rfl rfl)
 ·have hl:0<(dg B n).length:=by
   cases h:(dg B n)with
   |nil=>exact absurd ((uz B2).1 h) h0
   |cons _ _=>simp
  refine Iy fun _ _ _ S=>?_;refine jG S rfl (rfl) ?_;refine wp_skip ?_;refine wp_block ?_;refine wp_region_lit (Iy ?_);clear S;intro _ _ _ S;(refine aj S (pc (q_gmod (af _) l1 (af _) f (ae c) (ae n) h0)) fun _ _ _ S=>?_);refine Iy fun _ _ _ S=>?_;have l:c%n<n:=cu _ om;obtain⟨γ2,A⟩:=S.rt [_,_] [(0,.ow (dg B n) 0),(1,.ow (dg B (c%n)) 1)] ⟨rfl,rfl,trivial⟩;exact⟨c%n,l,n,γ2,by rw[←g,kH c n,Nat.gcd_rec n c,kH],f,bK (TF (qC l)) f,A⟩
section
variable {s t:Bool} {a b:List Nat} {x z:Int}
section
variable (ha:Wd a) (la:a.length≤100000000) (hb:Wd b) (lb:b.length≤100000000) (h0:nv B b≠0)
include ha la hb lb h0
theorem g_quo:Fn 159 [.rd a,.rd b] (.t [.ow (dg B (nv B a/nv B b)) 0,.ow (dg B (nv B a%nv B b)) 1,e0]):=Zp ha la hb lb rfl rfl h0
end
section
variable (hx:zv s a=x) (hz:zv t b=z) (ha:Wd a) (la:a.length≤100000000) (hb:Wd b) (lb:b.length≤100000000) (h0:z≠0)
include hx hz ha la hb lb h0
theorem w_quo:Fn 128 [iD s a,iD t b] (.t [iO (zq x z) 0,iO (zr x z) 1,e0]):=by
 have hv:nv B b≠0:=fun e=>h0 (by rw[←hz];exact(KU (s:=t)).2 e)
 subst hx;subst hz;rw[show zq (zv s a) (zv t b)=zI (s != t) (nv B a/nv B b)from(Gm s t _ _).symm,show zr (zv s a) (zv t b)=zI s (nv B a%nv B b)from(zr_p h0).trans (K_ s t _ _).symm,Fj,Fj];refine dV Tryz.func128 (code:=qf Tryz.f128) rfl rfl fun w ac S=>?_
 refine bM fun _ _ _ S=>?_;(refine aj S (pc (g_quo ha la hb lb hv)) fun _ _ _ S=>?_);refine bM fun _ _ _ S=>?_;refine eH S rfl (rfl) (wp_skip (bM ?_));(refine wp_seq (gU 11 [_,_,_,_,_,_,_,_,_,_,_] [_,_,_,_,_,_,_,_,_,_,_] [[(2,none)],[(24,some 0)],[(3,none)],[(26,some 2)],[(25,some 1),(27,some 3)],[(7,none)],[(28,some 4),(29,some 5)],[(2,none)],[(31,some 7)],[(8,none)],[(32,some 8),(33,some 9)]] rfl S aN kf kf kf ⟨px,px,px,px,px,px,Ad rfl rfl,px,px,px,Ad rfl rfl,trivial⟩ ?_);clear S;intro _ _ _ S);refine bM fun _ _ _ S=>?_;exact wp_ret (gq [_,_] S rfl rfl ⟨⟨_,_,_,rfl,rfl,rfl⟩,⟨_,_,_,rfl,rfl,rfl⟩,rfl,trivial⟩)
end
end
section
variable {s:Bool} {a:List Nat} {x:Int} {k:Nat}
theorem g_shl(ha:Wd a)(la:a.length≤100000000)(l:k≤1048576):Fn 127 [.rd a,.k (.int .i64 (k:Int))] (.t [.ow (dg B (nv B a*2^k)) 0,e0]):=TB fun w vs f h=>match vs,h with
 |[u,v],h=>by
  have e:v= .int .i64 (k:Int):=h.2.1;subst e;have g:Cb (nv B a) (k:Int)=(dg B (nv B a*2^k),0):=by
   unfold Cb;rw[ah om];simp
  have c:=shlO a (k:Int) ha om;rw[g]at c;exact YZ (vs:=[u,.int .i64 (k:Int)]) c (fun w' m z hz=>(Rep.up (ov:=fun _=>none) hz).dU) f (fun q h=>h) (N9 (Oc h.1) (.i _ _))
theorem f_shl(hx:zv s a=x)(ha:Wd a)(la:a.length≤100000000){k:Nat}(c:k≤1048576):Fn 73 [iD s a,.k (.int .i64 (k:Int))] (.t [iO (x*2^k) 0,e0]):=by
 rw[show x*2^k=zI s (nv B a*2^k)from by
  rw[←hx];unfold zv zI;cases s<;>simp[Int.neg_mul],Fj]
 refine dV Tryz.func73 (code:=qf Tryz.f73) rfl rfl fun w ac S=>?_
 refine bM fun _ _ _ S=>?_;refine eH S rfl (rfl) (wp_skip (bM ?_));clear S;intro _ _ _ S;(refine aj S (pc (g_shl ha la c)) fun _ _ _ S=>?_);refine bM fun _ _ _ S=>?_;refine eH S rfl (rfl) (wp_skip (bM ?_));clear S;intro _ _ _ S;(refine aj S (Ad rfl rfl) fun _ _ _ S=>?_);refine bM fun _ _ _ S=>?_;exact wp_ret (gq [_] S rfl rfl ⟨⟨_,_,_,rfl,rfl,rfl⟩,rfl,trivial⟩)
end
theorem Zq{n:Nat}(c:n<4611686018427387904):Fn 68 [.k (.int .i64 (n:Int))] (iO (n:Int) 0):=by
 have e:iO (n:Int) 0= .g [.k (.bool (false&&decide (0<(dg B n).length))),.ow (dg B n) 0]:=by
  show Δ.g [.k (.bool (decide ((n:Int)<0))),.ow (dg B (n:Int).natAbs) 0]=_;rw[aZ om,vS];rfl
 have a:IntKind.u64.wrap (n:Int)=(n:Int):=by rw[IntKind.wrap_u64];omega
 rw[e];refine dV Tryz.func68 (code:=qf Tryz.f68) rfl rfl fun w ac S=>?_
 refine bM fun _ _ _ S=>?_;refine eH S rfl (rfl) (wp_skip (bM ?_));clear S;intro _ _ _ S;(refine aj S (ok_cv rfl kf (congrArg (Value.int .u64) a)) fun _ _ _ S=>?_);refine bM ?_;(refine aj S (pc (Ac (oh c dc))) fun _ _ _ S=>?_);refine bM ?_;(refine aj S (Ad rfl rfl) fun _ _ _ S=>?_);refine bM fun _ _ _ S=>?_;exact wp_ret (pF [_] S rfl ⟨_,_,_,rfl,rfl,rfl⟩)
