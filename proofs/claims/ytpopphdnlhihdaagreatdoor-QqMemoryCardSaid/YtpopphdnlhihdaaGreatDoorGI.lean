import Derived.ProofKit
import Derived.OpenShut
import Derived.JoinedCond
import Derived.Carry
import Derived.ChangeSlices
import Derived.Test.YtpopphdnlhihdaaGreatDoorGD
set_option linter.all false
set_option maxHeartbeats 10000000
namespace Go.Proofs.YtpopphdnlhihdaaGreatDoor
open Go Go.ChangeShapes Go.WideShapes Go.ChangeAt Go.RowKit Ab
theorem BD{H:Type}{enc:TypeId×Value→H}{P:Program}(hl:laidOutB P=true){W g:World}(hb:Below W.heap.size W g):
 ∀{ts:List TypeId} {vs:List Value} {ds:List (DataW H)} {ps:List MemPlace},(∀t,t∈ts→P.readableRec t=true∧t<P.types.size)→DataW.TrodAll enc P W 0 (fun _=>true) true ts vs ds ps→(∀x,x∈ps→x.block<W.heap.size)→
  DataW.TrodAll enc P g 0 (fun b=>decide (b<W.heap.size)) true ts vs ds ps
 |[],vs,ds,ps,_,h,_=>by
  obtain⟨rfl,rfl,rfl⟩:=trodAll_nil h;exact trodAll_mk0
 |t::ts,vs,ds,ps,f,h,a=>by
  obtain⟨v0,j,A,y,z,q0,rfl,rfl,rfl,u,r0⟩:=trodAll_cons h;have m:=Below.trod hl (f t jM).1 (f t jM).2 u hb fun x c=>a x (uC _ c)
  have l:=BD hl hb (fun t ht=>f t (jD _ ht)) r0 fun x c=>a x (yI _ c)
  exact trodAll_cons_mk m l
variable{H:Type}
theorem Vh{enc:TypeId×Value→H}{P:Program}{f:Func}{s:ChangeSpec}{W y:World}{args:Array Value}{ds gs:List (DataW H)}{before:List MemPlace}{t:TypeId}
 (hl:laidOutB P=true) (u:s.vars=[]) (A:∀t,t∈f.params.toList→P.readableRec t=true∧t<P.types.size) (c:f.resultTypes=#[t]) (ht:P.underlying t=some .bool)
 (l:DataW.Whole enc P f.params.toList s.vars false W args.toList ds gs before) (a:s.fn H (ds++gs)={results:=[.lit (.bool true)],args:=ds}) (hb:Below W.heap.size W y):
 s.post enc P f false true false false W args (.bool true) y:=by
 have g:=l.lt
 have j:=l
 obtain⟨p,q,C,m,rfl,_,_⟩:=j
 rw[u]at m
 obtain⟨rfl,rfl⟩:=trodVars_none m
 refine⟨ds,[],p++[],[],p,[],l,?_,?_,?_,?_,fun h=>by cases h⟩
 ·rw[a,c];exact trodAll_cons_mk (shut_bool ht _) trodAll_mk0
 ·rw[a];exact BD hl hb A C fun x z=>g x (uC _ z)
 ·rw[a,u];exact m
 ·exact hb.frame _
def mg{H:Type}(enc:TypeId×Value→H)(P:Program)(w:World)(t:TypeId)(Q:List V→Nat→Prop):Prop:=
 ∀fuel cs (d:DataW H) ps,DataW.trod enc P w 0 (fun _=>true) true fuel t cs=some (d,ps)→(∀x,x∈ps→x.block<w.heap.size)→
  ∃xs n,Q xs n∧n≤Rows.uptoBulk d∧aB w (fun b=>b<w.heap.size) cs xs
def Vj(k:IntKind)(xs:List V)(n:Nat):Prop:=∃m,xs=[.i k m]∧(Lit.int k m).wf=true∧n=1
def YB(xs:List V)(n:Nat):Prop:=∃b,xs=[.b b]∧n=1
def QStr(xs:List V)(n:Nat):Prop:=∃l:List UInt8,xs=[.s l]∧l.length≤maxLen∧n=l.length+1
def QSl(sz:Nat)(Q:List V→Nat→Prop)(xs:List V)(n:Nat):Prop:=
 ∃es:List (List V×Nat),xs=[.l sz (es.map (·.1)).flatten]∧(∀p,p∈es→Q p.1 p.2∧p.1.length=sz)∧es.length≤maxLen∧n=(es.map (·.2)).sum+1
def QSt2(Q1 Q2:List V→Nat→Prop)(xs:List V)(n:Nat):Prop:=∃x1 x2 n1 n2,xs=x1++x2∧Q1 x1 n1∧Q2 x2 n2∧n=n1+n2+1
section
variable {H:Type} {enc:TypeId×Value→H} {P:Program} {w:World}
variable{H':Nat→Prop}{t:TypeId}
theorem tq{v:Value}{x:V}(h:Rep0 w H' v x):aB w H' [v] [x]:=⟨rfl,fun j u y a c=>by
 cases j with
 |zero=>cases a;cases c;exact h
 |succ j=>cases a⟩
theorem Qi:aB w H' [] []:=⟨rfl,fun j u y a c=>by cases a⟩
theorem jV{vs us:List Value}{xs g:List V}(h:aB w H' vs xs)(k:aB w H' us g):aB w H' (vs++us) (xs++g):=by
 refine⟨by rw[bZ,bZ,h.1,k.1],fun j v x f c=>?_⟩;rcases dW j vs.length with a|a
 ·rw[uO a]at f;rw[uO (by rw[←h.1];exact a)]at c;exact h.2 j v x f c
 ·rw[rY a]at f;rw[rY (by rw[←h.1];exact a),←h.1]at c;exact k.2 _ v x f c
theorem AU{k:IntKind}(ht:P.underlying t=some (.int k)):mg enc P w t (Vj k):=fun fuel cs d ps h _=>by
 obtain⟨n,rfl,c,a⟩:=DataW.trod_int ht h;cases c;exact⟨_,1,⟨n,rfl,a,rfl⟩,aY _,tq (.i k n)⟩
theorem Qj(ht:P.underlying t=some .bool):mg enc P w t YB:=fun fuel cs d ps h _=>by
 obtain⟨b,rfl,a⟩:=DataW.trod_bool ht h;cases a;exact⟨_,1,⟨b,rfl,rfl⟩,aY _,tq (.b b)⟩
theorem KJ(ht:P.underlying t=some .string):mg enc P w t QStr:=fun fuel cs d ps h _=>by
 obtain⟨s,rfl,f,a⟩:=DataW.trod_string ht h;cases f;refine⟨_,_,⟨s.data.toList,rfl,by simpa using a,rfl⟩,by simp[Rows.uptoBulk],tq ?_⟩;have:s=⟨s.data.toList.toArray⟩:=by cases s;simp
 have c:=Rep0.s (w:=w) (H:=fun b=>b<w.heap.size) s.data.toList;rwa[←this]at c
theorem Qk(l:List (DataW H))(a:List Nat)(hl:a.length=l.length)(h:∀(i:Nat) (n:Nat) (d:DataW H),a[i]? =some n→l[i]? =some d→n≤Rows.uptoBulk d):a.sum≤Rows.uptoBulkAll l:=by
 induction l generalizing a with
 |nil=>cases a with
  |nil=>exact aG _
  |cons=>simp at hl
 |cons d r c=>cases a with
  |nil=>simp at hl
  |cons n a=>
   have m:=h 0 n d rfl rfl;have j:=c a (by simpa using hl) fun i n d f g=>h (i+1) n d (by simpa using f) (by simpa using g)
   simp only[List.sum_cons,Rows.uptoBulkAll];omega
variable{α:Type}
theorem NM(n:Nat)(R:Nat→α→Prop)(h:∀i,i<n→∃y,R i y):∃a:List α,a.length=n∧∀i y,a[i]? =some y→R i y:=by
 induction n with
 |zero=>exact⟨[],rfl,fun i y h=>by cases h⟩
 |succ n f=>
  obtain⟨a,hl,g⟩:=f fun i m=>h i om
  obtain⟨y,j⟩:=h n om;refine⟨a++[y],by simp[hl],fun i z hz=>?_⟩;rcases dW i n with l|l
  ·rw[uO om]at hz;exact g i z hz
  ·rw[rY om]at hz;obtain rfl:i=n:=by
    rcases dW (i-a.length) 1 with c|c
    ·omega
    ·rw[ng (by simpa using c)]at hz;cases hz
   rw[hl,gW]at hz;cases hz;exact j
theorem Fa(sz:Nat)(ls:List (List α))(h:∀l,l∈ls→l.length=sz):ls.flatten.length=ls.length*sz:=by
 induction ls with
 |nil=>simp
 |cons l r a=>rw[xx,bZ,a fun l hl=>h l (jD _ hl),h l jM,dX,Nat.succ_mul,Nat.add_comm]
theorem zT(sz:Nat)(ls:List (List α))(h:∀l,l∈ls→l.length=sz)(i k:Nat)(c:k<sz):ls.flatten[i*sz+k]? =(ls[i]?).bind (·[k]?):=by
 induction ls generalizing i with
 |nil=>simp
 |cons l r a=>
  have hl:=h l jM;cases i with
  |zero=>simp only[iT,eY,xx,Jm,Option.bind_some];rw[uO om]
  |succ i=>
   rw[xx,rY (by rw[hl,Nat.succ_mul];omega),hl,show(i+1)*sz+k-sz=i*sz+k from by rw[Nat.succ_mul];omega,a fun l hl=>h l (jD _ hl)];rfl
theorem Fb{e:TypeId}{sz:Nat}{Q:List V→Nat→Prop}(ht:P.underlying t=some (.slice e))(hc:P.cellsOf e=sz)(f:0<sz)(he:mg enc P w e Q):mg enc P w t (QSl sz Q):=fun fuel cs d ps h hlt=>by
 rcases DataW.trod_slice ht h with ⟨rfl,h2⟩|⟨a,len,cap,elems,rest,n,_,rfl,h2,hb,hl,hm,hlen,hel,hsp,hns⟩
 ·cases h2;refine⟨_,1,⟨[],rfl,fun p N=>(by cases N),aG _,rfl⟩,aY _,tq ?_⟩;exact .l none 0 0 sz [] (fun _=>undef) 0 0 f sy (aG _) (aY _) (.inl rfl) (fun j J=>(by cases J)) (fun j x C=>(by cases C))
 ·cases h2;have each:∀i,i<len→∃y:List V×Nat×List Value,(Q y.1 y.2.1∧y.1.length=sz)∧aB w (fun b=>b<w.heap.size) y.2.2 y.1∧w.cells? 0 (a.add (i*sz)) sz=some y.2.2∧∃d p,elems[i]? =some (d,p)∧y.2.1≤Rows.uptoBulk d:=fun i z=>by
   have h1:=hel i z;obtain⟨⟨d,p⟩,L⟩:∃y,elems[i]? =some y:=⟨elems[i],bC om⟩;rw[L,Option.bind_eq_some_iff]at h1;obtain⟨cs',A,h4⟩:=h1;obtain⟨xs,m,hq,hle,M⟩:=he n cs' d p h4 fun x C=>hlt x (by
    refine yI _ (nN.2 ⟨(d,p),uC _ (dP L),C⟩))
   rw[hc]at A;refine⟨⟨xs,m,cs'⟩,⟨hq,?_⟩,M,A,d,p,L,hle⟩;rw[←M.1];exact(World.cells?_some A).2.1
  obtain⟨g,G,H⟩:=NM len (fun i (y:List V×Nat×List Value)=>(Q y.1 y.2.1∧y.1.length=sz)∧aB w (fun b=>b<w.heap.size) y.2.2 y.1∧w.cells? 0 (a.add (i*sz)) sz=some y.2.2∧∃d p,elems[i]? =some (d,p)∧y.2.1≤Rows.uptoBulk d) each;refine⟨_,_,⟨g.map fun y=>(y.1,y.2.1),rfl,fun p N=>?_,by rw[iJ,G];omega,rfl⟩,?_,tq ?_⟩
  ·obtain⟨y,c,rfl⟩:=eG.1 N;obtain⟨i,z⟩:=List.getElem?_of_mem c;exact(H i y z).1
  ·simp only[Rows.uptoBulk,List.map_map];have:=Qk (elems.map (·.1)) (g.map fun y=>y.2.1) (by rw[iJ,iJ,G,hlen]) fun i m d hm L=>by
    rw[iU,jT]at hm L;obtain⟨y,c,rfl⟩:=hm;obtain⟨⟨d',p⟩,hd1,rfl⟩:=L;obtain⟨_,_,_,d2,p2,U,hle⟩:=H i y c;rw[hd1]at U;cases U;exact hle
   simp only[Function.comp_def];omega
  ·have hall:∀l,l∈g.map (fun y=>y.1)→l.length=sz:=fun l hl=>by
    obtain⟨y,c,rfl⟩:=eG.1 hl;obtain⟨i,z⟩:=List.getElem?_of_mem c;exact(H i y z).1.2
   have NP:∀l,l∈g.map (fun y=>y.2.2)→l.length=sz:=fun l hl=>by
    obtain⟨y,c,rfl⟩:=eG.1 hl;obtain⟨i,z⟩:=List.getElem?_of_mem c;rw[(H i y z).2.1.1];exact(H i y z).1.2
   have e1:(g.map fun y=>(y.1,y.2.1)).map (·.1)=g.map fun y=>y.1:=by rw[List.map_map];rfl
   rw[e1];have T:=Fa sz _ hall;have F:=Fa sz _ NP;rw[iJ,G]at T F;rcases kz len with Y|Y
   ·subst Y;have:(g.map fun y=>y.1).flatten=[]:=nz om;rw[this];exact .l _ 0 cap sz [] (fun _=>undef) 0 0 f sy (aG _) (aG _) (.inl rfl) (fun j J=>(by cases J)) (fun j x C=>(by cases C))
   ·have cell:∀i k,i<len→k<sz→w.cell? ((a.add (i*sz)).add k)=((g.map fun y=>y.2.2).flatten)[i*sz+k]? :=fun i k z E=>by
     obtain⟨y,c⟩:∃y,g[i]? =some y:=⟨g[i],bC om⟩;obtain⟨_,_,A,_⟩:=H i y c;rw[zT sz _ NP i k E,iU,c];exact(World.cells?_some A).2.2 k E
    have c0:=cell 0 0 Y f;obtain⟨b,off,spot⟩:=a;have hc0:∃u,w.cell? ⟨b,off,spot⟩=some u:=by
     have N:0*sz+0<(g.map fun y=>y.2.2).flatten.length:=by rw[F];have:=Nat.mul_pos Y f;omega
     rw[bC N]at c0;exact⟨_,by simpa[Addr.add]using c0⟩
    obtain⟨u,hu⟩:=hc0;have hspot:spot=none:=World.cell?_spot (w:=w) (a:=⟨b,off,spot⟩) hu;subst hspot;have hbl:b<w.heap.size:=by
     rcases dW b w.heap.size with A|A
     ·exact A
     ·have h5:w.heap[b]? =none:=by simp[A]
      simp[World.cell?,h5]at hu
    refine .l _ len cap sz _ (fun j=>((g.map fun y=>y.2.2).flatten).getD j undef) b off f T om hl (.inr ⟨rfl,hbl⟩) (fun j J=>?_) (fun j x C=>?_)
    ·have z:j/sz<len:=(fP f).2 om;have E:j%sz<sz:=cu _ f;have I:j/sz*sz+j%sz=j:=by rw[bV];exact qo j sz
     have:=cell (j/sz) (j%sz) z E;rw[Go.WideShapes.add_plain,Go.WideShapes.add_plain,tY,I]at this;rw[this,bC om,dN,bC om];rfl
    ·have J:j<len*sz:=by have:=(iR.1 C).1;omega
     have z:j/sz<len:=(fP f).2 J;have E:j%sz<sz:=cu _ f;have I:j/sz*sz+j%sz=j:=by rw[bV];exact qo j sz
     obtain⟨y,c⟩:∃y,g[j/sz]? =some y:=⟨g[j/sz],bC om⟩;obtain⟨⟨_,hl1⟩,M,_⟩:=H _ y c;have g1:=zT sz _ hall (j/sz) (j%sz) E;have Z:=zT sz _ NP (j/sz) (j%sz) E;rw[I,iU,c]at g1 Z;simp only[kZ,Option.bind_some]at g1 Z;rw[C]at g1;have O:j%sz<y.2.2.length:=by rw[M.1,hl1];exact E
     rw[bC O]at Z;rw[dN,Z];exact M.2 (j%sz) _ x (bC O) g1.symm
theorem BF{g f:Field}{s1 s2:Nat}{z y:List V→Nat→Prop}(ht:P.underlying t=some (.struct #[g,f]))(A:g.offset=0)(o2:f.offset=s1)(c1:P.cellsOf g.type=s1)(c2:P.cellsOf f.type=s2)
 (F:P.cellsOf t=s1+s2) (h1:mg enc P w g.type z) (h2:mg enc P w f.type y):mg enc P w t (QSt2 z y):=fun fuel cs d ps h c=>by
 obtain⟨xs,n,_,a,hl,C,j⟩:=DataW.trod_struct ht h
 match xs,C with
 |[⟨H,p1⟩,⟨G,p2⟩],_=>
  cases a;have u:=j 0 g rfl;have m:=j 1 f rfl;simp only[A,o2,c1,c2,List.drop_zero,Jm,List.getElem?_cons_succ]at u m;obtain⟨x1,n1,q1,l1,r1⟩:=h1 _ _ _ _ u fun x a=>c x (by simp[a])
  obtain⟨x2,n2,q2,E,r2⟩:=h2 _ _ _ _ m fun x a=>c x (by simp[a])
  refine⟨_,_,⟨x1,x2,n1,n2,rfl,q1,q2,rfl⟩,by simp[Rows.uptoBulk,Rows.uptoBulkAll];omega,?_⟩;have e:cs=cs.take s1++(cs.drop s1).take s2:=by
   rw[jB (l:=cs.drop s1) (by rw[uM];omega),List.take_append_drop]
  rw[e];exact jV r1 r2
def QAll:List (TypeId×Bool×(List V→Nat→Prop))→List V→Nat→Prop
 |[],av,n=>av=[]∧n=0
 |(_,ag,Q)::r,av,n=>∃a av' xs n1 n2,av=a::av'∧Q xs n1∧(if ag=true then a= .g xs else xs=[a])∧QAll r av' n2∧n=n1+n2
def H7{H:Type}(enc:TypeId×Value→H)(P:Program)(w:World):List (TypeId×Bool×(List V→Nat→Prop))→Prop
 |[]=>True
 |(t,ag,Q)::r=>(mg enc P w t Q∧ag=lN P t)∧H7 enc P w r
theorem KL{v:Value}{base:Nat}(a:Value.okWide P w .any base t v):if lN P t=true then∃cs,v= .agg cs else v.cells=#[v]:=by
 unfold Value.okWide at a;unfold lN;split at a
 ·rename_i h;rw[h];simp only[if_true];obtain⟨cs,h,_⟩:=a;exact⟨cs,h⟩
 ·rename_i h;rw[h];simp only[if_true];obtain⟨cs,h,_⟩:=a;exact⟨cs,h⟩
 ·rename_i j g;have:∀cs,v≠ .agg cs:=fun cs e=>by
   subst e;unfold Cell.okWide at a;split at a<;>first|simp_all [Cell.ok]|skip
  have f:v.cells=#[v]:=by cases v<;>first|rfl|(exact absurd rfl (this _))
  cases c:P.underlying t with
  |none=>simpa using f
  |some u=>cases u<;>first|(exact absurd c (j _))|(exact absurd c (g _ _))|(simpa using f)
theorem H8{base:Nat}:∀{ps:List (TypeId×Bool×(List V→Nat→Prop))} {vs:List Value} {ds:List (DataW H)} {mp:List MemPlace},H7 enc P w ps→
 DataW.TrodAll enc P w 0 (fun _=>true) true (ps.map (·.1)) vs ds mp→(∀x,x∈mp→x.block<w.heap.size)→(∀(j:Nat) t v,(ps.map (·.1))[j]? =some t→vs[j]? =some v→Value.okWide P w .any base t v)→
 ∃y n,QAll ps y n∧n≤Rows.uptoBulkAll ds∧aB w (fun b=>b<w.heap.size) vs y∧ds.length=ps.length
 |[],vs,ds,mp,_,h,_,_=>by
  obtain⟨rfl,rfl,rfl⟩:=trodAll_nil h;exact⟨[],0,⟨rfl,rfl⟩,aG _,Qi,rfl⟩
 |(t,ag,Q)::ps,vs,ds,mp,T,h,u,l=>by
  obtain⟨v0,M,d0,ds0,p0,q0,rfl,rfl,rfl,Z,r0⟩:=trodAll_cons h;obtain⟨⟨F,J⟩,E⟩:=T;obtain⟨y,n,hq,hle,O,I⟩:=H8 (base:=base) E r0 (fun x z=>u x (yI _ z)) fun j t v ht N=>l (j+1) t v (by simpa using ht) (by simpa using N)
  obtain⟨fuel,U⟩:=Z;have f:=KL (l 0 t v0 rfl rfl);obtain⟨xs,m,C,L,c⟩:=F fuel _ _ _ U fun x z=>u x (uC _ z)
  have:∃a,(if ag=true then a= .g xs else xs=[a])∧Rep0 w (fun b=>b<w.heap.size) v0 a:=by
   subst J;split at f
   ·rename_i G;obtain⟨cs,rfl⟩:=f;refine⟨.g xs,by rw[au G],?_⟩;have:=Rep0.g (w:=w) (H:=fun b=>b<w.heap.size) cs.toList xs c.1 c.2;simpa using this
   ·rename_i G;rw[f]at c;match xs,c with
    |[x],c=>exact⟨x,by rw[ah G],c.2 0 v0 x rfl rfl⟩
    |[],c=>have:=c.1;simp at this
    |_::_::_,c=>have:=c.1;simp at this
  obtain⟨a,Y,A⟩:=this;refine⟨a::y,m+n,⟨a,y,xs,m,n,rfl,C,Y,hq,rfl⟩,by simp only[Rows.uptoBulkAll];omega,jV (tq A) O,by simp[I]⟩
theorem JW{J:World→Prop}{f:FuncId}{fn:Func}{s:ChangeSpec}{tb:TypeId}(hJ:J w)(Z:TJ w (fun b=>b<w.heap.size))(hl:laidOutB P=true)(l:s.vars=[])(O:∀t,t∈fn.params.toList→P.readableRec t=true∧t<P.types.size)(y:fn.resultTypes=#[tb])(ht:P.underlying tb=some .bool)
 (ps:List (TypeId×Bool×(List V→Nat→Prop))) (c:fn.params.toList=ps.map (·.1)) (Q:H7 enc P w ps)
 (A:∀ds:List (DataW H),ds.length=ps.length→s.fn H (ds++[])={results:=[.lit (.bool true)],args:=ds})
 {base:Nat} {args:Array Value} {ds gs:List (DataW H)} {before:List MemPlace} (hval:∀(j:Nat) t v,fn.params[j]? =some t→args[j]? =some v→Value.okWide P w .any base t v)
 (F:DataW.Whole enc P fn.params.toList s.vars false w args.toList ds gs before)
 (spec:∀m n,QAll ps m n→n≤Rows.uptoBulkAll (ds++gs)→fC P J f m (.b true)):
 Calls P f args w fun e I=>∃v,e= .returned v∧s.post enc P fn false true false false w args v I:=by
 have E:=F
 have z:=F.lt
 obtain⟨p,q,hA,G,rfl,U,T⟩:=F
 rw[l]at G
 obtain⟨rfl,rfl⟩:=trodVars_none G
 have g:=hA
 rw[c]at g
 obtain⟨m,n,hq,hle,M,C⟩:=H8 (base:=base) Q g (fun x L=>z x (uC _ L)) fun j t v ht l=>hval j t v (by
  have:fn.params.toList[j]? =some t:=by rw[c];exact ht
  simpa using this) (by simpa using l)
 refine((spec m n hq (by rw[qF];exact hle)) w _ args.toList hJ Z (fun b hb=>hb) M).mono fun e I ⟨v,Y,hb,hres⟩=>?_
 subst Y
 have u:v= .bool true:=by
  obtain⟨N,_,a⟩:=hres;rcases a with a|⟨_,_,_,_,_,a,_⟩|⟨_,a,_⟩
  ·cases a;rfl
  ·cases a
  ·cases a
 subst u
 exact⟨_,rfl,Vh hl l O y ht E (A ds C) hb⟩
end
abbrev QNat:List V→Nat→Prop:=QSl 1 (Vj .u64)
theorem JC{enc:TypeId×Value→H}{w:World}:mg enc Tryz.prog w 23 QNat:=Fb Tryz.underlying23 kf Nat.zero_lt_one (AU Tryz.underlying49)
theorem YC{xs:List V}{n:Nat}(h:QNat xs n):∃a:List Nat,xs=[.l 1 (W a)]∧Wd a∧a.length≤n:=by
 obtain⟨es,rfl,A,_,rfl⟩:=h;have key:∀es:List (List V×Nat),(∀p,p∈es→Vj .u64 p.1 p.2∧p.1.length=1)→∃a:List Nat,(es.map (·.1)).flatten=W a∧Wd a∧a.length≤(es.map (·.2)).sum:=by
  intro es;induction es with
  |nil=>intro _;exact⟨[],rfl,BZ,aG _⟩
  |cons p r j=>
   intro h;obtain⟨a,e,c,g⟩:=j fun q hq=>h q (jD _ hq)
   obtain⟨m,z,u,y⟩:=(h p jM).1;have hb:0≤m∧m<18446744073709551616:=by
    simp[Lit.wf,IntKind.min,IntKind.max,IntKind.signed,IntKind.bits]at u;omega
   refine⟨m.toNat::a,?_,fun x f=>?_,?_⟩
   ·rw[dI,xx,e,z];simp only[W,dI,List.singleton_append];rw[Int.toNat_of_nonneg hb.1]
   ·rcases dZ.1 f with rfl|f
    ·show m.toNat<18446744073709551616;omega
    ·exact c x f
   ·simp only[dX,dI,List.sum_cons,y];omega
 obtain⟨a,e,c,g⟩:=key es A;exact⟨a,by rw[e],c,Nat.le_succ_of_le g⟩
theorem wf64{n:Int}(h:(Lit.int .i64 n).wf=true): -9223372036854775808≤n∧n<9223372036854775808:=by
 simp[Lit.wf,IntKind.min,IntKind.max,IntKind.signed,IntKind.bits]at h;omega
theorem own:ownKnob Tryz.prog.godebug=none:=by kernel_rfl
theorem laid:laidOutB Tryz.prog=true:=by kernel_rfl
