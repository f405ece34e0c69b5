import Derived.Test.YtpopphdnlhihdaaGreatDoorGC
set_option linter.all false
set_option maxHeartbeats 10000000
namespace Go.Proofs.YtpopphdnlhihdaaGreatDoor.Ab
open Go Go.RowKit
inductive RS where
 |t (n:Nat)
 |c (a:Nat) (ag:Bool) (n:Nat)
def cRS(P:Program):List ResultVar→Option (List RS)
 |[]=>some []
 | .tmp t::r=>match cRS P r with|some l=>some (.t t::l)|none=>none
 | .cell a t::r=>match P.info? t,P.underlying t,cRS P r with|some ti,some _,some l=>some (.c a (lN P t) ti.size::l)|_,_,_=>none
def rsq(ag:Bool)(n k:Nat):Option Ob→Option V
 |some o=>if ag then(if k+n≤o.cs.length∧CU o=false then some (.g ((o.cs.drop k).take n))else none)else(if k<o.cs.length then some (o.cs.getD k .un)else none)
 |none=>none
def rsp(s:St)(ag:Bool)(n:Nat):V→Option V
 | .pt j k=>rsq ag n k (s.ob j)
 |_=>none
def rsV(s:St):RS→Option V
 | .t n=>some (s.get n)
 | .c a ag n=>rsp s ag n (s.get a)
def JF:Option V→Option (List V)→Option (List V)
 |some v,some l=>some (v::l)
 |_,_=>none
def FT(s:St):List RS→Option (List V)
 |[]=>some []
 |x::r=>JF (rsV s x) (FT s r)
def Ij(s:St):List V→List V→Prop
 |[],[]=>True
 |v::vs,r::rs=>(match r with| .o _ _ _=>False|r=>iK s v r)∧Ij s vs rs
 |_,_=>False
def VC(s:St)(r:V):Option (List V)→Prop
 |some [v]=>iK s v r
 |some vs=>match r with| .t rs=>Ij s vs rs|_=>False
 |none=>False
def rU(s:St)(rs:List RS)(r:V):Prop:=VC s r (FT s rs)
section
variable {P:Program} {J:World→Prop} {w0:World} {H0:HS} {N:Nat}
variable{H:Nat→Prop}{ov:Nat→Option Value}{vs:List V}
theorem Tj{w:World}{s:St}{F:ResultVar→Sem Value}{x:ResultVar}{l:List ResultVar}{y:RS}{g:List RS}(f:FT s (y::g)=some vs)
 (I:∀v,rsV s y=some v→∃cv,(F x).run P w= .ok cv w∧Rep w H ov cv v)
 (G:∀c,FT s g=some c→∃a:List Value,(l.mapM F).run P w= .ok a w∧a.length=c.length∧∀(j:Nat) (v:Value) (x:V),a[j]? =some v→c[j]? =some x→Rep w H ov v x):
 ∃a:List Value,((x::l).mapM F).run P w= .ok a w∧a.length=vs.length∧∀(j:Nat) (v:Value) (x:V),a[j]? =some v→vs[j]? =some x→Rep w H ov v x:=by
 simp only[FT]at f
 cases m:rsV s y with
 |none=>rw[m]at f;simp[JF]at f
 |some v=>
  cases C:FT s g with
  |none=>rw[m,C]at f;simp[JF]at f
  |some c=>
   rw[m,C]at f;simp only[JF,fU]at f;subst f;obtain⟨cv,r1,r2⟩:=I v m;obtain⟨a,q1,q2,E⟩:=G c C;refine⟨cv::a,?_,by simp[q2],fun j u z A hz=>?_⟩
   ·simp only[List.mapM_cons,Sem.run_bind,r1,Result.andThen_ok,q1,Sem.run_pure]
   ·cases j with
    |zero=>simp at A hz;subst A;subst hz;exact r2
    |succ j=>exact E j u z (by simpa using A) (by simpa using hz)
def Tm(a:Act)(x:ResultVar):Sem Value:=match x with
 |ResultVar.tmp t=>(pure (a.tmps.getD t undef):Sem Value)
 |ResultVar.cell q t=>do loadVar t (←asAddr (a.tmps.getD q undef))
theorem Qz{w:World}{H:Nat→Prop}{ov:Nat→Option Value}{a:Act}{s:St}(C:Conc w0 H0 w H ov N a s):∀(l:List ResultVar) (rs:List RS) (vs:List V),cRS P l=some rs→FT s rs=some vs→
 ∃A:List Value,(l.mapM (Tm a)).run P w= .ok A w∧A.length=vs.length∧∀(j:Nat) (v:Value) (x:V),A[j]? =some v→vs[j]? =some x→Rep w H ov v x
 |[],rs,vs,h,f=>by
  simp only[cRS,fU]at h;subst h;simp only[FT,fU]at f;subst f;exact⟨[],rfl,rfl,fun j v x h=>by simp at h⟩
 | .tmp t::l,rs,vs,h,f=>by
   simp only[cRS]at h;split at h
   ·rename_i J y;cases h;refine Tj f (fun v f=>?_) (fun m Q=>Qz C l J m y Q);simp only[rsV,fU]at f;subst f;exact⟨_,by simp only[Tm,Sem.run_pure],C.env t⟩
   ·cases h
 | .cell q t::l,rs,vs,h,f=>by
   simp only[cRS]at h;split at h
   ·rename_i U d J Z M y;cases h;refine Tj f (fun v f=>?_) (fun m Q=>Qz C l J m y Q);have hq:=C.env q;simp only[rsV]at f;cases hg:s.get q<;>rw[hg]at f hq<;>simp only[rsp]at f<;>(try cases f);case pt j k=>
     obtain⟨b,u,e,T,hb⟩:=hq.uD;cases I:s.ob j with
     |none=>rw[I]at f;cases f
     |some o=>
      rw[I]at f;simp only[rsq]at f;cases z:lN P t<;>rw[z]at f<;>simp only[aJ,if_false,if_true]at f
      ·split at f
       ·rename_i F;cases f;obtain⟨c,O,_,Y,_⟩:=C.mem.at I (bC F) T hb;have G:(isAgg t).run P w= .ok false w:=by
         rw[←z];simp only[isAgg,lN,Sem.run_bind,run_underlying M,Result.andThen_ok,M];cases d<;>rfl
        refine⟨c,?_,?_⟩
        ·simp[Tm,e,asAddr,loadVar,G,O]
        ·have:o.cs.getD k .un=o.cs[k]:=by rw[dN,bC F];rfl
         rw[this];exact Y
       ·cases f
      ·split at f
       ·rename_i F;cases f;obtain⟨us,hl,L,E⟩:=C.mem.row I F.2 F.1 T hb;have:=(vX (P:=P) t b k U.size us hl L Z rfl M).1 z;refine⟨.agg us.toArray,?_,.up (.g us _ E.1 E.2)⟩;simpa[Tm,e,asAddr,Instr.loadAt,Instr.sureAddr]using this
       ·cases f
   ·cases h
variable{r:V}
theorem Tn{s a:St}(h:a.yx=s.yx){v:V}(c:iK s v r):iK a v r:=by
 have e:a.ob=s.ob:=by funext i;show lo a.yx i=lo s.yx i;rw[h]
 unfold iK at*
 rw[e];exact c
def YS(T:Nat):List V→List (Nat×V)→List (Nat×V)
 |[],l=>l
 |v::r,l=>(T,v)::YS (T+1) r l
theorem Tq:∀(vs:List V) (T:Nat) (l:List (Nat×V)) (t:Nat),lk (YS T vs l) t=if T≤t∧t<T+vs.length then vs.getD (t-T) .any else lk l t
 |[],T,l,t=>by simp[YS];omega
 |v::r,T,l,t=>by
  simp only[YS,lk,Tq r (T+1) l t,dX];by_cases h:T=t
  ·subst h;simp
  ·rw[ah h];by_cases h2:T+1≤t∧t<T+1+r.length
   ·rw[au h2,au om,show t-T=(t-(T+1))+1 from om];rfl
   ·rw[ah h2,ah om]
theorem YT(E:∀b,¬H0.e b)(Q:H0.kp=[]){w:World}{a:Act}{s:St}(F:Conc w0 H0 w H ov N a s){c:List Value}(hl:c.length=vs.length)
 (hr:∀(j:Nat) (v:Value) (x:V),c[j]? =some v→vs[j]? =some x→Rep w H ov v x)  (h:VC s r (some vs)):Res w0 w H0.h (match c with|[v]=>v|c=> .tuple c.toArray) r:=by
 have I:=F.MJ
 obtain⟨z,C⟩:∃z:Act,z={a with tmps:=a.tmps++c.toArray}:=⟨_,rfl⟩
 obtain⟨g,y⟩:∃g:St,g={s with env:=YS N vs s.env}:=⟨_,rfl⟩
 have G:∀t,z.tmps.getD t undef=if t<N then a.tmps.getD t undef else c.getD (t-N) undef:=fun t=>by
  rw[C];simp only[lH];by_cases ht:t<N
  ·rw[au ht,Array.getElem?_append_left om]
  ·rw[ah ht,Array.getElem?_append_right om,I];simp[dN]
 have hget:∀t,g.get t=if N≤t∧t<N+vs.length then vs.getD (t-N) .any else s.get t:=fun t=>by rw[y];exact Tq vs N s.env t
 have A:Conc w0 H0 w H ov (N+c.length) z g:=by
  refine⟨?_,by rw[C];simp[I],by rw[C];exact F.I7,fun m v h=>(by rw[Q]at h;cases h),fun t=>?_,?_⟩
  ·have:g.ob=s.ob:=by rw[y];rfl
   rw[this];exact F.mem
  ·rw[G,hget];by_cases ht:N≤t∧t<N+vs.length
   ·rw[ah om,au ht];have f:t-N<c.length:=om;have u:t-N<vs.length:=om;have:=hr (t-N) c[t-N] vs[t-N] (bC f) (bC u);rw[dN,bC f,dN,bC u];exact this
   ·rw[ah ht];by_cases f:t<N
    ·rw[au f];exact F.env t
    ·rw[ah f];have u:=F.env t;rw[lH,Array.getElem?_eq_none om]at u;rw[dN,ng om];exact u
  ·rw[y];exact F.new
 have L:∀j,j<vs.length→g.get (N+j)=vs.getD j .any:=fun j P=>by rw[hget,au om,qX]
 have J:∀j,j<c.length→z.tmps.getD (N+j) undef=c.getD j undef:=fun j P=>by rw[G,ah om,qX]
 have hobs:g.yx=s.yx:=by rw[y]
 match vs,c,hl,h with
 |[v],[M],_,h=>
  have:=xX E A (ts:=[N]) (r:=r) (by
   show iK g (g.get N) r;have f:=L 0 sy;rw[ik]at f;rw[f];exact Tn hobs h)
  have u:=J 0 sy;rw[ik]at u;show Res w0 w H0.h M r;have e:Ey z.tmps [N]=M:=by show z.tmps.getD N undef=M;rw[u];rfl
  rw[e]at this;exact this
 |[],[],_,h=>
  simp only[VC]at h;cases r with
  |t rs=>
   cases rs with
   |nil=>exact xX E A (ts:=[]) (r:= .t []) rfl
   |cons x l=>exact h.elim
  |_=>exact h.elim
 |v::O::vs,M::U::c,hl,h=>
  simp only[VC]at h;cases r with
  |t rs=>
   have gen:∀(vs:List V) (rs:List V) (T:Nat),Ij s vs rs→(∀j,j<vs.length→g.get (T+j)=vs.getD j .any)→iF g (List.range' T vs.length) rs:=by
    intro vs;induction vs with
    |nil=>intro rs T h _;cases rs with|nil=>exact trivial|cons x l=>exact h.elim
    |cons v vs ih=>
     intro rs T h Y;cases rs with
     |nil=>exact h.elim
     |cons r rs=>
      have Z:=Y 0 sy;rw[ik]at Z;refine⟨?_,ih rs (T+1) h.2 fun j P=>by have:=Y (j+1) (by simp;omega);rw[show T+1+j=T+(j+1)from om,this];rfl⟩;rw[Z];have f:=h.1;cases r<;>simp only[]at f ⊢ <;>first|exact Tn hobs f|exact f
   have hN:=gen (v::O::vs) rs N h (fun j P=>L j P);have:=xX E A (ts:=List.range' N (v::O::vs).length) (r:= .t rs) hN;have e:Ey z.tmps (List.range' N (v::O::vs).length)= .tuple (M::U::c).toArray:=by
    show Value.tuple ((List.range' N (v::O::vs).length).map fun t=>z.tmps.getD t undef).toArray=_;congr 2;refine List.ext_getElem (by simp at hl ⊢;omega) fun j f u=>?_
    simp only[List.getElem_map,List.getElem_range',iV];rw[J j (by simpa using u),dN,bC u];rfl
   rw[e]at this;exact this
  |_=>exact h.elim
theorem fC.mkc(tN:P.follows .mixedOrders=true)(O:∀w e w',J w→bT w e w'→J w'){f:FuncId}{fn:Func}{c:Code}{ac:AC}{rs:List RS}{args:List V}(Y:P.funcs[f]? =some fn)(hb:fn.body=some c)(Z:jm P fn.ntmps c=some ac)(G:cRS P fn.results.toList=some rs)(M:Nat.ble args.length fn.ntmps=true)(N:r.G5=false)
 (T:yY (fC P J) (mG P) ac (fun e s=>match e with| .normal=>rU s rs r| .ret=>rU s rs r| .exit _=>False) (xW args)):fC P J f args r:=by
 have hn:args.length≤fn.ntmps:=qY M
 refine .of0 N ?_
 intro w H vs hJ hT hH mf
 refine calls_of_wp Y hb ?_
 have hlen:vs.length=args.length:=mf.1
 have I:(vs.toArray++Array.replicate (fn.ntmps-vs.toArray.size) undef).size=fn.ntmps:=by simp;omega
 have mY:Conc w ⟨H,fun _=>False,[]⟩ w H (fun _=>none) fn.ntmps {tmps:=vs.toArray++Array.replicate (fn.ntmps-vs.toArray.size) undef,defers:=[]} (xW args):=by
  refine⟨⟨bT.refl _ _,hT,hH,fun b hb _=> .inl hb,fun id o h=>(by cases h),fun i j oi oj vi vj b U h=>(by cases h)⟩,I,rfl,fun _ _ h=>(by cases h),fun t=>?_,fun _ _=>rfl⟩;show Rep w H (fun _=>none) _ (lk (eU 0 args) t);rw[vF];simp only[aG,if_true,Nat.sub_zero];by_cases ht:t<args.length
  ·have z:t<vs.length:=om;have:=mf.2 t vs[t] args[t] (bC z) (bC ht);simp only[lH,List.getD,bC ht,jJ];rw[Array.getElem?_append_left (by simpa using z)];simp only[oQ,bC z,jJ];exact .up this
  ·have:args.getD t V.any= .any:=by simp[List.getD,ng (Nat.le_of_not_lt ht)]
   rw[this];exact .any _
 have fin:∀(u:St) (A:Nat→Prop) (g:Nat→Option Value) (C:Act) (w':World),rU u rs r→Conc w ⟨H,fun _=>False,[]⟩ w' A g fn.ntmps C u→∃v,(results fn C.tmps).run P w'= .ok v w'∧Res w w' H v r:=by
  intro u A g C w' m a;unfold rU at m;cases y:FT u rs with
  |none=>rw[y]at m;exact m.elim
  |some us=>
   rw[y]at m;obtain⟨Q,F,E,h3⟩:=Qz (P:=P) a _ _ _ G y;refine⟨_,?_,YT (fun _ h=>h) rfl a E h3 m⟩;have L:fn.results=fn.results.toList.toArray:=sy;unfold results;rw[L];simp only[Array.mapM_eq_mapM_toList,List.toList_toArray,Sem.run_bind,Sem.run_map];erw [F];simp only[Result.andThen_ok,Sem.run_pure];match Q with
   |[]=>rfl
   |[t]=>simp
   |t::t'::ts=>simp
 refine wp_mono (nM (J:=J) (H0:=⟨H,fun _=>False,[]⟩) tN (fun w' hb=>O w _ w' hJ hb) c ac Z (fun _ _ h=>by cases h) _ _ _ w H (fun _=>none) mY T) fun e C w' hq=>?_
 cases e with
 |normal=>
  obtain⟨u,A,g,m,a⟩:=hq;obtain⟨v,F,E⟩:=fin u A g C w' m a;exact⟨a.I7,v,F,v,rfl,a.mem.bel.below (fun _ h=>h),E⟩
 |ret=>
  obtain⟨u,A,g,m,a⟩:=hq;obtain⟨v,F,E⟩:=fin u A g C w' m a;exact⟨a.I7,v,F,v,rfl,a.mem.bel.below (fun _ h=>h),E⟩
 |exit i=>obtain⟨u,A,g,m,_⟩:=hq;exact m.elim
 |goto l=>exact hq.elim
 |panic ch=>exact hq.elim
 |outgrown=>exact hq.elim
end
section
variable {s:St} {ag:Bool} {n j k a:Nat} {v r:V} {e sz:Nat} {cs:List V} {mu q:Bool} {l:List RS} {vs:List V}
theorem iy:FT s []=some []:=rfl
theorem fG{x:RS}:FT s (x::l)=JF (rsV s x) (FT s l):=rfl
theorem qp:rsV s (.t a)=some (s.get a):=rfl
theorem qw:rsV s (.c a ag n)=rsp s ag n (s.get a):=rfl
theorem lJ:rsp s ag n (.pt j k)=rsq ag n k (s.ob j):=rfl
theorem qA:rsq true n k (some ⟨e,sz,cs,mu,q⟩)=if k+n≤cs.length∧CU ⟨e,sz,cs,mu,q⟩=false then some (.g ((cs.drop k).take n))else none:=rfl
theorem qB:rsq false n k (some ⟨e,sz,cs,mu,q⟩)=if k<cs.length then some (cs.getD k .un)else none:=rfl
theorem iC:JF (some v) (some vs)=some (v::vs):=rfl
theorem lK:VC s r (some [v])=iK s v r:=rfl
variable{rs:List V}
theorem lL{a:V}:VC s (.t rs) (some (v::a::vs))=Ij s (v::a::vs) rs:=rfl
theorem fH:Ij s [] []=True:=rfl
theorem eF:Ij s (v::vs) (r::rs)=((match r with| .o _ _ _=>False|r=>iK s v r)∧Ij s vs rs):=rfl
end
variable{P:Program}{J:World→Prop}{f:FuncId}{fn:Func}{c:Code}{args:List V}{r:V}
theorem mkcQ(tN:P.follows .mixedOrders=true)(l:∀w e w',J w→bT w e w'→J w')(m:P.funcs[f]? =some fn)(ac:AC)(rs:List RS)
 (k:vm (fC P J) (mG P) [.c ac] (fun e s=>match e with| .normal=>rU s rs r| .ret=>rU s rs r| .exit _=>False) (xW args))
 (hb:fn.body=some c:=by rfl) (u:jm P fn.ntmps c=some ac:=by kernel_rfl) (a:cRS P fn.results.toList=some rs:=by kernel_rfl) (g:Nat.ble args.length fn.ntmps=true:=by rfl) (j:r.G5=false:=by rfl):fC P J f args r:=
 fC.mkc tN l m hb u a g j (gm k)
theorem b_(tN:P.follows .mixedOrders=true)(l:∀w e w',J w→bT w e w'→J w'){q:Prop}(m:P.funcs[f]? =some fn)(rs:List RS)(k:q)
 (hb:fn.body=some c:=by rfl) (u:jm P fn.ntmps c=some (gc P fn):=by kernel_rfl) (a:cRS P fn.results.toList=some rs:=by kernel_rfl) (g:Nat.ble args.length fn.ntmps=true:=by rfl) (j:r.G5=false:=by rfl)
 (h:PLift q→vm (fC P J) (mG P) [.c (gc P fn)] (fun e s=>match e with| .normal=>rU s rs r| .ret=>rU s rs r| .exit _=>False) (xW args):=by
   intro hq;conv=>arg 3;reduce
   simp only[dw,eU,Int.reduceOfNat,Int.reduceNegSucc];exact hq.down):fC P J f args r:=
 fC.mkc tN l m hb u a g j (gm (h ⟨k⟩))
