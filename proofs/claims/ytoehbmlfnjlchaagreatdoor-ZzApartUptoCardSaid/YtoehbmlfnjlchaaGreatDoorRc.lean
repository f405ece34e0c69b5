import Derived.Test.YtoehbmlfnjlchaaGreatDoorGC
set_option linter.all false
set_option maxHeartbeats 10000000
namespace Go.Proofs.YtoehbmlfnjlchaaGreatDoor.Ab
open Go Go.RowKit
inductive RS where
 |t (n:Nat)
 |c (a:Nat) (ag:Bool) (n:Nat)
def XA(P:Program):List ResultVar→Option (List RS)
 |[]=>some []
 | .tmp t::r=>match XA P r with|some l=>some (.t t::l)|none=>none
 | .cell a t::r=>match P.info? t,P.underlying t,XA P r with|some ti,some _,some l=>some (.c a (nK P t) ti.size::l)|_,_,_=>none
def rsq(ag:Bool)(n k:Nat):Option Ob→Option V
 |some o=>if ag then(if k+n≤o.cs.length∧r_ o=false then some (.g ((o.cs.drop k).take n))else none)else(if k<o.cs.length then some (o.cs.getD k .un)else none)
 |none=>none
def rsp(s:St)(ag:Bool)(n:Nat):V→Option V
 | .pt j k=>rsq ag n k (s.ob j)
 |_=>none
def XB(s:St):RS→Option V
 | .t n=>some (s.get n)
 | .c a ag n=>rsp s ag n (s.get a)
def Bz:Option V→Option (List V)→Option (List V)
 |some v,some l=>some (v::l)
 |_,_=>none
def xI(s:St):List RS→Option (List V)
 |[]=>some []
 |x::r=>Bz (XB s x) (xI s r)
def zJ(s:St):List V→List V→Prop
 |[],[]=>True
 |v::vs,r::rs=>(match r with| .o _ _ _=>False|r=>iK s v r)∧zJ s vs rs
 |_,_=>False
def LV(s:St)(r:V):Option (List V)→Prop
 |some [v]=>iK s v r
 |some vs=>match r with| .t rs=>zJ s vs rs|_=>False
 |none=>False
def uI(s:St)(rs:List RS)(r:V):Prop:=LV s r (xI s rs)
section
variable {P:Program} {J:World→Prop} {w0:World} {H0:HS} {N:Nat}
theorem Jr{w:World}{H:Nat→Prop}{ov:Nat→Option Value}{s:St}{F:ResultVar→Sem Value}{x:ResultVar}{l:List ResultVar}{y:RS}{rs':List RS}{vs:List V}(hv:xI s (y::rs')=some vs)
 (hy:∀v,XB s y=some v→∃cv,(F x).run P w= .ok cv w∧Rep w H ov cv v)
 (ih:∀vs',xI s rs'=some vs'→∃tX:List Value,(l.mapM F).run P w= .ok tX w∧tX.length=vs'.length∧∀(j:Nat) (v:Value) (x:V),tX[j]? =some v→vs'[j]? =some x→Rep w H ov v x):
 ∃tX:List Value,((x::l).mapM F).run P w= .ok tX w∧tX.length=vs.length∧∀(j:Nat) (v:Value) (x:V),tX[j]? =some v→vs[j]? =some x→Rep w H ov v x:=by
 simp only[xI]at hv
 cases h1:XB s y with
 |none=>rw[h1]at hv;simp[Bz]at hv
 |some v=>
  cases h2:xI s rs' with
  |none=>rw[h1,h2]at hv;simp[Bz]at hv
  |some vs'=>
   rw[h1,h2]at hv;simp only[Bz,Option.some.injEq]at hv;subst hv;obtain⟨cv,r1,r2⟩:=hy v h1;obtain⟨tX,q1,q2,q3⟩:=ih vs' h2;refine⟨cv::tX,?_,by simp[q2],fun j u z hu hz=>?_⟩
   ·simp only[List.mapM_cons,Sem.run_bind,r1,Result.andThen_ok,q1,Sem.run_pure]
   ·cases j with
    |zero=>simp at hu hz;subst hu;subst hz;exact r2
    |succ j=>exact q3 j u z (by simpa using hu) (by simpa using hz)
def Js(a:Act)(x:ResultVar):Sem Value:=match x with
 |ResultVar.tmp t=>(pure (a.tmps.getD t undef):Sem Value)
 |ResultVar.cell q t=>do loadVar t (←asAddr (a.tmps.getD q undef))
theorem Hy{w:World}{H:Nat→Prop}{ov:Nat→Option Value}{a:Act}{s:St}(hc:Conc w0 H0 w H ov N a s):∀(l:List ResultVar) (rs:List RS) (vs:List V),XA P l=some rs→xI s rs=some vs→
 ∃tX:List Value,(l.mapM (Js a)).run P w= .ok tX w∧tX.length=vs.length∧∀(j:Nat) (v:Value) (x:V),tX[j]? =some v→vs[j]? =some x→Rep w H ov v x
 |[],rs,vs,h,hv=>by
  simp only[XA,Option.some.injEq]at h;subst h;simp only[xI,Option.some.injEq]at hv;subst hv;exact⟨[],rfl,rfl,fun j v x h=>by simp at h⟩
 | .tmp t::l,rs,vs,h,hv=>by
   simp only[XA]at h;split at h
   ·rename_i l' hl';cases h;refine Jr hv (fun v hv=>?_) (fun vs' h2=>Hy hc l l' vs' hl' h2);simp only[XB,Option.some.injEq]at hv;subst hv;exact⟨_,by simp only[Js,Sem.run_pure],hc.env t⟩
   ·cases h
 | .cell q t::l,rs,vs,h,hv=>by
   simp only[XA]at h;split at h
   ·rename_i ti d l' hi hd hl';cases h;refine Jr hv (fun v hv=>?_) (fun vs' h2=>Hy hc l l' vs' hl' h2);have hq:=hc.env q;simp only[XB]at hv;cases hg:s.get q<;>rw[hg]at hv hq<;>simp only[rsp]at hv<;>(try cases hv);case pt j k=>
     obtain⟨b,u,e,hu,hb⟩:=hq.jY;cases ho:s.ob j with
     |none=>rw[ho]at hv;cases hv
     |some o=>
      rw[ho]at hv;simp only[rsq]at hv;cases hag:nK P t<;>rw[hag]at hv<;>simp only[Bool.false_eq_true,if_false,if_true]at hv
      ·split at hv
       ·rename_i hk;cases hv;obtain⟨c,hcc,_,hr,_⟩:=hc.mem.at ho (List.getElem?_eq_getElem hk) hu hb;have hag':(isAgg t).run P w= .ok false w:=by
         rw[←hag];simp only[isAgg,nK,Sem.run_bind,run_underlying hd,Result.andThen_ok,hd];cases d<;>rfl
        refine⟨c,?_,?_⟩
        ·simp[Js,e,asAddr,loadVar,hag',hcc]
        ·have:o.cs.getD k .un=o.cs[k]:=by rw[List.getD_eq_getElem?_getD,List.getElem?_eq_getElem hk];rfl
         rw[this];exact hr
       ·cases hv
      ·split at hv
       ·rename_i hk;cases hv;obtain⟨us,hl,hus,hra⟩:=hc.mem.row ho hk.2 hk.1 hu hb;have:=(yC (P:=P) t b k ti.size us hl hus hi rfl hd).1 hag;refine⟨.agg us.toArray,?_,.up (.g us _ hra.1 hra.2)⟩;simpa[Js,e,asAddr,Instr.loadAt,Instr.sureAddr]using this
       ·cases hv
   ·cases h
theorem Jt{s s':St}(h:s'.lX=s.lX){v r:V}(hr:iK s v r):iK s' v r:=by
 have e:s'.ob=s.ob:=by funext i;show lo s'.lX i=lo s.lX i;rw[h]
 unfold iK at*
 rw[e];exact hr
def Rf(T:Nat):List V→List (Nat×V)→List (Nat×V)
 |[],l=>l
 |v::r,l=>(T,v)::Rf (T+1) r l
theorem Ju:∀(vs:List V) (T:Nat) (l:List (Nat×V)) (t:Nat),lk (Rf T vs l) t=if T≤t∧t<T+vs.length then vs.getD (t-T) .any else lk l t
 |[],T,l,t=>by simp[Rf];omega
 |v::r,T,l,t=>by
  simp only[Rf,lk,Ju r (T+1) l t,List.length_cons];by_cases h:T=t
  ·subst h;simp
  ·rw[if_neg h];by_cases h2:T+1≤t∧t<T+1+r.length
   ·rw[if_pos h2,if_pos om,show t-T=(t-(T+1))+1 from om];rfl
   ·rw[if_neg h2,if_neg om]
theorem Rh(hE0:∀b,¬H0.e b)(hK0:H0.kp=[]){w:World}{H:Nat→Prop}{ov:Nat→Option Value}{a:Act}{s:St}(hc:Conc w0 H0 w H ov N a s){vs:List V}{tX:List Value}(hl:tX.length=vs.length)
 (hr:∀(j:Nat) (v:Value) (x:V),tX[j]? =some v→vs[j]? =some x→Rep w H ov v x) {r:V} (h:LV s r (some vs)):WX w0 w H0.h (match tX with|[v]=>v|tX=> .tuple tX.toArray) r:=by
 have hsz:=hc.Dp
 obtain⟨a',ha'⟩:∃a':Act,a'={a with tmps:=a.tmps++tX.toArray}:=⟨_,rfl⟩
 obtain⟨s',hs'⟩:∃s':St,s'={s with env:=Rf N vs s.env}:=⟨_,rfl⟩
 have Q7:∀t,a'.tmps.getD t undef=if t<N then a.tmps.getD t undef else tX.getD (t-N) undef:=fun t=>by
  rw[ha'];simp only[Array.getD_eq_getD_getElem?];by_cases ht:t<N
  ·rw[if_pos ht,Array.getElem?_append_left om]
  ·rw[if_neg ht,Array.getElem?_append_right om,hsz];simp[List.getD_eq_getElem?_getD]
 have hget:∀t,s'.get t=if N≤t∧t<N+vs.length then vs.getD (t-N) .any else s.get t:=fun t=>by rw[hs'];exact Ju vs N s.env t
 have hc':Conc w0 H0 w H ov (N+tX.length) a' s':=by
  refine⟨?_,by rw[ha'];simp[hsz],by rw[ha'];exact hc.Am,fun m v h=>(by rw[hK0]at h;cases h),fun t=>?_,?_⟩
  ·have:s'.ob=s.ob:=by rw[hs'];rfl
   rw[this];exact hc.mem
  ·rw[Q7,hget];by_cases ht:N≤t∧t<N+vs.length
   ·rw[if_neg om,if_pos ht];have h1:t-N<tX.length:=om;have h2:t-N<vs.length:=om;have:=hr (t-N) tX[t-N] vs[t-N] (List.getElem?_eq_getElem h1) (List.getElem?_eq_getElem h2);rw[List.getD_eq_getElem?_getD,List.getElem?_eq_getElem h1,List.getD_eq_getElem?_getD,List.getElem?_eq_getElem h2];exact this
   ·rw[if_neg ht];by_cases h1:t<N
    ·rw[if_pos h1];exact hc.env t
    ·rw[if_neg h1];have h2:=hc.env t;rw[Array.getD_eq_getD_getElem?,Array.getElem?_eq_none om]at h2;rw[List.getD_eq_getElem?_getD,List.getElem?_eq_none om];exact h2
  ·rw[hs'];exact hc.new
 have hat:∀j,j<vs.length→s'.get (N+j)=vs.getD j .any:=fun j hj=>by rw[hget,if_pos om,Nat.add_sub_cancel_left]
 have hav:∀j,j<tX.length→a'.tmps.getD (N+j) undef=tX.getD j undef:=fun j hj=>by rw[Q7,if_neg om,Nat.add_sub_cancel_left]
 have hobs:s'.lX=s.lX:=by rw[hs']
 match vs,tX,hl,h with
 |[v],[cv],_,h=>
  have:=n_ hE0 hc' (ts:=[N]) (r:=r) (by
   show iK s' (s'.get N) r;have h1:=hat 0 sy;rw[Nat.add_zero]at h1;rw[h1];exact Jt hobs h)
  have h2:=hav 0 sy;rw[Nat.add_zero]at h2;show WX w0 w H0.h cv r;have e:vT a'.tmps [N]=cv:=by show a'.tmps.getD N undef=cv;rw[h2];rfl
  rw[e]at this;exact this
 |[],[],_,h=>
  simp only[LV]at h;cases r with
  |t rs=>
   cases rs with
   |nil=>exact n_ hE0 hc' (ts:=[]) (r:= .t []) rfl
   |cons x l=>exact h.elim
  |_=>exact h.elim
 |v::v'::vs,cv::cv'::tX,hl,h=>
  simp only[LV]at h;cases r with
  |t rs=>
   have gen:∀(vs:List V) (rs:List V) (T:Nat),zJ s vs rs→(∀j,j<vs.length→s'.get (T+j)=vs.getD j .any)→iD s' (List.range' T vs.length) rs:=by
    intro vs;induction vs with
    |nil=>intro rs T h _;cases rs with|nil=>exact trivial|cons x l=>exact h.elim
    |cons v vs ih=>
     intro rs T h hg;cases rs with
     |nil=>exact h.elim
     |cons r rs=>
      have h0:=hg 0 sy;rw[Nat.add_zero]at h0;refine⟨?_,ih rs (T+1) h.2 fun j hj=>by have:=hg (j+1) (by simp;omega);rw[show T+1+j=T+(j+1)from om,this];rfl⟩;rw[h0];have h1:=h.1;cases r<;>simp only[]at h1 ⊢ <;>first|exact Jt hobs h1|exact h1
   have hN:=gen (v::v'::vs) rs N h (fun j hj=>hat j hj);have:=n_ hE0 hc' (ts:=List.range' N (v::v'::vs).length) (r:= .t rs) hN;have e:vT a'.tmps (List.range' N (v::v'::vs).length)= .tuple (cv::cv'::tX).toArray:=by
    show Value.tuple ((List.range' N (v::v'::vs).length).map fun t=>a'.tmps.getD t undef).toArray=_;congr 2;refine List.ext_getElem (by simp at hl ⊢;omega) fun j h1 h2=>?_
    simp only[List.getElem_map,List.getElem_range',Nat.one_mul];rw[hav j (by simpa using h2),List.getD_eq_getElem?_getD,List.getElem?_eq_getElem h2];rfl
   rw[e]at this;exact this
  |_=>exact h.elim
theorem aF.mkc(ny:P.follows .mixedOrders=true)(hJs:∀w e w',J w→aY w e w'→J w'){f:FuncId}{fn:Func}{c:Code}{ac:AC}{rs:List RS}{args:List V}{r:V}(hf:P.funcs[f]? =some fn)(hb:fn.body=some c)(hc:fQ P fn.ntmps c=some ac)(hts:XA P fn.results.toList=some rs)(hn':Nat.ble args.length fn.ntmps=true)(hmu:r.DK=false)
 (hv:qi (aF P J) (ik P) ac (fun e s=>match e with| .normal=>uI s rs r| .ret=>uI s rs r| .exit _=>False) (qC args)):aF P J f args r:=by
 have hn:args.length≤fn.ntmps:=Nat.le_of_ble_eq_true hn'
 refine .WY hmu ?_
 intro w H vs hJ hT hH iF
 refine calls_of_wp hf hb ?_
 have hlen:vs.length=args.length:=iF.1
 have hsz:(vs.toArray++Array.replicate (fn.ntmps-vs.toArray.size) undef).size=fn.ntmps:=by simp;omega
 have iG:Conc w ⟨H,fun _=>False,[]⟩ w H (fun _=>none) fn.ntmps {tmps:=vs.toArray++Array.replicate (fn.ntmps-vs.toArray.size) undef,defers:=[]} (qC args):=by
  refine⟨⟨aY.refl _ _,hT,hH,fun b hb _=> .inl hb,fun id o h=>(by cases h),fun i j oi oj vi vj b hij h=>(by cases h)⟩,hsz,rfl,fun _ _ h=>(by cases h),fun t=>?_,fun _ _=>rfl⟩;show Rep w H (fun _=>none) _ (lk (aH 0 args) t);rw[nZ];simp only[Nat.zero_le,if_true,Nat.sub_zero];by_cases ht:t<args.length
  ·have FZ:t<vs.length:=om;have:=iF.2 t vs[t] args[t] (List.getElem?_eq_getElem FZ) (List.getElem?_eq_getElem ht);simp only[Array.getD_eq_getD_getElem?,List.getD,List.getElem?_eq_getElem ht,Option.getD_some];rw[Array.getElem?_append_left (by simpa using FZ)];simp only[List.getElem?_toArray,List.getElem?_eq_getElem FZ,Option.getD_some];exact .up this
  ·have:args.getD t V.any= .any:=by simp[List.getD,List.getElem?_eq_none (Nat.le_of_not_lt ht)]
   rw[this];exact .any _
 have fin:∀(s':St) (H':Nat→Prop) (dh:Nat→Option Value) (a':Act) (w':World),uI s' rs r→Conc w ⟨H,fun _=>False,[]⟩ w' H' dh fn.ntmps a' s'→∃v,(results fn a'.tmps).run P w'= .ok v w'∧WX w w' H v r:=by
  intro s' H' dh a' w' hr hc';unfold uI at hr;cases hvs:xI s' rs with
  |none=>rw[hvs]at hr;exact hr.elim
  |some us=>
   rw[hvs]at hr;obtain⟨tX,h1,h2,h3⟩:=Hy (P:=P) hc' _ _ _ hts hvs;refine⟨_,?_,Rh (fun _ h=>h) rfl hc' h2 h3 hr⟩;have hra:fn.results=fn.results.toList.toArray:=sy;unfold results;rw[hra];simp only[Array.mapM_eq_mapM_toList,List.toList_toArray,Sem.run_bind,Sem.run_map];erw [h1];simp only[Result.andThen_ok,Sem.run_pure];match tX with
   |[]=>rfl
   |[t]=>simp
   |t::t'::ts=>simp
 refine wp_mono (iW (J:=J) (H0:=⟨H,fun _=>False,[]⟩) ny (fun w' hb=>hJs w _ w' hJ hb) c ac hc (fun _ _ h=>by cases h) _ _ _ w H (fun _=>none) iG hv) fun e a' w' hq=>?_
 cases e with
 |normal=>
  obtain⟨s',H',dh,hr,hc'⟩:=hq;obtain⟨v,h1,h2⟩:=fin s' H' dh a' w' hr hc';exact⟨hc'.Am,v,h1,v,rfl,hc'.mem.bel.below (fun _ h=>h),h2⟩
 |ret=>
  obtain⟨s',H',dh,hr,hc'⟩:=hq;obtain⟨v,h1,h2⟩:=fin s' H' dh a' w' hr hc';exact⟨hc'.Am,v,h1,v,rfl,hc'.mem.bel.below (fun _ h=>h),h2⟩
 |exit i=>obtain⟨s',H',dh,hr,_⟩:=hq;exact hr.elim
 |goto l=>exact hq.elim
 |panic ch=>exact hq.elim
 |outgrown=>exact hq.elim
end
section
variable {s:St} {ag:Bool} {n j k a:Nat} {v r:V} {e sz:Nat} {cs:List V} {mu q:Bool} {l:List RS} {vs:List V}
theorem kN:xI s []=some []:=rfl
theorem jE{x:RS}:xI s (x::l)=Bz (XB s x) (xI s l):=rfl
theorem wY:XB s (.t a)=some (s.get a):=rfl
theorem wZ:XB s (.c a ag n)=rsp s ag n (s.get a):=rfl
theorem qF:rsp s ag n (.pt j k)=rsq ag n k (s.ob j):=rfl
theorem w_:rsq true n k (some ⟨e,sz,cs,mu,q⟩)=if k+n≤cs.length∧r_ ⟨e,sz,cs,mu,q⟩=false then some (.g ((cs.drop k).take n))else none:=rfl
theorem xe:rsq false n k (some ⟨e,sz,cs,mu,q⟩)=if k<cs.length then some (cs.getD k .un)else none:=rfl
theorem kP:Bz (some v) (some vs)=some (v::vs):=rfl
theorem qG:LV s r (some [v])=iK s v r:=rfl
theorem qH{v':V}{rs:List V}:LV s (.t rs) (some (v::v'::vs))=zJ s (v::v'::vs) rs:=rfl
theorem jF:zJ s [] []=True:=rfl
theorem iO{rs:List V}:zJ s (v::vs) (r::rs)=((match r with| .o _ _ _=>False|r=>iK s v r)∧zJ s vs rs):=rfl
end
theorem jO{P:Program}{J:World→Prop}(ny:P.follows .mixedOrders=true)(hJs:∀w e w',J w→aY w e w'→J w'){f:FuncId}{fn:Func}{c:Code}{args:List V}{r:V}(hf:P.funcs[f]? =some fn)(ac:AC)(rs:List RS)
 (k:vm (aF P J) (ik P) [.c ac] (fun e s=>match e with| .normal=>uI s rs r| .ret=>uI s rs r| .exit _=>False) (qC args))
 (hb:fn.body=some c:=by rfl) (hc:fQ P fn.ntmps c=some ac:=by kernel_rfl) (hts:XA P fn.results.toList=some rs:=by kernel_rfl) (hn':Nat.ble args.length fn.ntmps=true:=by rfl) (hmu:r.DK=false:=by rfl):aF P J f args r:=
 aF.mkc ny hJs hf hb hc hts hn' hmu (fE k)
