import Derived.Test.YtcgfgifjkkmmcaaGreatDoorGC
set_option linter.all false
set_option maxHeartbeats 10000000
namespace Go.Proofs.YtcgfgifjkkmmcaaGreatDoor.Ab
open Go Go.RowKit
inductive RS where
 |t (n:Nat)
 |c (a:Nat) (ag:Bool) (n:Nat)
def Xr(P:Program):List ResultVar→Option (List RS)
 |[]=>some []
 | .tmp t::r=>match Xr P r with|some l=>some (.t t::l)|none=>none
 | .cell a t::r=>match P.info? t,P.underlying t,Xr P r with|some ti,some _,some l=>some (.c a (j_ P t) ti.size::l)|_,_,_=>none
def rsq(ag:Bool)(n k:Nat):Option Ob→Option V
 |some o=>if ag then(if k+n≤o.cs.length∧vH o=false then some (.g ((o.cs.drop k).take n))else none)else(if k<o.cs.length then some (o.cs.getD k .un)else none)
 |none=>none
def rsp(s:St)(ag:Bool)(n:Nat):V→Option V
 | .pt j k=>rsq ag n k (s.ob j)
 |_=>none
def YT(s:St):RS→Option V
 | .t n=>some (s.get n)
 | .c a ag n=>rsp s ag n (s.get a)
def C9:Option V→Option (List V)→Option (List V)
 |some v,some l=>some (v::l)
 |_,_=>none
def yX(s:St):List RS→Option (List V)
 |[]=>some []
 |x::r=>C9 (YT s x) (yX s r)
def A7(s:St):List V→List V→Prop
 |[],[]=>True
 |v::vs,r::rs=>(match r with| .o _ _ _=>False|r=>jb s v r)∧A7 s vs rs
 |_,_=>False
def NL(s:St)(r:V):Option (List V)→Prop
 |some [v]=>jb s v r
 |some vs=>match r with| .t rs=>A7 s vs rs|_=>False
 |none=>False
def xB(s:St)(rs:List RS)(r:V):Prop:=NL s r (yX s rs)
section
variable {P:Program} {J:World→Prop} {w0:World} {H0:HS} {N:Nat}
theorem KL{w:World}{H:Nat→Prop}{ov:Nat→Option Value}{s:St}{F:ResultVar→Sem Value}{x:ResultVar}{l:List ResultVar}{y:RS}{rs':List RS}{vs:List V}(hv:yX s (y::rs')=some vs)
 (hy:∀v,YT s y=some v→∃cv,(F x).run P w= .ok cv w∧Rep w H ov cv v)
 (ih:∀vs',yX s rs'=some vs'→∃uU:List Value,(l.mapM F).run P w= .ok uU w∧uU.length=vs'.length∧∀(j:Nat) (v:Value) (x:V),uU[j]? =some v→vs'[j]? =some x→Rep w H ov v x):
 ∃uU:List Value,((x::l).mapM F).run P w= .ok uU w∧uU.length=vs.length∧∀(j:Nat) (v:Value) (x:V),uU[j]? =some v→vs[j]? =some x→Rep w H ov v x:=by
 simp only[yX]at hv
 cases h1:YT s y with
 |none=>rw[h1]at hv;simp[C9]at hv
 |some v=>
  cases h2:yX s rs' with
  |none=>rw[h1,h2]at hv;simp[C9]at hv
  |some vs'=>
   rw[h1,h2]at hv;simp only[C9,Option.some.injEq]at hv;subst hv;obtain⟨cv,r1,r2⟩:=hy v h1;obtain⟨uU,q1,q2,q3⟩:=ih vs' h2;refine⟨cv::uU,?_,by simp[q2],fun j u z hu hz=>?_⟩
   ·simp only[List.mapM_cons,Sem.run_bind,r1,Result.andThen_ok,q1,Sem.run_pure]
   ·cases j with
    |zero=>simp at hu hz;subst hu;subst hz;exact r2
    |succ j=>exact q3 j u z (by simpa using hu) (by simpa using hz)
def KN(a:Act)(x:ResultVar):Sem Value:=match x with
 |ResultVar.tmp t=>(pure (a.tmps.getD t undef):Sem Value)
 |ResultVar.cell q t=>do loadVar t (←asAddr (a.tmps.getD q undef))
theorem Jp{w:World}{H:Nat→Prop}{ov:Nat→Option Value}{a:Act}{s:St}(hc:Conc w0 H0 w H ov N a s):∀(l:List ResultVar) (rs:List RS) (vs:List V),Xr P l=some rs→yX s rs=some vs→
 ∃uU:List Value,(l.mapM (KN a)).run P w= .ok uU w∧uU.length=vs.length∧∀(j:Nat) (v:Value) (x:V),uU[j]? =some v→vs[j]? =some x→Rep w H ov v x
 |[],rs,vs,h,hv=>by
  simp only[Xr,Option.some.injEq]at h;subst h;simp only[yX,Option.some.injEq]at hv;subst hv;exact⟨[],rfl,rfl,fun j v x h=>by simp at h⟩
 | .tmp t::l,rs,vs,h,hv=>by
   simp only[Xr]at h;split at h
   ·rename_i l' hl';cases h;refine KL hv (fun v hv=>?_) (fun vs' h2=>Jp hc l l' vs' hl' h2);simp only[YT,Option.some.injEq]at hv;subst hv;exact⟨_,by simp only[KN,Sem.run_pure],hc.env t⟩
   ·cases h
 | .cell q t::l,rs,vs,h,hv=>by
   simp only[Xr]at h;split at h
   ·rename_i ti d l' hi hd hl';cases h;refine KL hv (fun v hv=>?_) (fun vs' h2=>Jp hc l l' vs' hl' h2);have hq:=hc.env q;simp only[YT]at hv;cases hg:s.get q<;>rw[hg]at hv hq<;>simp only[rsp]at hv<;>(try cases hv);case pt j k=>
     obtain⟨b,u,e,hu,hb⟩:=hq.mZ;cases ho:s.ob j with
     |none=>rw[ho]at hv;cases hv
     |some o=>
      rw[ho]at hv;simp only[rsq]at hv;cases hag:j_ P t<;>rw[hag]at hv<;>simp only[Bool.false_eq_true,if_false,if_true]at hv
      ·split at hv
       ·rename_i hk;cases hv;obtain⟨c,hcc,_,hr,_⟩:=hc.mem.at ho (List.getElem?_eq_getElem hk) hu hb;have hag':(isAgg t).run P w= .ok false w:=by
         rw[←hag];simp only[isAgg,j_,Sem.run_bind,run_underlying hd,Result.andThen_ok,hd];cases d<;>rfl
        refine⟨c,?_,?_⟩
        ·simp[KN,e,asAddr,loadVar,hag',hcc]
        ·have:o.cs.getD k .un=o.cs[k]:=by rw[List.getD_eq_getElem?_getD,List.getElem?_eq_getElem hk];rfl
         rw[this];exact hr
       ·cases hv
      ·split at hv
       ·rename_i hk;cases hv;obtain⟨us,hl,hus,hra⟩:=hc.mem.row ho hk.2 hk.1 hu hb;have:=(rX (P:=P) t b k ti.size us hl hus hi rfl hd).1 hag;refine⟨.agg us.toArray,?_,.up (.g us _ hra.1 hra.2)⟩;simpa[KN,e,asAddr,Instr.loadAt,Instr.sureAddr]using this
       ·cases hv
   ·cases h
theorem KO{s s':St}(h:s'.lZ=s.lZ){v r:V}(hr:jb s v r):jb s' v r:=by
 have e:s'.ob=s.ob:=by funext i;show lo s'.lZ i=lo s.lZ i;rw[h]
 unfold jb at*
 rw[e];exact hr
def SB(T:Nat):List V→List (Nat×V)→List (Nat×V)
 |[],l=>l
 |v::r,l=>(T,v)::SB (T+1) r l
theorem KP:∀(vs:List V) (T:Nat) (l:List (Nat×V)) (t:Nat),lk (SB T vs l) t=if T≤t∧t<T+vs.length then vs.getD (t-T) .any else lk l t
 |[],T,l,t=>by simp[SB];omega
 |v::r,T,l,t=>by
  simp only[SB,lk,KP r (T+1) l t,List.length_cons];by_cases h:T=t
  ·subst h;simp
  ·rw[if_neg h];by_cases h2:T+1≤t∧t<T+1+r.length
   ·rw[if_pos h2,if_pos om,show t-T=(t-(T+1))+1 from om];rfl
   ·rw[if_neg h2,if_neg om]
theorem SC(hE0:∀b,¬H0.e b)(hK0:H0.kp=[]){w:World}{H:Nat→Prop}{ov:Nat→Option Value}{a:Act}{s:St}(hc:Conc w0 H0 w H ov N a s){vs:List V}{uU:List Value}(hl:uU.length=vs.length)
 (hr:∀(j:Nat) (v:Value) (x:V),uU[j]? =some v→vs[j]? =some x→Rep w H ov v x) {r:V} (h:NL s r (some vs)):Yu w0 w H0.h (match uU with|[v]=>v|uU=> .tuple uU.toArray) r:=by
 have hsz:=hc.EZ
 obtain⟨a',ha'⟩:∃a':Act,a'={a with tmps:=a.tmps++uU.toArray}:=⟨_,rfl⟩
 obtain⟨s',hs'⟩:∃s':St,s'={s with env:=SB N vs s.env}:=⟨_,rfl⟩
 have Ie:∀t,a'.tmps.getD t undef=if t<N then a.tmps.getD t undef else uU.getD (t-N) undef:=fun t=>by
  rw[ha'];simp only[Array.getD_eq_getD_getElem?];by_cases ht:t<N
  ·rw[if_pos ht,Array.getElem?_append_left om]
  ·rw[if_neg ht,Array.getElem?_append_right om,hsz];simp[List.getD_eq_getElem?_getD]
 have hget:∀t,s'.get t=if N≤t∧t<N+vs.length then vs.getD (t-N) .any else s.get t:=fun t=>by rw[hs'];exact KP vs N s.env t
 have hc':Conc w0 H0 w H ov (N+uU.length) a' s':=by
  refine⟨?_,by rw[ha'];simp[hsz],by rw[ha'];exact hc.BZ,fun m v h=>(by rw[hK0]at h;cases h),fun t=>?_,?_⟩
  ·have:s'.ob=s.ob:=by rw[hs'];rfl
   rw[this];exact hc.mem
  ·rw[Ie,hget];by_cases ht:N≤t∧t<N+vs.length
   ·rw[if_neg om,if_pos ht];have h1:t-N<uU.length:=om;have h2:t-N<vs.length:=om;have:=hr (t-N) uU[t-N] vs[t-N] (List.getElem?_eq_getElem h1) (List.getElem?_eq_getElem h2);rw[List.getD_eq_getElem?_getD,List.getElem?_eq_getElem h1,List.getD_eq_getElem?_getD,List.getElem?_eq_getElem h2];exact this
   ·rw[if_neg ht];by_cases h1:t<N
    ·rw[if_pos h1];exact hc.env t
    ·rw[if_neg h1];have h2:=hc.env t;rw[Array.getD_eq_getD_getElem?,Array.getElem?_eq_none om]at h2;rw[List.getD_eq_getElem?_getD,List.getElem?_eq_none om];exact h2
  ·rw[hs'];exact hc.new
 have hat:∀j,j<vs.length→s'.get (N+j)=vs.getD j .any:=fun j hj=>by rw[hget,if_pos om,Nat.add_sub_cancel_left]
 have hav:∀j,j<uU.length→a'.tmps.getD (N+j) undef=uU.getD j undef:=fun j hj=>by rw[Ie,if_neg om,Nat.add_sub_cancel_left]
 have hobs:s'.lZ=s.lZ:=by rw[hs']
 match vs,uU,hl,h with
 |[v],[cv],_,h=>
  have:=pF hE0 hc' (ts:=[N]) (r:=r) (by
   show jb s' (s'.get N) r;have h1:=hat 0 sy;rw[Nat.add_zero]at h1;rw[h1];exact KO hobs h)
  have h2:=hav 0 sy;rw[Nat.add_zero]at h2;show Yu w0 w H0.h cv r;have e:xQ a'.tmps [N]=cv:=by show a'.tmps.getD N undef=cv;rw[h2];rfl
  rw[e]at this;exact this
 |[],[],_,h=>
  simp only[NL]at h;cases r with
  |t rs=>
   cases rs with
   |nil=>exact pF hE0 hc' (ts:=[]) (r:= .t []) rfl
   |cons x l=>exact h.elim
  |_=>exact h.elim
 |v::v'::vs,cv::cv'::uU,hl,h=>
  simp only[NL]at h;cases r with
  |t rs=>
   have gen:∀(vs:List V) (rs:List V) (T:Nat),A7 s vs rs→(∀j,j<vs.length→s'.get (T+j)=vs.getD j .any)→iW s' (List.range' T vs.length) rs:=by
    intro vs;induction vs with
    |nil=>intro rs T h _;cases rs with|nil=>exact trivial|cons x l=>exact h.elim
    |cons v vs ih=>
     intro rs T h hg;cases rs with
     |nil=>exact h.elim
     |cons r rs=>
      have h0:=hg 0 sy;rw[Nat.add_zero]at h0;refine⟨?_,ih rs (T+1) h.2 fun j hj=>by have:=hg (j+1) (by simp;omega);rw[show T+1+j=T+(j+1)from om,this];rfl⟩;rw[h0];have h1:=h.1;cases r<;>simp only[]at h1 ⊢ <;>first|exact KO hobs h1|exact h1
   have hN:=gen (v::v'::vs) rs N h (fun j hj=>hat j hj);have:=pF hE0 hc' (ts:=List.range' N (v::v'::vs).length) (r:= .t rs) hN;have e:xQ a'.tmps (List.range' N (v::v'::vs).length)= .tuple (cv::cv'::uU).toArray:=by
    show Value.tuple ((List.range' N (v::v'::vs).length).map fun t=>a'.tmps.getD t undef).toArray=_;congr 2;refine List.ext_getElem (by simp at hl ⊢;omega) fun j h1 h2=>?_
    simp only[List.getElem_map,List.getElem_range',Nat.one_mul];rw[hav j (by simpa using h2),List.getD_eq_getElem?_getD,List.getElem?_eq_getElem h2];rfl
   rw[e]at this;exact this
  |_=>exact h.elim
theorem ah.mkc(jP:P.follows .mixedOrders=true)(hJs:∀w e w',J w→aI w e w'→J w'){f:FuncId}{fn:Func}{c:Code}{ac:AC}{rs:List RS}{args:List V}{r:V}(hf:P.funcs[f]? =some fn)(hb:fn.body=some c)(hc:dW P fn.ntmps c=some ac)(hts:Xr P fn.results.toList=some rs)(hn':Nat.ble args.length fn.ntmps=true)(hmu:r.Aa=false)
 (hv:r_ (ah P J) (iJ P) ac (fun e s=>match e with| .normal=>xB s rs r| .ret=>xB s rs r| .exit _=>False) (pq args)):ah P J f args r:=by
 have hn:args.length≤fn.ntmps:=Nat.le_of_ble_eq_true hn'
 refine .of0 hmu ?_
 intro w H vs hJ hT hH gX
 refine calls_of_wp hf hb ?_
 have hlen:vs.length=args.length:=gX.1
 have hsz:(vs.toArray++Array.replicate (fn.ntmps-vs.toArray.size) undef).size=fn.ntmps:=by simp;omega
 have iE:Conc w ⟨H,fun _=>False,[]⟩ w H (fun _=>none) fn.ntmps {tmps:=vs.toArray++Array.replicate (fn.ntmps-vs.toArray.size) undef,defers:=[]} (pq args):=by
  refine⟨⟨aI.refl _ _,hT,hH,fun b hb _=> .inl hb,fun id o h=>(by cases h),fun i j oi oj vi vj b hij h=>(by cases h)⟩,hsz,rfl,fun _ _ h=>(by cases h),fun t=>?_,fun _ _=>rfl⟩;show Rep w H (fun _=>none) _ (lk (fC 0 args) t);rw[mJ];simp only[Nat.zero_le,if_true,Nat.sub_zero];by_cases ht:t<args.length
  ·have Ic:t<vs.length:=om;have:=gX.2 t vs[t] args[t] (List.getElem?_eq_getElem Ic) (List.getElem?_eq_getElem ht);simp only[Array.getD_eq_getD_getElem?,List.getD,List.getElem?_eq_getElem ht,Option.getD_some];rw[Array.getElem?_append_left (by simpa using Ic)];simp only[List.getElem?_toArray,List.getElem?_eq_getElem Ic,Option.getD_some];exact .up this
  ·have:args.getD t V.any= .any:=by simp[List.getD,List.getElem?_eq_none (Nat.le_of_not_lt ht)]
   rw[this];exact .any _
 have fin:∀(s':St) (H':Nat→Prop) (bJ:Nat→Option Value) (a':Act) (w':World),xB s' rs r→Conc w ⟨H,fun _=>False,[]⟩ w' H' bJ fn.ntmps a' s'→∃v,(results fn a'.tmps).run P w'= .ok v w'∧Yu w w' H v r:=by
  intro s' H' bJ a' w' hr hc';unfold xB at hr;cases hvs:yX s' rs with
  |none=>rw[hvs]at hr;exact hr.elim
  |some us=>
   rw[hvs]at hr;obtain⟨uU,h1,h2,h3⟩:=Jp (P:=P) hc' _ _ _ hts hvs;refine⟨_,?_,SC (fun _ h=>h) rfl hc' h2 h3 hr⟩;have hra:fn.results=fn.results.toList.toArray:=sy;unfold results;rw[hra];simp only[Array.mapM_eq_mapM_toList,List.toList_toArray,Sem.run_bind,Sem.run_map];erw [h1];simp only[Result.andThen_ok,Sem.run_pure];match uU with
   |[]=>rfl
   |[t]=>simp
   |t::t'::ts=>simp
 refine wp_mono (iw (J:=J) (H0:=⟨H,fun _=>False,[]⟩) jP (fun w' hb=>hJs w _ w' hJ hb) c ac hc (fun _ _ h=>by cases h) _ _ _ w H (fun _=>none) iE hv) fun e a' w' hq=>?_
 cases e with
 |normal=>
  obtain⟨s',H',bJ,hr,hc'⟩:=hq;obtain⟨v,h1,h2⟩:=fin s' H' bJ a' w' hr hc';exact⟨hc'.BZ,v,h1,v,rfl,hc'.mem.bel.below (fun _ h=>h),h2⟩
 |ret=>
  obtain⟨s',H',bJ,hr,hc'⟩:=hq;obtain⟨v,h1,h2⟩:=fin s' H' bJ a' w' hr hc';exact⟨hc'.BZ,v,h1,v,rfl,hc'.mem.bel.below (fun _ h=>h),h2⟩
 |exit i=>obtain⟨s',H',bJ,hr,_⟩:=hq;exact hr.elim
 |goto l=>exact hq.elim
 |panic ch=>exact hq.elim
 |outgrown=>exact hq.elim
end
section
variable {s:St} {ag:Bool} {n j k a:Nat} {v r:V} {e sz:Nat} {cs:List V} {mu q:Bool} {l:List RS} {vs:List V}
theorem rO:yX s []=some []:=rfl
theorem oP{x:RS}:yX s (x::l)=C9 (YT s x) (yX s l):=rfl
theorem ET:YT s (.t a)=some (s.get a):=rfl
theorem EU:YT s (.c a ag n)=rsp s ag n (s.get a):=rfl
theorem zK:rsp s ag n (.pt j k)=rsq ag n k (s.ob j):=rfl
theorem EW:rsq true n k (some ⟨e,sz,cs,mu,q⟩)=if k+n≤cs.length∧vH ⟨e,sz,cs,mu,q⟩=false then some (.g ((cs.drop k).take n))else none:=rfl
theorem EX:rsq false n k (some ⟨e,sz,cs,mu,q⟩)=if k<cs.length then some (cs.getD k .un)else none:=rfl
theorem rP:C9 (some v) (some vs)=some (v::vs):=rfl
theorem zM:NL s r (some [v])=jb s v r:=rfl
theorem zO{v':V}{rs:List V}:NL s (.t rs) (some (v::v'::vs))=A7 s (v::v'::vs) rs:=rfl
theorem oQ:A7 s [] []=True:=rfl
theorem mY{rs:List V}:A7 s (v::vs) (r::rs)=((match r with| .o _ _ _=>False|r=>jb s v r)∧A7 s vs rs):=rfl
end
theorem mkcQ{P:Program}{J:World→Prop}(jP:P.follows .mixedOrders=true)(hJs:∀w e w',J w→aI w e w'→J w'){f:FuncId}{fn:Func}{c:Code}{args:List V}{r:V}(hf:P.funcs[f]? =some fn)(ac:AC)(rs:List RS)
 (k:vm (ah P J) (iJ P) [.c ac] (fun e s=>match e with| .normal=>xB s rs r| .ret=>xB s rs r| .exit _=>False) (pq args))
 (hb:fn.body=some c:=by rfl) (hc:dW P fn.ntmps c=some ac:=by kernel_rfl) (hts:Xr P fn.results.toList=some rs:=by kernel_rfl) (hn':Nat.ble args.length fn.ntmps=true:=by rfl) (hmu:r.Aa=false:=by rfl):ah P J f args r:=
 ah.mkc jP hJs hf hb hc hts hn' hmu (dG k)
theorem ja{P:Program}{J:World→Prop}(jP:P.follows .mixedOrders=true)(hJs:∀w e w',J w→aI w e w'→J w'){f:FuncId}{fn:Func}{c:Code}{args:List V}{r:V}{q:Prop}(hf:P.funcs[f]? =some fn)(rs:List RS)(k:q)
 (hb:fn.body=some c:=by rfl) (hc:dW P fn.ntmps c=some (gc P fn):=by kernel_rfl) (hts:Xr P fn.results.toList=some rs:=by kernel_rfl) (hn':Nat.ble args.length fn.ntmps=true:=by rfl) (hmu:r.Aa=false:=by rfl)
 (h:PLift q→vm (ah P J) (iJ P) [.c (gc P fn)] (fun e s=>match e with| .normal=>xB s rs r| .ret=>xB s rs r| .exit _=>False) (pq args):=by
   intro hq;conv=>arg 3;reduce
   simp only[fZ,fC,Int.reduceOfNat,Int.reduceNegSucc];exact hq.down):ah P J f args r:=
 ah.mkc jP hJs hf hb hc hts hn' hmu (dG (h ⟨k⟩))
