import Derived.ProofKit
import Derived.OpenShut
import Derived.JoinedCond
import Derived.Carry
import Derived.ChangeSlices
import Derived.Test.YtcgfgifjkkmmcaaGreatDoorGD
set_option linter.all false
set_option maxHeartbeats 10000000
namespace Go.Proofs.YtcgfgifjkkmmcaaGreatDoor
open Go Go.ChangeShapes Go.WideShapes Go.ChangeAt Go.RowKit Ab
theorem uA{H:Type}{enc:TypeId×Value→H}{P:Program}(hl:laidOutB P=true){W W':World}(hb:Below W.heap.size W W'):
 ∀{ts:List TypeId} {vs:List Value} {ds:List (DataW H)} {ps:List MemPlace},(∀t,t∈ts→P.readableRec t=true∧t<P.types.size)→DataW.TrodAll enc P W 0 (fun _=>true) true ts vs ds ps→(∀x,x∈ps→x.block<W.heap.size)→
  DataW.TrodAll enc P W' 0 (fun b=>decide (b<W.heap.size)) true ts vs ds ps
 |[],vs,ds,ps,_,h,_=>by
  obtain⟨rfl,rfl,rfl⟩:=trodAll_nil h;exact trodAll_mk0
 |t::ts,vs,ds,ps,hr,h,hlt=>by
  obtain⟨v0,vs0,d0,ds0,p0,q0,rfl,rfl,rfl,h0,r0⟩:=trodAll_cons h;have h1:=Below.trod hl (hr t List.mem_cons_self).1 (hr t List.mem_cons_self).2 h0 hb fun x hx=>hlt x (List.mem_append_left _ hx)
  have h2:=uA hl hb (fun t ht=>hr t (List.mem_cons_of_mem _ ht)) r0 fun x hx=>hlt x (List.mem_append_right _ hx)
  exact trodAll_cons_mk h1 h2
theorem NH{H:Type}{enc:TypeId×Value→H}{P:Program}{f:Func}{s:ChangeSpec}{W W':World}{args:Array Value}{ds gs:List (DataW H)}{before:List MemPlace}{t:TypeId}
 (hl:laidOutB P=true) (hv:s.vars=[]) (hp:∀t,t∈f.params.toList→P.readableRec t=true∧t<P.types.size) (hrt:f.resultTypes=#[t]) (ht:P.underlying t=some .bool)
 (hW:DataW.Whole enc P f.params.toList s.vars false W args.toList ds gs before) (hfn:s.fn H (ds++gs)={results:=[.lit (.bool true)],args:=ds}) (hb:Below W.heap.size W W'):
 s.post enc P f false true false false W args (.bool true) W':=by
 have hlt:=hW.lt
 have hW2:=hW
 obtain⟨p,q,hA,hV,rfl,_,_⟩:=hW2
 rw[hv]at hV
 obtain⟨rfl,rfl⟩:=trodVars_none hV
 refine⟨ds,[],p++[],[],p,[],hW,?_,?_,?_,?_,fun h=>by cases h⟩
 ·rw[hfn,hrt];exact trodAll_cons_mk (shut_bool ht _) trodAll_mk0
 ·rw[hfn];exact uA hl hb hp hA fun x hx=>hlt x (List.mem_append_left _ hx)
 ·rw[hfn,hv];exact hV
 ·exact hb.frame _
end Go.Proofs.YtcgfgifjkkmmcaaGreatDoor
namespace Go.Proofs.YtcgfgifjkkmmcaaGreatDoor
open Go Go.ChangeShapes Go.WideShapes Go.ChangeAt Go.RowKit Ab
def kS{H:Type}(enc:TypeId×Value→H)(P:Program)(w:World)(t:TypeId)(Q:List V→Nat→Prop):Prop:=
 ∀fuel cs (d:DataW H) ps,DataW.trod enc P w 0 (fun _=>true) true fuel t cs=some (d,ps)→(∀x,x∈ps→x.block<w.heap.size)→
  ∃xs n,Q xs n∧n≤Rows.uptoBulk d∧aj w (fun b=>b<w.heap.size) cs xs
def WE(k:IntKind)(xs:List V)(n:Nat):Prop:=∃m,xs=[.i k m]∧(Lit.int k m).wf=true∧n=1
def KG(xs:List V)(n:Nat):Prop:=∃b,xs=[.b b]∧n=1
def QSl(sz:Nat)(Q:List V→Nat→Prop)(xs:List V)(n:Nat):Prop:=
 ∃es:List (List V×Nat),xs=[.l sz (es.map (·.1)).flatten]∧(∀p,p∈es→Q p.1 p.2∧p.1.length=sz)∧es.length≤maxLen∧n=(es.map (·.2)).sum+1
def QSt2(Q1 Q2:List V→Nat→Prop)(xs:List V)(n:Nat):Prop:=∃x1 x2 n1 n2,xs=x1++x2∧Q1 x1 n1∧Q2 x2 n2∧n=n1+n2+1
def QSt3(Q1 Q2 Q3:List V→Nat→Prop)(xs:List V)(n:Nat):Prop:=∃x1 x2 x3 n1 n2 n3,xs=x1++(x2++x3)∧Q1 x1 n1∧Q2 x2 n2∧Q3 x3 n3∧n=n1+n2+n3+1
section
variable {H:Type} {enc:TypeId×Value→H} {P:Program} {w:World}
theorem nI{H':Nat→Prop}{v:Value}{x:V}(h:Rep0 w H' v x):aj w H' [v] [x]:=⟨rfl,fun j u y hu hy=>by
 cases j with
 |zero=>cases hu;cases hy;exact h
 |succ j=>cases hu⟩
theorem Jf{H':Nat→Prop}:aj w H' [] []:=⟨rfl,fun j u y hu hy=>by cases hu⟩
theorem qG{H':Nat→Prop}{vs us:List Value}{xs ys:List V}(h:aj w H' vs xs)(k:aj w H' us ys):aj w H' (vs++us) (xs++ys):=by
 refine⟨by rw[List.length_append,List.length_append,h.1,k.1],fun j v x hv hx=>?_⟩;rcases Nat.lt_or_ge j vs.length with h1|h1
 ·rw[List.getElem?_append_left h1]at hv;rw[List.getElem?_append_left (by rw[←h.1];exact h1)]at hx;exact h.2 j v x hv hx
 ·rw[List.getElem?_append_right h1]at hv;rw[List.getElem?_append_right (by rw[←h.1];exact h1),←h.1]at hx;exact k.2 _ v x hv hx
theorem CV{t:TypeId}{k:IntKind}(ht:P.underlying t=some (.int k)):kS enc P w t (WE k):=fun fuel cs d ps h _=>by
 obtain⟨n,rfl,h2,hw⟩:=DataW.trod_int ht h;cases h2;exact⟨_,1,⟨n,rfl,hw,rfl⟩,Nat.le_refl _,nI (.i k n)⟩
theorem Jg{t:TypeId}(ht:P.underlying t=some .bool):kS enc P w t KG:=fun fuel cs d ps h _=>by
 obtain⟨b,rfl,h2⟩:=DataW.trod_bool ht h;cases h2;exact⟨_,1,⟨b,rfl,rfl⟩,Nat.le_refl _,nI (.b b)⟩
theorem Jh(l:List (DataW H))(ns:List Nat)(hl:ns.length=l.length)(h:∀(i:Nat) (n:Nat) (d:DataW H),ns[i]? =some n→l[i]? =some d→n≤Rows.uptoBulk d):ns.sum≤Rows.uptoBulkAll l:=by
 induction l generalizing ns with
 |nil=>cases ns with
  |nil=>exact Nat.zero_le _
  |cons=>simp at hl
 |cons d r ih=>cases ns with
  |nil=>simp at hl
  |cons n ns=>
   have h1:=h 0 n d rfl rfl;have h2:=ih ns (by simpa using hl) fun i n d hn hd=>h (i+1) n d (by simpa using hn) (by simpa using hd)
   simp only[List.sum_cons,Rows.uptoBulkAll];omega
theorem Gi{α:Type}(n:Nat)(R:Nat→α→Prop)(h:∀i,i<n→∃y,R i y):∃ys:List α,ys.length=n∧∀i y,ys[i]? =some y→R i y:=by
 induction n with
 |zero=>exact⟨[],rfl,fun i y h=>by cases h⟩
 |succ n ih=>
  obtain⟨ys,hl,hy⟩:=ih fun i hi=>h i om
  obtain⟨y,hR⟩:=h n om;refine⟨ys++[y],by simp[hl],fun i z hz=>?_⟩;rcases Nat.lt_or_ge i n with h1|h1
  ·rw[List.getElem?_append_left om]at hz;exact hy i z hz
  ·rw[List.getElem?_append_right om]at hz;obtain rfl:i=n:=by
    rcases Nat.lt_or_ge (i-ys.length) 1 with h2|h2
    ·omega
    ·rw[List.getElem?_eq_none (by simpa using h2)]at hz;cases hz
   rw[hl,Nat.sub_self]at hz;cases hz;exact hR
theorem yC{α:Type}(sz:Nat)(ls:List (List α))(h:∀l,l∈ls→l.length=sz):ls.flatten.length=ls.length*sz:=by
 induction ls with
 |nil=>simp
 |cons l r ih=>rw[List.flatten_cons,List.length_append,ih fun l hl=>h l (List.mem_cons_of_mem _ hl),h l List.mem_cons_self,List.length_cons,Nat.succ_mul,Nat.add_comm]
theorem sF{α:Type}(sz:Nat)(ls:List (List α))(h:∀l,l∈ls→l.length=sz)(i k:Nat)(hk:k<sz):ls.flatten[i*sz+k]? =(ls[i]?).bind (·[k]?):=by
 induction ls generalizing i with
 |nil=>simp
 |cons l r ih=>
  have hl:=h l List.mem_cons_self;cases i with
  |zero=>simp only[Nat.zero_mul,Nat.zero_add,List.flatten_cons,List.getElem?_cons_zero,Option.bind_some];rw[List.getElem?_append_left om]
  |succ i=>
   rw[List.flatten_cons,List.getElem?_append_right (by rw[hl,Nat.succ_mul];omega),hl,show(i+1)*sz+k-sz=i*sz+k from by rw[Nat.succ_mul];omega,ih fun l hl=>h l (List.mem_cons_of_mem _ hl)];rfl
theorem Gj{t e:TypeId}{sz:Nat}{Q:List V→Nat→Prop}(ht:P.underlying t=some (.slice e))(hc:P.cellsOf e=sz)(hsz:0<sz)(he:kS enc P w e Q):kS enc P w t (QSl sz Q):=fun fuel cs d ps h hlt=>by
 rcases DataW.trod_slice ht h with ⟨rfl,h2⟩|⟨a,len,cap,elems,rest,n,_,rfl,h2,hb,hl,hm,hlen,hel,hsp,hns⟩
 ·cases h2;refine⟨_,1,⟨[],rfl,fun p hp=>(by cases hp),Nat.zero_le _,rfl⟩,Nat.le_refl _,nI ?_⟩;exact .l none 0 0 sz [] (fun _=>undef) 0 0 hsz sy (Nat.zero_le _) (Nat.le_refl _) (.inl rfl) (fun j hj=>(by cases hj)) (fun j x hx=>(by cases hx))
 ·cases h2;have each:∀i,i<len→∃y:List V×Nat×List Value,(Q y.1 y.2.1∧y.1.length=sz)∧aj w (fun b=>b<w.heap.size) y.2.2 y.1∧w.cells? 0 (a.add (i*sz)) sz=some y.2.2∧∃d p,elems[i]? =some (d,p)∧y.2.1≤Rows.uptoBulk d:=fun i hi=>by
   have h1:=hel i hi;obtain⟨⟨d,p⟩,hd⟩:∃y,elems[i]? =some y:=⟨elems[i],List.getElem?_eq_getElem om⟩;rw[hd,Option.bind_eq_some_iff]at h1;obtain⟨cs',h3,h4⟩:=h1;obtain⟨xs,m,hq,hle,hr⟩:=he n cs' d p h4 fun x hx=>hlt x (by
    refine List.mem_append_right _ (List.mem_flatMap.2 ⟨(d,p),List.mem_append_left _ (List.mem_of_getElem? hd),hx⟩))
   rw[hc]at h3;refine⟨⟨xs,m,cs'⟩,⟨hq,?_⟩,hr,h3,d,p,hd,hle⟩;rw[←hr.1];exact(World.cells?_some h3).2.1
  obtain⟨ys,hyl,hy⟩:=Gi len (fun i (y:List V×Nat×List Value)=>(Q y.1 y.2.1∧y.1.length=sz)∧aj w (fun b=>b<w.heap.size) y.2.2 y.1∧w.cells? 0 (a.add (i*sz)) sz=some y.2.2∧∃d p,elems[i]? =some (d,p)∧y.2.1≤Rows.uptoBulk d) each;refine⟨_,_,⟨ys.map fun y=>(y.1,y.2.1),rfl,fun p hp=>?_,by rw[List.length_map,hyl];omega,rfl⟩,?_,nI ?_⟩
  ·obtain⟨y,hy1,rfl⟩:=List.mem_map.1 hp;obtain⟨i,hi⟩:=List.getElem?_of_mem hy1;exact(hy i y hi).1
  ·simp only[Rows.uptoBulk,List.map_map];have:=Jh (elems.map (·.1)) (ys.map fun y=>y.2.1) (by rw[List.length_map,List.length_map,hyl,hlen]) fun i m d hm hd=>by
    rw[List.getElem?_map,Option.map_eq_some_iff]at hm hd;obtain⟨y,hy1,rfl⟩:=hm;obtain⟨⟨d',p⟩,hd1,rfl⟩:=hd;obtain⟨_,_,_,d2,p2,hd2,hle⟩:=hy i y hy1;rw[hd1]at hd2;cases hd2;exact hle
   simp only[Function.comp_def];omega
  ·have hall:∀l,l∈ys.map (fun y=>y.1)→l.length=sz:=fun l hl=>by
    obtain⟨y,hy1,rfl⟩:=List.mem_map.1 hl;obtain⟨i,hi⟩:=List.getElem?_of_mem hy1;exact(hy i y hi).1.2
   have AL:∀l,l∈ys.map (fun y=>y.2.2)→l.length=sz:=fun l hl=>by
    obtain⟨y,hy1,rfl⟩:=List.mem_map.1 hl;obtain⟨i,hi⟩:=List.getElem?_of_mem hy1;rw[(hy i y hi).2.1.1];exact(hy i y hi).1.2
   have e1:(ys.map fun y=>(y.1,y.2.1)).map (·.1)=ys.map fun y=>y.1:=by rw[List.map_map];rfl
   rw[e1];have hfl:=yC sz _ hall;have hfl2:=yC sz _ AL;rw[List.length_map,hyl]at hfl hfl2;rcases Nat.eq_zero_or_pos len with h0|h0
   ·subst h0;have:(ys.map fun y=>y.1).flatten=[]:=List.eq_nil_of_length_eq_zero om;rw[this];exact .l _ 0 cap sz [] (fun _=>undef) 0 0 hsz sy (Nat.zero_le _) (Nat.zero_le _) (.inl rfl) (fun j hj=>(by cases hj)) (fun j x hx=>(by cases hx))
   ·have cell:∀i k,i<len→k<sz→w.cell? ((a.add (i*sz)).add k)=((ys.map fun y=>y.2.2).flatten)[i*sz+k]? :=fun i k hi hk=>by
     obtain⟨y,hy1⟩:∃y,ys[i]? =some y:=⟨ys[i],List.getElem?_eq_getElem om⟩;obtain⟨_,_,h3,_⟩:=hy i y hy1;rw[sF sz _ AL i k hk,List.getElem?_map,hy1];exact(World.cells?_some h3).2.2 k hk
    have c0:=cell 0 0 h0 hsz;obtain⟨b,off,spot⟩:=a;have hc0:∃u,w.cell? ⟨b,off,spot⟩=some u:=by
     have hp:0*sz+0<(ys.map fun y=>y.2.2).flatten.length:=by rw[hfl2];have:=Nat.mul_pos h0 hsz;omega
     rw[List.getElem?_eq_getElem hp]at c0;exact⟨_,by simpa[Addr.add]using c0⟩
    obtain⟨u,hu⟩:=hc0;have hspot:spot=none:=World.cell?_spot (w:=w) (a:=⟨b,off,spot⟩) hu;subst hspot;have hbl:b<w.heap.size:=by
     rcases Nat.lt_or_ge b w.heap.size with h3|h3
     ·exact h3
     ·have h5:w.heap[b]? =none:=by simp[h3]
      simp[World.cell?,h5]at hu
    refine .l _ len cap sz _ (fun j=>((ys.map fun y=>y.2.2).flatten).getD j undef) b off hsz hfl om hl (.inr ⟨rfl,hbl⟩) (fun j hj=>?_) (fun j x hx=>?_)
    ·have hi:j/sz<len:=(Nat.div_lt_iff_lt_mul hsz).2 om;have hk:j%sz<sz:=Nat.mod_lt _ hsz;have hj':j/sz*sz+j%sz=j:=by rw[Nat.mul_comm];exact Nat.div_add_mod j sz
     have:=cell (j/sz) (j%sz) hi hk;rw[Go.WideShapes.add_plain,Go.WideShapes.add_plain,Nat.add_assoc,hj']at this;rw[this,List.getElem?_eq_getElem om,List.getD_eq_getElem?_getD,List.getElem?_eq_getElem om];rfl
    ·have hj:j<len*sz:=by have:=(List.getElem?_eq_some_iff.1 hx).1;omega
     have hi:j/sz<len:=(Nat.div_lt_iff_lt_mul hsz).2 hj;have hk:j%sz<sz:=Nat.mod_lt _ hsz;have hj':j/sz*sz+j%sz=j:=by rw[Nat.mul_comm];exact Nat.div_add_mod j sz
     obtain⟨y,hy1⟩:∃y,ys[j/sz]? =some y:=⟨ys[j/sz],List.getElem?_eq_getElem om⟩;obtain⟨⟨_,hl1⟩,hr,_⟩:=hy _ y hy1;have g1:=sF sz _ hall (j/sz) (j%sz) hk;have g2:=sF sz _ AL (j/sz) (j%sz) hk;rw[hj',List.getElem?_map,hy1]at g1 g2;simp only[Option.map_some,Option.bind_some]at g1 g2;rw[hx]at g1;have hk2:j%sz<y.2.2.length:=by rw[hr.1,hl1];exact hk
     rw[List.getElem?_eq_getElem hk2]at g2;rw[List.getD_eq_getElem?_getD,g2];exact hr.2 (j%sz) _ x (List.getElem?_eq_getElem hk2) g1.symm
theorem uB{t:TypeId}{f1 f2:Field}{s1 s2:Nat}{Q1 Q2:List V→Nat→Prop}(ht:P.underlying t=some (.struct #[f1,f2]))(o1:f1.offset=0)(o2:f2.offset=s1)(c1:P.cellsOf f1.type=s1)(c2:P.cellsOf f2.type=s2)
 (hc:P.cellsOf t=s1+s2) (h1:kS enc P w f1.type Q1) (h2:kS enc P w f2.type Q2):kS enc P w t (QSt2 Q1 Q2):=fun fuel cs d ps h hlt=>by
 obtain⟨xs,n,_,hx,hl,hn,hf⟩:=DataW.trod_struct ht h
 match xs,hn with
 |[⟨d1,p1⟩,⟨d2,p2⟩],_=>
  cases hx;have g1:=hf 0 f1 rfl;have g2:=hf 1 f2 rfl;simp only[o1,o2,c1,c2,List.drop_zero,List.getElem?_cons_zero,List.getElem?_cons_succ]at g1 g2;obtain⟨x1,n1,q1,l1,r1⟩:=h1 _ _ _ _ g1 fun x hx=>hlt x (by simp[hx])
  obtain⟨x2,n2,q2,l2,r2⟩:=h2 _ _ _ _ g2 fun x hx=>hlt x (by simp[hx])
  refine⟨_,_,⟨x1,x2,n1,n2,rfl,q1,q2,rfl⟩,by simp[Rows.uptoBulk,Rows.uptoBulkAll];omega,?_⟩;have e:cs=cs.take s1++(cs.drop s1).take s2:=by
   rw[List.take_of_length_le (l:=cs.drop s1) (by rw[List.length_drop];omega),List.take_append_drop]
  rw[e];exact qG r1 r2
theorem BG{t:TypeId}{f1 f2 f3:Field}{s1 s2 s3:Nat}{Q1 Q2 Q3:List V→Nat→Prop}(ht:P.underlying t=some (.struct #[f1,f2,f3]))(o1:f1.offset=0)(o2:f2.offset=s1)(o3:f3.offset=s1+s2)(c1:P.cellsOf f1.type=s1)(c2:P.cellsOf f2.type=s2)(c3:P.cellsOf f3.type=s3)
 (hc:P.cellsOf t=s1+s2+s3) (h1:kS enc P w f1.type Q1) (h2:kS enc P w f2.type Q2) (h3:kS enc P w f3.type Q3):kS enc P w t (QSt3 Q1 Q2 Q3):=fun fuel cs d ps h hlt=>by
 obtain⟨xs,n,_,hx,hl,hn,hf⟩:=DataW.trod_struct ht h
 match xs,hn with
 |[⟨d1,p1⟩,⟨d2,p2⟩,⟨d3,p3⟩],_=>
  cases hx;have g1:=hf 0 f1 rfl;have g2:=hf 1 f2 rfl;have g3:=hf 2 f3 rfl;simp only[o1,o2,o3,c1,c2,c3,List.drop_zero,List.getElem?_cons_zero,List.getElem?_cons_succ]at g1 g2 g3;obtain⟨x1,n1,q1,l1,r1⟩:=h1 _ _ _ _ g1 fun x hx=>hlt x (by simp[hx])
  obtain⟨x2,n2,q2,l2,r2⟩:=h2 _ _ _ _ g2 fun x hx=>hlt x (by simp[hx])
  obtain⟨x3,n3,q3,l3,r3⟩:=h3 _ _ _ _ g3 fun x hx=>hlt x (by simp[hx])
  refine⟨_,_,⟨x1,x2,x3,n1,n2,n3,rfl,q1,q2,q3,rfl⟩,by simp[Rows.uptoBulk,Rows.uptoBulkAll];omega,?_⟩;have e:cs=cs.take s1++((cs.drop s1).take s2++(cs.drop (s1+s2)).take s3):=by
   rw[List.take_of_length_le (l:=cs.drop (s1+s2)) (by rw[List.length_drop];omega),←List.drop_drop,List.take_append_drop,List.take_append_drop]
  rw[e];exact qG r1 (qG r2 r3)
def QAll:List (TypeId×Bool×(List V→Nat→Prop))→List V→Nat→Prop
 |[],av,n=>av=[]∧n=0
 |(_,ag,Q)::r,av,n=>∃a av' xs n1 n2,av=a::av'∧Q xs n1∧(if ag=true then a= .g xs else xs=[a])∧QAll r av' n2∧n=n1+n2
def AP{H:Type}(enc:TypeId×Value→H)(P:Program)(w:World):List (TypeId×Bool×(List V→Nat→Prop))→Prop
 |[]=>True
 |(t,ag,Q)::r=>(kS enc P w t Q∧ag=j_ P t)∧AP enc P w r
theorem D9{t:TypeId}{v:Value}{base:Nat}(hok:Value.okWide P w .any base t v):if j_ P t=true then∃cs,v= .agg cs else v.cells=#[v]:=by
 unfold Value.okWide at hok;unfold j_;split at hok
 ·rename_i h;rw[h];simp only[if_true];obtain⟨cs,h,_⟩:=hok;exact⟨cs,h⟩
 ·rename_i h;rw[h];simp only[if_true];obtain⟨cs,h,_⟩:=hok;exact⟨cs,h⟩
 ·rename_i h1 h2;have:∀cs,v≠ .agg cs:=fun cs e=>by
   subst e;unfold Cell.okWide at hok;split at hok<;>first|simp_all [Cell.ok]|skip
  have hc:v.cells=#[v]:=by cases v<;>first|rfl|(exact absurd rfl (this _))
  cases hu:P.underlying t with
  |none=>simpa using hc
  |some u=>cases u<;>first|(exact absurd hu (h1 _))|(exact absurd hu (h2 _ _))|(simpa using hc)
theorem AQ{base:Nat}:∀{ps:List (TypeId×Bool×(List V→Nat→Prop))} {vs:List Value} {ds:List (DataW H)} {mp:List MemPlace},AP enc P w ps→
 DataW.TrodAll enc P w 0 (fun _=>true) true (ps.map (·.1)) vs ds mp→(∀x,x∈mp→x.block<w.heap.size)→(∀(j:Nat) t v,(ps.map (·.1))[j]? =some t→vs[j]? =some v→Value.okWide P w .any base t v)→
 ∃av n,QAll ps av n∧n≤Rows.uptoBulkAll ds∧aj w (fun b=>b<w.heap.size) vs av∧ds.length=ps.length
 |[],vs,ds,mp,_,h,_,_=>by
  obtain⟨rfl,rfl,rfl⟩:=trodAll_nil h;exact⟨[],0,⟨rfl,rfl⟩,Nat.zero_le _,Jf,rfl⟩
 |(t,ag,Q)::ps,vs,ds,mp,ho,h,hlt,hok=>by
  obtain⟨v0,vs0,d0,ds0,p0,q0,rfl,rfl,rfl,h0,r0⟩:=trodAll_cons h;obtain⟨⟨ho1,hag⟩,ho2⟩:=ho;obtain⟨av,n,hq,hle,hr,hdl⟩:=AQ (base:=base) ho2 r0 (fun x hx=>hlt x (List.mem_append_right _ hx)) fun j t v ht hv=>hok (j+1) t v (by simpa using ht) (by simpa using hv)
  obtain⟨fuel,hf⟩:=h0;have hcl:=D9 (hok 0 t v0 rfl rfl);obtain⟨xs,m,hq0,hle0,hr0⟩:=ho1 fuel _ _ _ hf fun x hx=>hlt x (List.mem_append_left _ hx)
  have:∃a,(if ag=true then a= .g xs else xs=[a])∧Rep0 w (fun b=>b<w.heap.size) v0 a:=by
   subst hag;split at hcl
   ·rename_i hg;obtain⟨cs,rfl⟩:=hcl;refine⟨.g xs,by rw[if_pos hg],?_⟩;have:=Rep0.g (w:=w) (H:=fun b=>b<w.heap.size) cs.toList xs hr0.1 hr0.2;simpa using this
   ·rename_i hg;rw[hcl]at hr0;match xs,hr0 with
    |[x],hr0=>exact⟨x,by rw[if_neg hg],hr0.2 0 v0 x rfl rfl⟩
    |[],hr0=>have:=hr0.1;simp at this
    |_::_::_,hr0=>have:=hr0.1;simp at this
  obtain⟨a,ha,hra⟩:=this;refine⟨a::av,m+n,⟨a,av,xs,m,n,rfl,hq0,ha,hq,rfl⟩,by simp only[Rows.uptoBulkAll];omega,qG (nI hra) hr,by simp[hdl]⟩
theorem U0{w:World}{H':Nat→Prop}(h:∀g,tabs g=none):TJ w H':=fun g cs hg=>by rw[h g]at hg;cases hg
theorem Dn{J:World→Prop}{f:FuncId}{fn:Func}{s:ChangeSpec}{tb:TypeId}(hJ:J w)(hT:TJ w (fun b=>b<w.heap.size))(hl:laidOutB P=true)(hv:s.vars=[])(hp:∀t,t∈fn.params.toList→P.readableRec t=true∧t<P.types.size)(hrt:fn.resultTypes=#[tb])(ht:P.underlying tb=some .bool)
 (ps:List (TypeId×Bool×(List V→Nat→Prop))) (hps:fn.params.toList=ps.map (·.1)) (ho:AP enc P w ps)
 (hfn:∀ds:List (DataW H),ds.length=ps.length→s.fn H (ds++[])={results:=[.lit (.bool true)],args:=ds})
 {base:Nat} {args:Array Value} {ds gs:List (DataW H)} {before:List MemPlace} (hval:∀(j:Nat) t v,fn.params[j]? =some t→args[j]? =some v→Value.okWide P w .any base t v)
 (hW:DataW.Whole enc P fn.params.toList s.vars false w args.toList ds gs before)
 (spec:∀av n,QAll ps av n→n≤Rows.uptoBulkAll (ds++gs)→ah P J f av (.b true)):
 Calls P f args w fun e W'=>∃v,e= .returned v∧s.post enc P fn false true false false w args v W':=by
 have hW':=hW
 have hlt:=hW.lt
 obtain⟨p,q,hA,hV,rfl,hfz,hnd⟩:=hW
 rw[hv]at hV
 obtain⟨rfl,rfl⟩:=trodVars_none hV
 have hA':=hA
 rw[hps]at hA'
 obtain⟨av,n,hq,hle,hr,hdl⟩:=AQ (base:=base) ho hA' (fun x hx=>hlt x (List.mem_append_left _ hx)) fun j t v ht hv=>hval j t v (by
  have:fn.params.toList[j]? =some t:=by rw[hps];exact ht
  simpa using this) (by simpa using hv)
 refine((spec av n hq (by rw[List.append_nil];exact hle)) w _ args.toList hJ hT (fun b hb=>hb) hr).mono fun e W' ⟨v,he,hb,hres⟩=>?_
 subst he
 have hvt:v= .bool true:=by
  obtain⟨N,_,h2⟩:=hres;rcases h2 with h2|⟨_,_,_,_,_,h2,_⟩|⟨_,h2,_⟩
  ·cases h2;rfl
  ·cases h2
  ·cases h2
 subst hvt
 exact⟨_,rfl,NH hl hv hp hrt ht hW' (hfn ds hdl) hb⟩
end
end Go.Proofs.YtcgfgifjkkmmcaaGreatDoor
namespace Go.Proofs.YtcgfgifjkkmmcaaGreatDoor
open Go Go.ChangeShapes Go.WideShapes Go.ChangeAt Go.RowKit Ab
abbrev WG:List V→Nat→Prop:=QSl 1 (WE .u64)
theorem CW{H:Type}{enc:TypeId×Value→H}{w:World}:kS enc Tryz.prog w 23 WG:=Gj Tryz.underlying23 kf Nat.zero_lt_one (CV Tryz.underlying31)
theorem Q8{xs:List V}{n:Nat}(h:WG xs n):∃a:List Nat,xs=[.l 1 (W a)]∧Wd a∧a.length≤n:=by
 obtain⟨es,rfl,he,_,rfl⟩:=h;have key:∀es:List (List V×Nat),(∀p,p∈es→WE .u64 p.1 p.2∧p.1.length=1)→∃a:List Nat,(es.map (·.1)).flatten=W a∧Wd a∧a.length≤(es.map (·.2)).sum:=by
  intro es;induction es with
  |nil=>intro _;exact⟨[],rfl,I9,Nat.zero_le _⟩
  |cons p r ih=>
   intro h;obtain⟨a,e,wa,la⟩:=ih fun q hq=>h q (List.mem_cons_of_mem _ hq)
   obtain⟨m,hm,hw,hn⟩:=(h p List.mem_cons_self).1;have hb:0≤m∧m<18446744073709551616:=by
    simp[Lit.wf,IntKind.min,IntKind.max,IntKind.signed,IntKind.bits]at hw;omega
   refine⟨m.toNat::a,?_,fun x hx=>?_,?_⟩
   ·rw[List.map_cons,List.flatten_cons,e,hm];simp only[W,List.map_cons,List.singleton_append];rw[Int.toNat_of_nonneg hb.1]
   ·rcases List.mem_cons.1 hx with rfl|hx
    ·show m.toNat<18446744073709551616;omega
    ·exact wa x hx
   ·simp only[List.length_cons,List.map_cons,List.sum_cons,hn];omega
 obtain⟨a,e,wa,la⟩:=key es he;exact⟨a,by rw[e],wa,Nat.le_succ_of_le la⟩
theorem wf64{n:Int}(h:(Lit.int .i64 n).wf=true): -9223372036854775808≤n∧n<9223372036854775808:=by
 simp[Lit.wf,IntKind.min,IntKind.max,IntKind.signed,IntKind.bits]at h;omega
theorem own:ownKnob Tryz.prog.godebug=none:=by kernel_rfl
theorem laid:laidOutB Tryz.prog=true:=by kernel_rfl
