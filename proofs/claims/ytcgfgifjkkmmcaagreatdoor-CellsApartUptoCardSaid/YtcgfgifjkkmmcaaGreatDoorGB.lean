import Derived.Lib.ConvBytes
import Derived.Lib.AppendStr
import Derived.Laws.StructEq
import Derived.Laws.IdiomStrings
import Derived.ChangeKeysEq
import Derived.Test.YtcgfgifjkkmmcaaGreatDoorGA
set_option linter.all false
namespace Go.Proofs.YtcgfgifjkkmmcaaGreatDoor.Ab
open Go Go.RowKit
section
variable {P:Program} {w0 w:World} {H0:HS} {H:Nat→Prop} {ov:Nat→Option Value} {ob:Nat→Option Ob}
theorem J7(B:Nat)(t ty e:TypeId)(i:TypeInfo)(z:Value)(size bytes:Nat)(ht:P.underlying t=some (.slice e))(hi:P.info? e=some i)(hz:i.zero=some z)
 (hsize:i.size=size) (hby:i.bytes=bytes) (hzs:z.cells.size=size) (hsz:0<size) (v:Value) (n:Nat) (xs:List Value) (hown:w.ownsRow B e size v n xs)
 (ba:Option Addr) (m c:Nat) (news:List Value) (hl:news.length=m*size) (hnews:news=[]∨∃a,ba=some a∧∀(j:Nat) (u:Value),news[j]? =some u→w.cell? (a.add j)=some u) (h1:∀u∈news,u.oneCell'=true)
 (h63:n+m≤maxLen) (hbytes:(n+m)*bytes≤140737488355328) (hbase:B≤w.heap.size):
 ∃v' w',(Builtin.append_ #[t,t] ty #[v,.slice ba m c]).run P w= .ok v' w'∧w'.ownsRow B e size v' (n+m) (xs++news)∧w.grownBy w' v.ownBlock∧(∀b,blk v'=some b→blk v=some b∨w.heap.size≤b):=by
 cases ba with
 |none=>
  have hn:news=[]:=by
   rcases hnews with h|⟨a,h,_⟩
   ·exact h
   ·cases h
  subst hn;have hm:m=0:=by
   have h0:m*size=0:=by rw[←hl];rfl
   rcases Nat.mul_eq_zero.1 h0 with h|h
   ·exact h
   ·omega
  subst hm;refine⟨v,w,?_,by simpa using hown,⟨rfl,rfl,rfl,Nat.le_refl _,fun _ _ _=>rfl⟩,fun b hb=> .inl hb⟩;rcases hown.2 with ⟨rfl,rfl⟩|⟨g,cap,cur,rfl,_,_,hnc,_⟩
  ·simp[Builtin.append_,run_underlying ht,sizeOf,typeInfo,hi,Builtin.lenOf,Builtin.firstCells]
  ·simp[Builtin.append_,run_underlying ht,sizeOf,typeInfo,hi,Builtin.lenOf,Builtin.firstCells,hnc,storeCells]
 |some a=>
  have hnews':∀(j:Nat) (u:Value),news[j]? =some u→w.cell? (a.add j)=some u:=by
   rcases hnews with rfl|⟨a',h,h'⟩
   ·intro j u h;simp at h
   ·cases h;exact h'
  obtain⟨v',w',hr,h2,h3,h4⟩:=run_append_own (P:=P) w B t ty e i z size bytes ht hi hz hsize hby hzs hsz v n xs hown a m c news hl hnews' h1 h63 hbytes hbase;refine⟨v',w',hr,h2,h3,fun b hb=>?_⟩;rcases hown.2 with ⟨rfl,rfl⟩|⟨g,cap,cur,rfl,hbg,hg,hnc,hcm,hcs,htake⟩
  ·have hown':w.ownsRow w.heap.size e size (.slice none 0 0) 0 xs:=⟨hown.1,.inl ⟨rfl,rfl⟩⟩;obtain⟨v2,w2,hr2,k2,_,_⟩:=run_append_own (P:=P) w w.heap.size t ty e i z size bytes ht hi hz hsize hby hzs hsz _ 0 xs hown' a m c news hl hnews' h1 h63 hbytes (Nat.le_refl _);rw[hr]at hr2;cases hr2;exact .inr (k2.lt b (by
    rcases k2.2 with ⟨e1,_⟩|⟨g',cap',cur',e1,_⟩
    ·rw[e1]at hb;cases hb
    ·rw[e1]at hb ⊢;exact hb)).1
  ·by_cases hroom:n+m≤cap
   ·obtain⟨w2,hr2,_⟩:=run_append_fits (P:=P) w B t ty e i size ht hi hsize g n cap xs hown a m c news hl hnews' h1 hroom;rw[hr]at hr2;cases hr2;exact .inl hb
   ·have holds:∀(j:Nat) (u:Value),xs[j]? =some u→w.cell? ((⟨g,0,none⟩:Addr).add j)=some u:=hown.cells (g:=g) rfl;have h63':n+m≤9223372036854775807:=by unfold maxLen at h63;omega
    have hr2:=run_append_grow (P:=P) w t ty e i z ht hi hz ⟨g,0,none⟩ n cap xs (by rw[hsize];exact hown.1) holds a m c news (by rw[hsize];exact hl) hnews' om om (growslice_fits om (by rw[hby];exact hbytes));rw[hr]at hr2;cases hr2;cases hb;exact .inr (Nat.le_refl _)
theorem z_(hm:Mem w0 H0 w H ov ob){v:Value}{x:V}{sz s:Nat}{xs:List V}(hsz:0<sz)(hr:Rep w H ov v x)(hok:okR ob x)(he:rd ob sz x= .l s xs):
 ∃ba m c us,v= .slice ba m c∧0<s∧xs.length=m*s∧(us=[]∨∃a,ba=some a∧∀(j:Nat) (u:Value),us[j]? =some u→w.cell? (a.add j)=some u)∧aj w H us xs:=by
 have row:∀(j off n:Nat) (o:Ob) (u:Value) (ba:Option Addr) (cap:Nat),ob j=some o→o.jl=false→ov j=some u→v= .slice ba n cap→off+n*o.sz≤o.cs.length→(n=0∨∃b,blk u=some b∧ba=some ⟨b,off,none⟩)→
  o.sz=s→(o.cs.drop off).take (n*o.sz)=xs→
  ∃ba m c us,v= .slice ba m c∧0<s∧xs.length=m*s∧(us=[]∨∃a,ba=some a∧∀(j:Nat) (u:Value),us[j]? =some u→w.cell? (a.add j)=some u)∧aj w H us xs:=by
  intro j off n o u ba cap ho zW hu hv hle ha e1 e2
  obtain⟨u',hu',hor⟩:=hm.obj j o ho
  rw[hu]at hu';cases hu'
  have E_:0<o.sz:=by
   rcases hor.bd with ⟨h,_⟩|⟨_,h,_⟩
   ·rw[zW]at h;cases h
   ·exact h
  have hlen:xs.length=n*s:=by rw[←e2,←e1];simp;omega
  rcases ha with rfl|⟨b,hb,rfl⟩
  ·refine⟨ba,0,cap,[],hv,e1▸E_,hlen,.inl rfl,?_⟩;have:xs=[]:=List.eq_nil_of_length_eq_zero (by rw[hlen];simp);subst this;exact⟨rfl,fun j v x h=>by simp at h⟩
  ·obtain⟨us,h1,h2,h3⟩:=hm.row ho (nY zW) hle hu hb;rw[e2]at h3;exact⟨_,n,cap,us,hv,e1▸E_,hlen,.inr ⟨_,rfl,fun j u h=>by rw[Addr.add_lit];exact h2 j u h⟩,h3⟩
 cases x with
 |ow s' j n=>
  obtain⟨ba,cap,e1,ho,hml,hcp,ha⟩:=hr.fD;simp only[rd]at he;cases hoj:ob j with
  |none=>rw[hoj]at he;cases he
  |some o=>
   rw[hoj]at he;simp only[]at he;cases hv:o.jl with
   |true=>rw[hv]at he;simp at he
   |false=>
    rw[hv]at he;simp only[Bool.false_eq_true,if_false,V.l.injEq]at he;obtain⟨rfl,rfl⟩:=he;obtain⟨u',hu',hor⟩:=hm.obj j o hoj;rw[ho]at hu';cases hu';have hn:o.cs.length=n*o.sz:=by
     rcases hor.bd with ⟨h,_⟩|⟨_,_,m,xs,hown,hra,_⟩
     ·rw[hv]at h;cases h
     ·have e:m=n:=by
       rcases hown.2 with ⟨h,h'⟩|⟨g,cap',cur,h,_⟩
       ·rw[e1]at h;cases h;exact h'
       ·rw[e1]at h;cases h;rfl
      rw[←hra.1,hown.1,e]
    exact row j 0 n o v ba cap hoj hv ho e1 om (ha.imp (fun h=>h) fun⟨b,e⟩=>⟨b,by rw[e1,e];rfl,e⟩) rfl (by rw[List.drop_zero,←hn,List.take_length])
 |sl s' j off n=>
  obtain⟨ba,cap,u,e1,hml,hcp,ho,ha⟩:=hr.ku;simp only[rd]at he;simp only[okR]at hok;cases hoj:ob j with
  |none=>rw[hoj]at hok;exact hok.elim
  |some o=>
   rw[hoj]at he hok;simp only[]at he;cases hv:o.jl with
   |true=>rw[hv]at he;simp at he
   |false=>
    rw[hv]at he;simp only[Bool.false_eq_true,if_false,V.l.injEq]at he;obtain⟨rfl,rfl⟩:=he;exact row j off n o u ba cap hoj hv ho e1 hok ha rfl rfl
 |nl=>
  simp only[rd,V.l.injEq]at he;obtain⟨rfl,rfl⟩:=he;exact⟨none,0,0,[],hr.jJ,hsz,sy,.inl rfl,rfl,fun j v x h=>by simp at h⟩
 |l s' cs=>
  simp only[rd,V.l.injEq]at he;obtain⟨rfl,rfl⟩:=he;obtain⟨ba,n,cap,f,b,o,e1,hsz',hn,hml,hcp,ha,hc,hr'⟩:=hr.nZ;refine⟨ba,n,cap,(List.range cs.length).map f,e1,hsz',hn,?_,sy,fun j u x h1 h2=>?_⟩
  ·rcases ha with rfl|⟨e2,_⟩
   ·exact .inl rfl
   ·refine .inr ⟨_,e2,fun j u h=>?_⟩;rw[Addr.add_lit];have hj:j<cs.length:=by
     have:=(List.getElem?_eq_some_iff.1 h).1;simpa using this
    simp only[List.getElem?_map,List.getElem?_range hj,Option.map_some,Option.some.injEq]at h;rw[hc j hj,h]
  ·have hj:j<cs.length:=(List.getElem?_eq_some_iff.1 h2).1;simp only[List.getElem?_map,List.getElem?_range hj,Option.map_some,Option.some.injEq]at h1;rw[←h1];exact hr' j x h2
 |_=>simp only[rd]at he;cases he
def Yu(w w':World)(H:Nat→Prop)(v:Value)(r:V):Prop:=
 ∃N:Nat→Prop,(∀b,N b→w.heap.size≤b∧b<w'.heap.size)∧
  (Rep0 w' (fun b=>H b∨N b) v r∨
   (∃e sz cs n xs,r= .o e sz cs∧0<sz∧w'.ownsRow w.heap.size e sz v n xs∧aj w' (fun b=>H b∨N b) xs cs∧(∀x,x∈cs→x.cell=true)∧n≤maxLen∧(∀b,blk v=some b→¬N b))∨
   ∃r',r= .fr r'∧Rep0 w' N v r')
def O_(P:Program)(J:World→Prop)(f:FuncId)(args:List V)(r:V):Prop:=
 ∀(w:World) (H:Nat→Prop) (vs:List Value),J w→TJ w H→(∀b,H b→b<w.heap.size)→aj w H vs args→
  Calls P f vs.toArray w fun e w'=>∃v,e= .returned v∧Below w.heap.size w w'∧Yu w w' H v r
def MFun(P:Program)(J:World→Prop)(f:FuncId)(args:List V)(r:V)(cs':List V):Prop:=
 ∃m e sz cs,args[m]? =some (.o e sz cs)∧∀(w:World) (H:Nat→Prop) (vs:List Value) (v:Value) (n:Nat) (xs:List Value),J w→TJ w H→(∀b,H b→b<w.heap.size)→vs.length=args.length→vs[m]? =some v→
  (∀(j:Nat) (u:Value) (x:V),j≠m→vs[j]? =some u→args[j]? =some x→Rep0 w H u x)→0<sz→w.ownsRow 0 e sz v n xs→aj w H xs cs→(∀x,x∈cs→x.cell=true)→n≤maxLen→(∀b,blk v=some b→¬H b)→
  Calls P f vs.toArray w fun ex w'=>∃rv,ex= .returned rv∧aI w (fun b=>blk v=some b) w'∧Rep0 w' H rv r∧r.iI=false∧(∀x,x∈cs'→x.cell=true)∧∃(xs':List Value) (N:Nat→Prop),w'.ownsRow 0 e sz v n xs'∧(∀b,N b→w.heap.size≤b∧b<w'.heap.size)∧aj w' (fun b=>H b∨N b) xs' cs'
def Z5(P:Program)(J:World→Prop)(f:FuncId)(args:List V)(e sz:Nat)(cs rs:List V):Prop:=
 0<sz∧∀(w:World) (H:Nat→Prop) (vs:List Value),J w→TJ w H→(∀b,H b→b<w.heap.size)→aj w H vs args→
  Calls P f vs.toArray w fun ex w'=>∃(u:Value) (us:List Value) (n:Nat) (xs:List Value) (N:Nat→Prop),ex= .returned (.tuple (u::us).toArray)∧Below w.heap.size w w'∧w'.ownsRow w.heap.size e sz u n xs∧(∀b,N b→w.heap.size≤b∧b<w'.heap.size)∧(∀b,blk u=some b→¬N b)∧
   aj w' (fun b=>H b∨N b) xs cs∧(∀x,x∈cs→x.cell=true)∧n≤maxLen∧aj w' (fun b=>H b∨N b) us rs
def OFun(P:Program)(J:World→Prop)(f:FuncId)(args:List V)(e sz:Nat)(cs2:List V):Prop:=
 ∃cs,args=[.o e sz cs]∧∀(w:World) (H:Nat→Prop) (v:Value) (n:Nat) (xs:List Value),J w→TJ w H→(∀b,H b→b<w.heap.size)→0<sz→w.ownsRow 0 e sz v n xs→aj w H xs cs→(∀x,x∈cs→x.cell=true)→n≤maxLen→(∀b,blk v=some b→¬H b)→
  Calls P f #[v] w fun ex w'=>∃(rv:Value) (n':Nat) (xs':List Value) (N:Nat→Prop),ex= .returned rv∧aI w (fun b=>blk v=some b) w'∧w'.ownsRow 0 e sz rv n' xs'∧n'≤maxLen∧(∀b,N b→w.heap.size≤b∧b<w'.heap.size)∧(∀b,blk rv=some b→(blk v=some b∨w.heap.size≤b)∧¬N b)∧
   aj w' (fun b=>H b∨N b) xs' cs2∧(∀x,x∈cs2→x.cell=true)
abbrev V.ta(e sz:Nat)(cs:List V):V:= .mu (.sl e sz 0 0) cs
def ah(P:Program)(J:World→Prop)(f:FuncId)(args:List V)(r:V):Prop:=
 match r with
 | .mu (.sl e sz _ _) cs=>OFun P J f args e sz cs
 | .mu x cs=>MFun P J f args x cs
 | .to e sz cs rs=>Z5 P J f args e sz cs rs
 |r=>O_ P J f args r
def V.Aa:V→Bool
 | .mu _ _=>true
 | .to _ _ _ _=>true
 |_=>false
theorem ah.of0{P:Program}{J:World→Prop}{f:FuncId}{args:List V}{r:V}(hr:r.Aa=false)(h:O_ P J f args r):ah P J f args r:=by
 cases r<;>first|exact h|cases hr
theorem ah.Vf{P:Program}{J:World→Prop}{f:FuncId}{args:List V}{r:V}(hr:r.Aa=false)(h:ah P J f args r):O_ P J f args r:=by
 cases r<;>first|exact h|cases hr
def iJ(P:Program)(f:FuncId)(args:List V)(r:V):Prop:=
 ∀(w:World) (H:Nat→Prop) (ov:Nat→Option Value) (vs:List Value),vs.length=args.length→(∀(j:Nat) (v:Value) (x:V),vs[j]? =some v→args[j]? =some x→Rep w H ov v x)→
  ∃v,(callFunc f vs.toArray).run P w= .ok (.value v) w∧Rep w H ov v r
theorem Fh{x:V}(h:(match x with| .i _ _| .b _| .s _=>false|_=>true)=false){w':World}{H':Nat→Prop}{v:Value}(hr:Rep0 w H v x):Rep0 w' H' v x:=by
 cases x<;>simp at h<;>cases hr<;>first|exact .i _ _|exact .b _|exact .s _
theorem oZ{cs:List V}(h:(cs.any fun x=>match x with| .i _ _| .b _| .s _=>false|_=>true)=false){w':World}{H':Nat→Prop}{vs:List Value}(hr:aj w H vs cs):aj w' H' vs cs:=
 ⟨hr.1,fun j v x h1 h2=>Fh (by
   have:=List.any_eq_false.1 h x (List.mem_of_getElem? h2);cases x<;>simp_all) (hr.2 j v x h1 h2)⟩
theorem Fj{x:V}(h:x.iI=false){w':World}{H':Nat→Prop}{v:Value}(hr:Rep0 w H v x):Rep0 w' H' v x:=by
 cases x with
 |g cs=>cases hr with|g vs cs hn hr=>have:=oZ (w':=w') (H':=H') h ⟨hn,hr⟩;exact .g vs cs this.1 this.2
 |t cs=>cases hr with|t vs cs hn hr=>have:=oZ (w':=w') (H':=H') h ⟨hn,hr⟩;exact .t vs cs this.1 this.2
 |o e sz cs=>cases hr
 |fr x=>cases hr
 |i k n=>cases hr;exact .i _ _
 |b x=>cases hr;exact .b _
 |s l=>cases hr;exact .s _
 |c v=>cases hr;exact .c _
 |un=>cases hr;exact .un
 |any=>exact .any _
 |nl=>cases hr;exact .nl
 |f n=>cases hr with|f q n h=>exact .f q n h
 |z a b=>cases hr with|z p q a b h k=>exact .z p q a b h k
 |_=>simp[V.iI]at h
theorem Mem.grow(hm:Mem w0 H0 w H ov ob){w':World}(hb:Below w.heap.size w w'){N:Nat→Prop}(hN:∀b,N b→w.heap.size≤b∧b<w'.heap.size):
 Ext w H ov w' (fun b=>H b∨N b) ov∧Mem w0 H0 w' (fun b=>H b∨N b) ov ob:=by
 obtain⟨e1,m1⟩:=hm.step (row:=none) (hm.bel.after hb) hb.size (fun k hk _=>hb.block k hk) (fun _ _=>sy) (fun _ _ h=>h) (ob':=ob) (bJ:=ov) (fun i o h=> .inl ⟨h,fun _ _ _ _=>sy⟩)
 refine⟨⟨fun _ h=> .inl h,e1.hw,e1.ho⟩,⟨m1.bel,m1.tj.mono (fun _ h=> .inl h) (fun _ _=>rfl),fun b h=>h.elim (m1.uk b) (fun h=>(hN b h).2),fun b h hb=>h.elim (fun h=>m1.low b h hb) (fun h=>by have:=(hN b h).1;have:=hm.bel.size;omega),fun i o hi=>?_,m1.sep⟩⟩
 obtain⟨u,hu,hr⟩:=m1.obj i o hi
 refine⟨u,hu,hr.mono (fun _ _ h=>h) (fun _ h=> .inl h) (fun _ _=>rfl) (fun _ _=>rfl) (fun b hbu h=>h.elim id fun h=>?_)⟩
 obtain⟨u',hu',hr'⟩:=hm.obj i o hi
 rw[hu]at hu';cases hu'
 have:=(hr'.lt hbu).2
 have:=(hN b h).1
 omega
theorem Mem.more(hm:Mem w0 H0 w H ov ob){N:Nat→Prop}(hN:∀b,N b→b<w.heap.size∧w0.heap.size≤b)(hn:∀i o v b,ob i=some o→ov i=some v→blk v=some b→¬N b):
 Ext w H ov w (fun b=>H b∨N b) ov∧Mem w0 H0 w (fun b=>H b∨N b) ov ob:=by
 refine⟨⟨fun _ h=> .inl h,fun _ _=>rfl,fun _ _ h=>h⟩,⟨hm.bel,hm.tj.mono (fun _ h=> .inl h) (fun _ _=>rfl),fun b h=>h.elim (hm.uk b) (fun h=>(hN b h).1),fun b h hb=>h.elim (fun h=>hm.low b h hb) (fun h=>by have:=(hN b h).2;omega),fun i o hi=>?_,hm.sep⟩⟩
 obtain⟨u,hu,hr⟩:=hm.obj i o hi
 exact⟨u,hu,hr.mono (fun _ _ h=>h) (fun _ h=> .inl h) (fun _ _=>rfl) (fun _ _=>rfl) (fun b hbu h=>h.elim id fun h=>absurd h (hn i o u b hi hu hbu))⟩
theorem Mem.ins(hm:Mem w0 H0 w H ov ob){id:Nat}(hid:ov id=none){v:Value}{o:Ob}(hr:∀bJ,dU w H (Ow w0 H0) bJ v o)(hd:∀j oj vj b,ob j=some oj→ov j=some vj→blk v=some b→blk vj≠some b):
 Ext w H ov w H (rY ov id v)∧Mem w0 H0 w H (rY ov id v) (upd ob [(id,some o)]):=by
 refine hm.step (row:=none) hm.bel (Nat.le_refl _) (fun _ _ _=>rfl) (fun _ _=>sy) (kz hid) fun i oi hi=>?_
 by_cases e:i=id
 ·subst e;right;simp only[upd,if_true,Option.some.injEq]at hi;subst hi;refine⟨v,dB i v,hr _,fun j oj vj b hj hoj p_ hbv=>?_⟩;simp only[upd,if_neg (fun e=>hj e.symm:¬i=j)]at hoj;obtain⟨u,hu,_⟩:=hm.obj j oj hoj;have:=kz (v:=v) hid j u hu;rw[p_]at this;cases this;exact hd j oj _ b hoj hu hbv
 ·left;simp only[upd,if_neg (fun e'=>e e'.symm:¬id=i)]at hi;exact⟨hi,fun _ _ _ _=>sy⟩
end
section ops
variable {P:Program} {J:World→Prop} {w0 w:World} {H0:HS} {H:Nat→Prop} {ov:Nat→Option Value} {ob:Nat→Option Ob} {id:Nat} {ρ:X→V} {a:Act} {o:Oper} {K:Act→World→Prop} {Q:Exit→Act→World→Prop}
 {R:V→List (Nat×Option Ob)→Prop}
variable (hm:Mem w0 H0 w H ov ob) (hρ:∀p x,cX p=some x→Rep w H ov (a.eval p) (ρ x)) (hF:Fin w0 H0 w H ov ob id R a o.dst K) (hid:ov id=none) (hob:ob id=none)
include hm hρ hF hid hob
theorem s_app{t e:TypeId}{s x:Operand}{s' x':X}{sz BB:Nat}{z:List V}(hop:o.op= .call {callee:= .builtin .append,args:=#[s,x],argTypes:=#[t,t]})(ht:P.underlying t=some (.slice e))(hty:xE P e=some (sz,BB,z))(hs:cX s=some s')(hx:cX x=some x')
 (h:ev (fun _ _ _=>False) (fun _ _ _=>False) ρ ob id R (.app e sz BB s' x')):o.wp P a w K Q:=by
 obtain⟨i,zv,hi,hz,hsi,hb,rfl,hvs,hpos,hall⟩:=mG hty
 have h1:=hρ s s' hs
 have h2:=(hρ x x' hx).yQ
 simp only[ev]at h
 have Fp:∀v' w',(Builtin.append_ #[t,t] o.type #[a.eval s,a.eval x]).run P w= .ok v' w'→(execOp a.eval o).run P w= .ok (.value v') w':=fun v' w' hr=>by
  simp[execOp,hop,resolve,invoke,builtin,hr]
 cases hv:ρ s'<;>rw[hv]at h h1<;>(try simp only[]at h)
 case nl=>
  cases hu:rd ob sz (Ab.yQ (ρ x'))<;>rw[hu]at h<;>(try simp only[]at h);case l s2 xs=>
   obtain⟨⟨hok,rfl,hcl,hbytes,hbig⟩,hR⟩:=h;obtain⟨ba,m,c,us,e1,hs2,hlen,hcells,hra⟩:=z_ hm hpos h2 hok hu;have hm':xs.length/s2=m:=by rw[hlen,Nat.mul_div_cancel _ hs2]
   rw[hm']at hbytes hbig hR;have hown:w.ownsRow w.heap.size e s2 (.slice none 0 0) 0 []:=World.ownsRow_nil _ _ _ _;have hone:∀u∈us,u.oneCell'=true:=fun u hu=>by
    obtain⟨k,hk,rfl⟩:=List.getElem_of_mem hu;have hk':k<xs.length:=by rw[←hra.1];exact hk
    exact(hra.2 k _ _ (List.getElem?_eq_getElem hk) (List.getElem?_eq_getElem hk')).oneCell (dV hcl _ (List.getElem_mem hk'))
   obtain⟨v',w',hr,ho2,hg,hblk⟩:=J7 (P:=P) w.heap.size t o.type e i zv s2 BB ht hi hz hsi hb hvs hs2 _ 0 [] hown ba m c us (by rw[hra.1,hlen]) hcells hone (by unfold maxLen;omega) (by rw[Nat.zero_add];omega) (Nat.le_refl _);rw[Nat.zero_add,List.nil_append]at ho2;have hBl:Below w.heap.size w w':=⟨hg.os,hg.tape,hg.output,hg.size,fun k hk=>hg.block k hk (by simp[Value.ownBlock])⟩;have ho3:w'.ownsRow 0 e s2 v' m us:=own0 ho2;have DF:aj w' H us xs:=hra.mono (fun _ h=>h) (fun b hb=>hBl.block b (hm.uk b hb));have hnew:∀b,blk v'=some b→w.heap.size≤b:=fun b hb=>by
    rcases hblk b hb with h|h
    ·cases h
    ·exact h
   have hor:=dU.row ho3 hs2 DF (dV hcl) (by unfold maxLen;omega) (fun b hb h=>by have:=hnew b hb;have:=hm.uk b h;omega) (O:=Ow w0 H0) (fun b hb=> .inl (Nat.le_trans hm.bel.size (hnew b hb)));obtain⟨ik,hm2⟩:=hm.add hid hob hBl hor hnew;unfold Oper.wp;rw[Fp v' w' (by rw[h1.jJ,e1];exact hr)];exact hF _ _ _ _ H _ hR ik gp hm2 (lG ho3 (by unfold maxLen;omega) (dB _ _))
 case ow s1 j n=>
  cases hu:rd ob sz (Ab.yQ (ρ x'))<;>rw[hu]at h<;>(try simp only[]at h);case l s2 xs=>
   cases hoj:ob j with
   |none=>rw[hoj]at h;exact h.elim
   |some oo=>
    rw[hoj]at h;obtain⟨⟨hok,rfl,rfl,he,E_,hmu,zW,hcl,hbytes,hbig⟩,hR⟩:=h;obtain⟨ba0,cap0,e0,Z7,hml,hcp,ha⟩:=h1.fD;obtain⟨ba,m,c,us,e1,hs2,hlen,hcells,hra⟩:=z_ hm hpos h2 hok hu;have hm':xs.length/s2=m:=by rw[hlen,Nat.mul_div_cancel _ hs2]
    rw[hm']at hbytes hbig hR;obtain⟨vj,p_,hor⟩:=hm.obj j oo hoj;rw[Z7]at p_;cases p_;have LY:∀b,blk (a.eval s)=some b→¬H b:=fun b hb h=>by have:=(hor.fz b hb).1 h;rw[hmu]at this;cases this
    rcases hor.bd with ⟨h',_⟩|⟨_,_,n',xs0,hown,hra0,hn0⟩
    ·rw[zW]at h';cases h'
    ·rw[he,E_]at hown;have en:n'=n:=by
      rcases hown.2 with ⟨h,h'⟩|⟨g,cap',cur,h,_⟩
      ·rw[e0]at h;cases h;exact h'
      ·rw[e0]at h;cases h;rfl
     subst en;have hone:∀u∈us,u.oneCell'=true:=fun u hu=>by
      obtain⟨k,hk,rfl⟩:=List.getElem_of_mem hu;have hk':k<xs.length:=by rw[←hra.1];exact hk
      exact(hra.2 k _ _ (List.getElem?_eq_getElem hk) (List.getElem?_eq_getElem hk')).oneCell (dV hcl _ (List.getElem_mem hk'))
     obtain⟨v',w',hr,ho2,hg,hblk⟩:=J7 (P:=P) 0 t o.type e i zv s2 BB ht hi hz hsi hb hvs hs2 _ n' xs0 hown ba m c us (by rw[hra.1,hlen]) hcells hone (by unfold maxLen;omega) om (Nat.zero_le _);have hrow:∀k,(a.eval s).ownBlock=some k→blk (a.eval s)=some k:=fun k hk=>by
      rcases hown.2 with ⟨h,_⟩|⟨g,cap',cur,h,_⟩
      ·rw[h]at hk;cases hk
      ·rw[h]at hk ⊢;exact hk
     have hbel:aI w0 H0.e w':=hm.bel.grown hg (fun k hk=>(hor.lt (hrow k hk)).1);have Yv:∀b,H b→some b≠(a.eval s).ownBlock:=fun b hb e=>LY b (hrow b e.symm) hb
     have hw:∀b,H b→w'.heap[b]? =w.heap[b]? :=fun b hb=>hg.block b (hm.uk b hb) (Yv b hb)
     have DF:aj w' H (xs0++us) (oo.cs++xs):=by
      have k0:=hra0.mono (w':=w') (fun _ h=>h) hw;have k1:=hra.mono (w':=w') (fun _ h=>h) hw;refine⟨by simp[k0.1,k1.1],fun jj v x h3 h4=>?_⟩;by_cases hlt:jj<xs0.length
      ·rw[List.getElem?_append_left hlt]at h3;rw[List.getElem?_append_left (by rw[←k0.1];exact hlt)]at h4;exact k0.2 jj v x h3 h4
      ·rw[List.getElem?_append_right om]at h3;rw[List.getElem?_append_right (by have:=k0.1;omega),←k0.1]at h4;exact k1.2 _ v x h3 h4
     have hnH':∀b,blk v'=some b→¬H b:=fun b hb h=>by
      rcases hblk b hb with h'|h'
      ·exact LY b h' h
      ·have:=hm.uk b h;omega
     have hor':∀bJ,dU w' H (Ow w0 H0) bJ v' {oo with cs:=oo.cs++xs}:=by
      have:=dU.row ho2 hs2 DF (fun x hx=>(List.mem_append.1 hx).elim (hor.cl (nY zW) x) (dV hcl x)) (by unfold maxLen;omega) hnH' (O:=Ow w0 H0) (fun b hb=>by
       rcases hblk b hb with h'|h'
       ·exact(hor.lt h').1
       ·exact .inl (Nat.le_trans hm.bel.size h'))
      rw[←he,←E_]at this;have e4:({oo with cs:=oo.cs++xs}:Ob)={e:=oo.e,sz:=oo.sz,cs:=oo.cs++xs,mu:=true,jl:=false}:=by cases oo;simp_all
      rw[e4];exact this
     obtain⟨ik,hm2⟩:=hm.step (row:=(a.eval s).ownBlock) (ob':=upd ob [(j,none),(id,some {oo with cs:=oo.cs++xs})]) (bJ:=rY ov id v') hbel hg.size (fun k hk hne=>hg.block k hk hne) Yv (kz hid) (fun q oq hq=>by
      by_cases ej:j=q
      ·simp[upd,ej]at hq
      ·by_cases eid:id=q
       ·right;subst eid;simp only[upd,if_neg ej,if_true,Option.some.injEq]at hq;subst hq;refine⟨v',dB _ _,hor' _,fun l ol vl b hl hol hvl hbv hbl=>?_⟩;by_cases ej2:j=l
        ·simp[upd,ej2]at hol
        ·simp only[upd,if_neg ej2,if_neg (fun e=>hl e.symm:¬id=l)]at hol;obtain⟨u,hu3,hur⟩:=hm.obj l ol hol;have e5:=kz (v:=v') hid l u hu3;rw[hvl]at e5;cases e5;rcases hblk b hbv with h'|h'
         ·exact hm.sep j l oo ol _ _ b ej2 hoj hol Z7 hu3 h' hbl
         ·have:=(hur.lt hbl).2;omega
       ·left;simp only[upd,if_neg ej,if_neg eid]at hq;refine⟨hq,fun u b h3 h4 h5=>?_⟩;exact hm.sep j q oo oq _ u b ej hoj hq Z7 h3 (hrow b h5.symm) h4)
     unfold Oper.wp;rw[Fp v' w' (by rw[e1];exact hr)];exact hF _ _ _ _ H _ hR ik gp hm2 (lG ho2 (by unfold maxLen;omega) (dB _ _))
omit hm hρ hF hid hob in
theorem uQ:∀{ps:List (Operand×TypeId)} {qs:List (Nat×X)},vT P ps=some qs→
 ps.length=qs.length∧∀(j:Nat) (p:Operand×TypeId) (q:Nat×X),ps[j]? =some p→qs[j]? =some q→cX p.1=some q.2∧0<q.1
 |[],qs,h=>by simp[vT]at h;subst h;exact⟨rfl,fun j p q h=>by simp at h⟩
 |(x,t)::r,qs,h=>by
  unfold vT at h;split at h
  ·rename_i x' r' hx hr;obtain⟨h1,h2⟩:=uQ hr;split at h
   ·split at h
    ·rename_i sz _ _ hty;cases h;obtain⟨_,_,_,_,_,_,_,_,hpos,_⟩:=mG hty;refine⟨by simp[h1],fun j p q hp hq=>?_⟩;cases j with
     |zero=>simp at hp hq;subst hp;subst hq;exact⟨hx,hpos⟩
     |succ j=>exact h2 j p q (by simpa using hp) (by simpa using hq)
    ·cases h
   ·cases h;refine⟨by simp[h1],fun j p q hp hq=>?_⟩;cases j with
    |zero=>simp at hp hq;subst hp;subst hq;exact⟨hx,Nat.one_pos⟩
    |succ j=>exact h2 j p q (by simpa using hp) (by simpa using hq)
  ·cases h
omit hm hρ hF hid hob in
theorem Fq:∀{ps:List Operand} {qs:List X},cXs ps=some qs→ps.length=qs.length∧∀(j:Nat) (p:Operand) (q:X),ps[j]? =some p→qs[j]? =some q→cX p=some q
 |[],qs,h=>by simp[cXs]at h;subst h;exact⟨rfl,fun j p q h=>by simp at h⟩
 |x::r,qs,h=>by
  unfold cXs at h;split at h
  ·rename_i x' r' hx hr;cases h;obtain⟨h1,h2⟩:=Fq hr;refine⟨by simp[h1],fun j p q hp hq=>?_⟩;cases j with
   |zero=>simp at hp hq;subst hp;subst hq;exact hx
   |succ j=>exact h2 j p q (by simpa using hp) (by simpa using hq)
  ·cases h
omit hm hρ hF hid hob in
theorem aj.app{w:World}{H:Nat→Prop}{xs ys:List Value}{cs ds:List V}(h:aj w H xs cs)(k:aj w H ys ds):aj w H (xs++ys) (cs++ds):=by
 refine⟨by simp[h.1,k.1],fun jj v x h3 h4=>?_⟩;by_cases hlt:jj<xs.length
 ·rw[List.getElem?_append_left hlt]at h3;rw[List.getElem?_append_left (by rw[←h.1];exact hlt)]at h4;exact h.2 jj v x h3 h4
 ·rw[List.getElem?_append_right om]at h3;rw[List.getElem?_append_right (by have:=h.1;omega),←h.1]at h4;exact k.2 _ v x h3 h4
theorem Vg(hJ:J w){c:Call}{f:FuncId}{fn:Func}{qs:List (Nat×X)}{cap:List Value}{Vh:List V}(hop:o.op= .call c){p:Operand}(hc:c.callee= .value p)(hp:a.eval p= .func (.func f) #[] cap.toArray)(hcap:aj w H cap Vh)(hf:P.funcs[f]? =some fn)(hname:(fn.name== "runtime.NumGoroutine")=false)(hbody:fn.body.isSome=true)
 (hsz:c.args.size=c.argTypes.size) (hq:vT P (c.args.toList.zip c.argTypes.toList)=some qs)
 (h:chk (jZ ob (qs.map fun p=>ρ p.2)∧(qs.all fun p=>(rd ob p.1 (ρ p.2)).aQ)=true) (∃n r,ah P J f ((qs.map fun p=>Ox n ob p.1 (ρ p.2))++Vh) r∧
   match r with
   | .o e sz cs=>chk (0<sz) (R (.ow sz id (cs.length/sz)) ((id,some {e,sz,cs,mu:=true,jl:=false})::if r.iI then qs.flatMap fun p=>eF ob (ρ p.2)else[]))
   | .fr r=>R r []
   | .to e sz cs rs=>R (.tw sz id (cs.length/sz) rs) ((id,some {e,sz,cs,mu:=true,jl:=false})::if(V.o e sz cs).iI||(V.t rs).iI then qs.flatMap fun p=>eF ob (ρ p.2)else[])
   | .mu _ _=>False
   |r=>R r (if r.iI then qs.flatMap fun p=>eF ob (ρ p.2)else[]))):o.wp P a w K Q:=by
 obtain⟨⟨hok,hargs⟩,nn,r,hfun,hr⟩:=h
 obtain⟨hl,yR⟩:=uQ hq
 have hl2:c.args.toList.length=qs.length:=by
  rw[←hl,List.length_zip];simp[hsz]
 obtain⟨H1,vX,hm1,hfr,_⟩:=hm.freeze (gY (ob:=ob) qs (fun p=>ρ p.2))
 have Z8:aj w H1 (c.args.toList.map a.eval) (qs.map fun p=>Ox nn ob p.1 (ρ p.2)):=by
  refine⟨by simpa using hl2,fun j v x h1 h2=>?_⟩;simp only[List.getElem?_map,Option.map_eq_some_iff]at h1 h2;obtain⟨p,hp,rfl⟩:=h1;obtain⟨q,hq',rfl⟩:=h2;have hj:j<c.argTypes.toList.length:=by
   have:=(List.getElem?_eq_some_iff.1 hp).1;simp at this ⊢;omega
  obtain⟨hx,hpos⟩:=yR j (p,c.argTypes.toList[j]) q (List.getElem?_zip_eq_some.2 ⟨hp,List.getElem?_eq_getElem hj⟩) hq';have hmem:q∈qs:=List.mem_of_getElem? hq';have hq2:=hρ _ _ hx;unfold Ox;split
  ·rename_i e;rw[e]at hq2;exact hq2.jJ▸ .nl
  exact oG hm hpos (hρ _ _ hx) (vV hok _ (List.mem_map.2 ⟨q,hmem,rfl⟩)) (.inl (List.all_eq_true.1 hargs q hmem)) vX.hH (fun k y u b h1 h2 h3=>hfr k y u b (List.mem_flatMap.2 ⟨q,hmem,h1⟩) h2 h3)
 have gX:aj w H1 (c.args.toList.map a.eval++cap) ((qs.map fun p=>Ox nn ob p.1 (ρ p.2))++Vh):=Z8.app (hcap.mono vX.hH (fun _ _=>rfl))
 have hrun:(execOp a.eval o).run P w= .ok (.enter f (c.args.toList.map a.eval++cap).toArray) w:=by
  have hn:fn.name≠ "runtime.NumGoroutine" :=by simpa using hname
  have hb:¬(fn.body=none):=by intro e;rw[e]at hbody;cases hbody
  have qo:(c.args.toList.map a.eval++cap).toArray=c.args.map a.eval++cap.toArray:=by
   apply Array.ext';simp
  rw[qo];simp[execOp,hop,resolve,hc,hp,Deferred.ofValue,invoke,callFunc,hf,hn,hb]
 by_cases hto:∃e sz cs rs,r= .to e sz cs rs
 ·obtain⟨e2,sz,cs,rs,rfl⟩:=hto;obtain⟨hsz2,hT⟩:=hfun;simp only[]at hr;unfold Oper.wp;rw[hrun,Oper.upon_enter];refine(hT w H1 _ hJ hm1.tj (fun b hb=>hm1.uk b hb) gX).mono ?_;rintro e w' ⟨u,us,n,xs,N,rfl,hbel,hown,hN,hnN,hra,hcl,hnm,hrs⟩;show K (a.put o.dst (.tuple (u::us).toArray)) w';have hne:cs.length/sz=n:=by rw[←hra.1,hown.1,Nat.mul_div_cancel _ hsz2]
  rw[hne]at hr;have hown0:w'.ownsRow w0.heap.size e2 sz u n xs:=⟨hown.1,hown.2.imp (fun h=>h) fun⟨g,cap,cur,e1,hb1,r⟩=>⟨g,cap,cur,e1,Nat.le_trans hm.bel.size hb1,r⟩⟩;have hnew:∀b,blk u=some b→w.heap.size≤b:=fun b hb=>(hown.lt b (J6 hown hb)).1
  by_cases hL:((V.o e2 sz cs).iI||(V.t rs).iI)=true
  ·rw[if_pos hL]at hr;obtain⟨e3,m3⟩:=hm1.grow hbel hN;have hor:=dU.row hown0 hsz2 hra hcl hnm (fun b hb h=>h.elim (fun h=>by have:=hm1.uk b h;have:=hnew b hb;omega) (hnN b hb)) (O:=Ow w0 H0) (fun b hb=> .inl (Nat.le_trans hm.bel.size (hnew b hb)));obtain⟨e4,m4⟩:=m3.ins hid hor (fun j oj vj b hoj p_ hbv hbj=>by
    obtain⟨u',hu,hur⟩:=hm1.obj j oj hoj;rw[p_]at hu;cases hu;have:=(hur.lt hbj).2;have:=hnew b hbv;omega)
   obtain⟨ba,cap,e5,Z9,Z_,aab,ha5⟩:=(lG (w:=w') (H:=fun b=>H1 b∨N b) hown0 hnm (dB (ov:=ov) id u)).fD;rw[e5]at Z9 ⊢;rw[e5]at e4 m4;rw[jK]at m4;exact hF _ _ _ w' _ _ hr ((vX.trans e3).trans e4) gp m4 (.tw sz id n cap ba us rs Z_ aab ha5 (by rw[←e5]at Z9 ⊢;exact dB _ _) hrs)
  ·rw[if_neg hL]at hr;simp only[Bool.or_eq_true,not_or,Bool.not_eq_true]at hL;obtain⟨e3,m3⟩:=hm.grow hbel (N:=fun _=>False) (fun b h=>h.elim);have aac:aj w' (fun b=>H b∨False) xs cs:=oZ hL.1 hra;have hor:=dU.row hown0 hsz2 aac hcl hnm (fun b hb h=>h.elim (fun h=>by have:=hm.uk b h;have:=hnew b hb;omega) (fun h=>h)) (O:=Ow w0 H0) (fun b hb=> .inl (Nat.le_trans hm.bel.size (hnew b hb)));obtain⟨e4,m4⟩:=m3.ins hid hor (fun j oj vj b hoj p_ hbv hbj=>by
    obtain⟨u',hu,hur⟩:=hm.obj j oj hoj;rw[p_]at hu;cases hu;have:=(hur.lt hbj).2;have:=hnew b hbv;omega)
   obtain⟨ba,cap,e5,Z9,Z_,aab,ha5⟩:=(lG (w:=w') (H:=fun b=>H b∨False) hown0 hnm (dB (ov:=ov) id u)).fD;rw[e5]at Z9 ⊢;rw[e5]at e4 m4;exact hF _ _ _ w' _ _ hr (e3.trans e4) gp m4 (.tw sz id n cap ba us rs Z_ aab ha5 (by rw[←e5]at Z9 ⊢;exact dB _ _) (oZ hL.2 hrs))
 have hmu:r.Aa=false:=by cases r<;>first|rfl|exact hr.elim|exact absurd ⟨_,_,_,_,rfl⟩ hto
 have DI:=(hfun.Vf hmu) w H1 _ hJ hm1.tj (fun b hb=>hm1.uk b hb) gX
 have Ve:upd ob (qs.flatMap fun p=>eF ob (ρ p.2)) id=none:=by
  rcases jD (ob:=ob) (qs.flatMap fun p=>eF ob (ρ p.2)) id with ⟨e1,_⟩|h'
  ·rw[e1];exact hob
  ·obtain⟨o',h1,_⟩:=gY (ob:=ob) qs (fun p=>ρ p.2) _ _ h';rw[hob]at h1;cases h1
 unfold Oper.wp
 rw[hrun,Oper.upon_enter]
 refine DI.mono ?_
 rintro e w' ⟨v,rfl,hbel,N,hN,hres⟩
 show K (a.put o.dst v) w'
 rcases hres with hres|⟨e2,sz,cs,n,xs,rfl,hsz2,hown,hra,hcl,hnm,hnN⟩|⟨r',rfl,hres⟩
 rotate_left 2
 ·obtain⟨e3,m3⟩:=hm.grow hbel hN;exact hF _ _ v w' _ ov hr e3 (fun _ _ h=>h) m3 (.up (hres.mono (fun _ h=> .inr h) (fun _ _=>rfl)))
 ·have hr':R r (if r.iI then qs.flatMap fun p=>eF ob (ρ p.2)else[]):=by
   cases r with
   |o e sz cs=>cases hres
   |fr r'=>cases hres
   |mu x cs=>cases hres
   |to e sz cs rs=>cases hres
   |_=>exact hr
  by_cases hL:r.iI=true
  ·rw[if_pos hL]at hr';obtain⟨e3,m3⟩:=hm1.grow hbel hN;exact hF _ _ v w' _ ov hr' (vX.trans e3) (fun _ _ h=>h) m3 (.up hres)
  ·rw[if_neg hL]at hr';obtain⟨e3,m3⟩:=hm.grow hbel (N:=fun _=>False) (fun b h=>h.elim);exact hF _ _ v w' _ ov hr' e3 (fun _ _ h=>h) m3 (.up (Fj (by simpa using hL) hres))
 ·simp only[]at hr;obtain⟨_,hR⟩:=hr;have hne:cs.length/sz=n:=by rw[←hra.1,hown.1,Nat.mul_div_cancel _ hsz2]
  rw[hne]at hR;have hown0:w'.ownsRow w0.heap.size e2 sz v n xs:=⟨hown.1,hown.2.imp (fun h=>h) fun⟨g,cap,cur,e1,hb1,r⟩=>⟨g,cap,cur,e1,Nat.le_trans hm.bel.size hb1,r⟩⟩;have hnew:∀b,blk v=some b→w.heap.size≤b:=fun b hb=>(hown.lt b (J6 hown hb)).1
  by_cases hL:(V.o e2 sz cs).iI=true
  ·rw[if_pos hL]at hR;obtain⟨e3,m3⟩:=hm1.grow hbel hN;have hor:=dU.row hown0 hsz2 hra hcl hnm (fun b hb h=>h.elim (fun h=>by have:=hm1.uk b h;have:=hnew b hb;omega) (hnN b hb)) (O:=Ow w0 H0) (fun b hb=> .inl (Nat.le_trans hm.bel.size (hnew b hb)));obtain⟨e4,m4⟩:=m3.ins hid hor (fun j oj vj b hoj p_ hbv hbj=>by
    obtain⟨u,hu,hur⟩:=hm1.obj j oj hoj;rw[p_]at hu;cases hu;have:=(hur.lt hbj).2;have:=hnew b hbv;omega)
   rw[jK]at m4;exact hF _ _ v w' _ _ hR ((vX.trans e3).trans e4) gp m4 (lG hown0 hnm (dB _ _))
  ·rw[if_neg hL]at hR;obtain⟨e3,m3⟩:=hm.grow hbel (N:=fun _=>False) (fun b h=>h.elim);have aac:aj w' (fun b=>H b∨False) xs cs:=oZ (Bool.eq_false_iff.2 hL) hra;have hor:=dU.row hown0 hsz2 aac hcl hnm (fun b hb h=>h.elim (fun h=>by have:=hm.uk b h;have:=hnew b hb;omega) (fun h=>h)) (O:=Ow w0 H0) (fun b hb=> .inl (Nat.le_trans hm.bel.size (hnew b hb)));obtain⟨e4,m4⟩:=m3.ins hid hor (fun j oj vj b hoj p_ hbv hbj=>by
    obtain⟨u,hu,hur⟩:=hm.obj j oj hoj;rw[p_]at hu;cases hu;have:=(hur.lt hbj).2;have:=hnew b hbv;omega)
   exact hF _ _ v w' _ _ hR (e3.trans e4) gp m4 (lG hown0 hnm (dB _ _))
theorem Vj(hJ:J w){c:Call}{f:FuncId}{fn:Func}{qs:List (Nat×X)}(hop:o.op= .call c){p:Operand}(hc:c.callee= .value p)(hp:a.eval p= .func (.func f) #[] #[])(hf:P.funcs[f]? =some fn)(hname:(fn.name== "runtime.NumGoroutine")=false)(hbody:fn.body.isSome=true)
 (hsz:c.args.size=c.argTypes.size) (hq:vT P (c.args.toList.zip c.argTypes.toList)=some qs)
 (h:ev (ah P J) (iJ P) ρ ob id R (.call f qs)):o.wp P a w K Q:=by
 simp only[ev]at h
 obtain⟨h0,nn,r,hfun,hr⟩:=h
 exact Vg hm hρ hF hid hob hJ (cap:=[]) (Vh:=[]) hop hc hp ⟨rfl,fun j v x h=>by simp at h⟩ hf hname hbody hsz hq ⟨h0,nn,r,by rw[List.append_nil];exact hfun,hr⟩
theorem s_call(hJ:J w){c:Call}{f:FuncId}{fn:Func}{qs:List (Nat×X)}(hop:o.op= .call c)(hc:c.callee= .value (.func f))(hf:P.funcs[f]? =some fn)(hname:(fn.name== "runtime.NumGoroutine")=false)(hbody:fn.body.isSome=true)
 (hsz:c.args.size=c.argTypes.size) (hq:vT P (c.args.toList.zip c.argTypes.toList)=some qs)
 (h:ev (ah P J) (iJ P) ρ ob id R (.call f qs)):o.wp P a w K Q:=Vj hm hρ hF hid hob hJ hop hc rfl hf hname hbody hsz hq h
omit hid hob in
theorem Vk(hJ:J w){c:Call}{f:FuncId}{m:Nat}{fn:Func}{qs:List (Nat×X)}(hop:o.op= .call c)(hc:c.callee= .value (.func f))(hf:P.funcs[f]? =some fn)(hname:(fn.name== "runtime.NumGoroutine")=false)(hbody:fn.body.isSome=true)
 (hsz:c.args.size=c.argTypes.size) (hq:vT P (c.args.toList.zip c.argTypes.toList)=some qs)
 (h:ev (ah P J) (iJ P) ρ ob id R (.oU f m qs)):o.wp P a w K Q:=by
 simp only[ev]at h
 obtain⟨hl,yR⟩:=uQ hq
 have hl2:c.args.toList.length=qs.length:=by
  rw[←hl,List.length_zip];simp[hsz]
 have arg:∀(j:Nat) (p:Operand) (q:Nat×X),c.args.toList[j]? =some p→qs[j]? =some q→cX p=some q.2∧0<q.1:=fun j p q hp hq'=>by
  have hj:j<c.argTypes.toList.length:=by
   have:=(List.getElem?_eq_some_iff.1 hp).1;simp at this ⊢;omega
  exact yR j (p,c.argTypes.toList[j]) q (List.getElem?_zip_eq_some.2 ⟨hp,List.getElem?_eq_getElem hj⟩) hq'
 cases hx:(qs[m]?).map (fun p=>ρ p.2)with
 |none=>rw[hx]at h;exact h.elim
 |some v0=>
  rw[hx]at h;cases v0<;>simp only[]at h<;>(try exact h.elim);rename_i z i n0;cases hoj:ob i with
  |none=>rw[hoj]at h;exact h.elim
  |some oo=>
   rw[hoj]at h;obtain⟨⟨hok,hargs,hmu,zW,hapart⟩,r,cs',hfun,hrl,hR⟩:=h;obtain⟨qm,hqm,hqv⟩:=Option.map_eq_some_iff.1 hx;have L6:m<qs.length:=(List.getElem?_eq_some_iff.1 hqm).1;have hmlt2:m<c.args.toList.length:=om;obtain⟨pm,hpm⟩:∃p,c.args.toList[m]? =some p:=⟨_,List.getElem?_eq_getElem hmlt2⟩;have hvm:=hρ _ _ (arg m pm qm hpm hqm).1;rw[hqv]at hvm;obtain⟨ba,cap,ev0,hov,hml,hcp,ha⟩:=hvm.fD;obtain⟨H1,vX,hm1,hfr,Vl⟩:=hm.freeze (gY (ob:=ob) (qs.eraseIdx m) (fun p=>ρ p.2));obtain⟨vi,xe,hor⟩:=hm.obj i oo hoj;rw[hov]at xe;cases xe;have hkeys:∀k x,(k,x)∈((qs.eraseIdx m).flatMap fun p=>eF ob (ρ p.2))→k≠i:=fun k x hk e=>by
    obtain⟨p,hp,hk2⟩:=List.mem_flatMap.1 hk;have h1:=List.all_eq_true.1 (List.all_eq_true.1 hapart p hp) _ hk2;simp[e]at h1
   have LY:∀b,blk (a.eval pm)=some b→¬H1 b:=fun b hb h1=>by
    rcases Vl b h1 with h2|⟨k,x,u,h2,h3,h4⟩
    ·have:=(hor.fz b hb).1 h2;rw[hmu]at this;cases this
    ·obtain⟨ok,hok',_⟩:=gY (ob:=ob) (qs.eraseIdx m) (fun p=>ρ p.2) _ _ h2;exact hm.sep i k oo ok _ u b (fun e=>hkeys k x h2 e.symm) hoj hok' hov h3 hb h4
   rcases hor.bd with ⟨h',_⟩|⟨_,hsz0,n',xs,hown,hra,hnm⟩
   ·rw[zW]at h';cases h'
   ·have hfun':MFun P J f ((qs.map fun p=>rd ob p.1 (ρ p.2)).set m (.o oo.e oo.sz oo.cs)) r cs':=by cases r<;>first|exact hfun|(simp[V.iI]at hrl)
    obtain⟨m',e',sz',cs0,hm',hrun⟩:=hfun';have hmm:m'=m∧e'=oo.e∧sz'=oo.sz∧cs0=oo.cs:=by
     rw[List.getElem?_set]at hm';split at hm'
     ·rename_i e1;split at hm'
      ·cases hm';exact⟨e1.symm,rfl,rfl,rfl⟩
      ·cases hm'
     ·exfalso;rw[List.getElem?_map,Option.map_eq_some_iff]at hm';obtain⟨q,hq',hq2⟩:=hm';have:=List.all_eq_true.1 hargs q (List.mem_of_getElem? hq');rw[hq2]at this;cases this
    obtain⟨rfl,rfl,rfl,rfl⟩:=hmm;have DI:=hrun w H1 (c.args.toList.map a.eval) (a.eval pm) n' xs hJ hm1.tj (fun b hb=>hm1.uk b hb) (by simp[hl2]) (by rw[List.getElem?_map,hpm];rfl) (fun j u x hj h1 h2=>by
     rw[List.getElem?_map,Option.map_eq_some_iff]at h1;obtain⟨p,hp,rfl⟩:=h1;rw[List.getElem?_set_ne (fun e=>hj e.symm),List.getElem?_map,Option.map_eq_some_iff]at h2;obtain⟨q,hq',rfl⟩:=h2;obtain⟨hx1,hpos⟩:=arg j p q hp hq';have hmem:q∈qs:=List.mem_of_getElem? hq';refine oG hm hpos (hρ _ _ hx1) (vV hok _ (List.mem_map.2 ⟨q,hmem,rfl⟩)) (.inl (List.all_eq_true.1 hargs q hmem)) vX.hH (fun k y u b h1 h2 h3=>hfr k y u b (List.mem_flatMap.2 ⟨q,?_,h1⟩) h2 h3);exact List.mem_eraseIdx_iff_getElem?.2 ⟨j,hj,hq'⟩) hsz0 hown (hra.mono vX.hH (fun _ _=>rfl)) (hor.cl (nY zW)) hnm LY
    unfold Oper.wp;have hrunE:(execOp a.eval o).run P w= .ok (.enter f (c.args.map a.eval)) w:=by
     have hn:fn.name≠ "runtime.NumGoroutine" :=by simpa using hname
     have hb:¬(fn.body=none):=by intro e;rw[e]at hbody;cases hbody
     simp[execOp,hop,resolve,hc,Act.eval,Deferred.ofValue,invoke,callFunc,hf,hn,hb]
    rw[hrunE,Oper.upon_enter];have qo:(c.args.toList.map a.eval).toArray=c.args.map a.eval:=by
     apply Array.ext';simp
    rw[qo]at DI;refine DI.mono ?_;rintro ex w' ⟨rv,rfl,hbel,hrr,_,hcl',xs',Nw,hown',hNw,DF⟩;show K (a.put o.dst rv) w';have hO:∀b,blk (a.eval pm)=some b→Ow w0 H0 b:=hor.ow;have hoi:upd ob ((qs.eraseIdx m').flatMap fun p=>eF ob (ρ p.2)) i=some oo:=by
     rcases jD (ob:=ob) ((qs.eraseIdx m').flatMap fun p=>eF ob (ρ p.2)) i with ⟨e1,_⟩|h'
     ·rw[e1];exact hoj
     ·exact absurd rfl (hkeys _ _ h')
    have hblt:∀b,blk (a.eval pm)=some b→b<w.heap.size:=fun b hb=>(hor.lt hb).2
    obtain⟨zY,hm2⟩:=hm1.step (row:=blk (a.eval pm)) (w':=w') (ob':=upd ob ((i,none)::(qs.eraseIdx m').flatMap fun p=>eF ob (ρ p.2))) (bJ:=ov) (hm1.bel.via hbel hO) hbel.size
     (fun k hk hne=>hbel.block k hk (fun e=>hne e.symm)) (fun b hb e=>LY b e.symm hb) (fun _ _ h=>h) (fun q oq hq=>by
       by_cases eq:i=q
       ·subst eq;simp only[upd,if_true]at hq;cases hq
       ·left;simp only[upd,if_neg eq]at hq;exact⟨hq,fun u b h1 h2 e=>hm1.sep i q oo oq _ u b eq hoi hq hov h1 e.symm h2⟩)
    have hoth:∀q oq,i≠q→upd ob ((i,none)::(qs.eraseIdx m').flatMap fun p=>eF ob (ρ p.2)) q=some oq→upd ob ((qs.eraseIdx m').flatMap fun p=>eF ob (ρ p.2)) q=some oq:=fun q oq hq h=>by
     simpa only[upd,if_neg hq]using h
    have hno:∀q oq,upd ob ((i,none)::(qs.eraseIdx m').flatMap fun p=>eF ob (ρ p.2)) q=some oq→i≠q:=fun q oq h e=>by
     subst e;simp only[upd,if_true]at h;cases h
    obtain⟨hext3,Yw⟩:=hm2.more (N:=Nw) (fun b hb=>⟨(hNw b hb).2,Nat.le_trans hm.bel.size (hNw b hb).1⟩) (fun q oq u b hq hu hb hN=>by
     have hq':=hoth q oq (hno q oq hq) hq;obtain⟨u',hu',hur⟩:=hm1.obj q oq hq';rw[hu]at hu';cases hu';have:=(hur.lt hb).2;have:=(hNw b hN).1;omega)
    obtain⟨hext4,hm4⟩:=Yw.step (row:=none) (w':=w') (ob':=upd ob ((i,some {oo with cs:=cs'})::(qs.eraseIdx m').flatMap fun p=>eF ob (ρ p.2))) (bJ:=ov) Yw.bel (Nat.le_refl _) (fun _ _ _=>rfl) (fun _ _=>sy) (fun _ _ h=>h) (fun q oq hq=>by
     by_cases eq:i=q
     ·right;subst eq;simp only[upd,if_true,Option.some.injEq]at hq;subst hq;refine⟨a.eval pm,hov,?_,fun l ol vl b hl hol hvl hbv hbl=>?_⟩
      ·have:=dU.row (O:=Ow w0 H0) hown' hsz0 DF hcl' hnm (fun b hb h=>h.elim (LY b hb) (fun h=>by have:=hblt b hb;have:=(hNw b h).1;omega)) hO;have e4:({oo with cs:=cs'}:Ob)={e:=oo.e,sz:=oo.sz,cs:=cs',mu:=true,jl:=false}:=by cases oo;simp_all
       rw[e4];exact this _
      ·simp only[upd,if_neg (fun e=>hl e.symm:¬i=l)]at hol;obtain⟨u,hu,_⟩:=hm1.obj l ol hol;rw[hvl]at hu;cases hu;exact hm1.sep i l oo ol _ _ b (fun e=>hl e.symm) hoi hol hov hvl hbv hbl
     ·left;simp only[upd,if_neg eq]at hq;exact⟨by simpa only[upd,if_neg eq]using hq,fun _ _ _ _=>sy⟩)
    exact hF _ _ rv w' _ ov hR (((vX.trans zY).trans hext3).trans hext4) (fun _ _ h=>h) hm4 (.up (Fj hrl hrr))
omit hid hob in
theorem Vm{c:Call}{f:FuncId}{qs:List X}(hop:o.op= .call c)(hc:c.callee= .value (.func f))(hq:cXs c.args.toList=some qs)
 (h:ev (ah P J) (iJ P) ρ ob id R (.rV f qs)):o.wp P a w K Q:=by
 simp only[ev]at h
 obtain⟨r,hfun,hr⟩:=h
 obtain⟨hl,yR⟩:=Fq hq
 obtain⟨v,hrun,hrep⟩:=hfun w H ov (c.args.toList.map a.eval) (by simpa using hl) (fun j v x h1 h2=>by
  simp only[List.getElem?_map,Option.map_eq_some_iff]at h1 h2;obtain⟨p,hp,rfl⟩:=h1;obtain⟨q,hq',rfl⟩:=h2;exact hρ _ _ (yR j p q hp hq'))
 have qo:(c.args.toList.map a.eval).toArray=c.args.map a.eval:=by
  apply Array.ext';simp
 rw[qo]at hrun
 refine fin_same hm hF (cv:=v) ?_ hrep hr
 simp[execOp,hop,resolve,hc,Act.eval,Deferred.ofValue,invoke,hrun]
omit hm hρ hF hid hob in
theorem h_{α:Type}{xs:Array α}{l:List α}(h:xs.toList=l):xs=l.toArray:=by subst h;simp
omit hm hρ hF hid hob in
theorem o9{t e:TypeId}(h:E5 P t=some e):P.underlying t=some (.slice e):=by
 unfold E5 at h;split at h
 ·cases h;assumption
 ·cases h
omit hid hob in
theorem s_cpy{t t' e:TypeId}{d x:Operand}{d' x':X}{ti:TypeInfo}(hop:o.op= .call {callee:= .builtin .copy,args:=#[d,x],argTypes:=#[t,t']})(ht:P.underlying t=some (.slice e))(hi:P.info? e=some ti)(hpos:0<ti.size)(hd:cX d=some d')(hx:cX x=some x')
 (h:ev (fun _ _ _=>False) (fun _ _ _=>False) ρ ob id R (.J3 ti.size d' x')):o.wp P a w K Q:=by
 have h1:=hρ d d' hd
 have h2:=hρ x x' hx
 have h1':Rep w H ov (a.eval d) (vP (ρ d')):=by
  cases hv:ρ d'<;>rw[hv]at h1<;>first|exact xH h1|exact h1
 simp only[ev]at h
 have Fp:∀v' w',(Builtin.copy_ #[t,t'] o.type #[a.eval d,a.eval x]).run P w= .ok v' w'→(execOp a.eval o).run P w= .ok (.value v') w':=fun v' w' hr=>by
  simp[execOp,hop,resolve,invoke,builtin,hr]
 cases hv:vP (ρ d')<;>rw[hv]at h h1'<;>(try simp only[]at h)
 case sl s1 j off m=>
  cases hu:rd ob ti.size (ρ x')<;>rw[hu]at h<;>(try simp only[]at h);case l s2 xs=>
   cases hoj:ob j with
   |none=>rw[hoj]at h;exact h.elim
   |some oo=>
    rw[hoj]at h;obtain⟨⟨hok,rfl,rfl,hmu,hfit,hcl⟩,hR⟩:=h;obtain⟨da,dcap,u,e0,hml,hcp,hou,ha⟩:=h1'.ku;obtain⟨ba,k,c,us,e1,hs2,hlen,hcells,hra⟩:=z_ hm hpos h2 hok hu;rw[hlen,Nat.mul_div_cancel _ hs2]at hR;have hys:xs.take (m*ti.size)=xs.take (min k m*ti.size):=by
     rcases Nat.le_total k m with Vo|Vo
     ·rw[Nat.min_eq_left Vo,List.take_of_length_le (by rw[hlen];exact Nat.mul_le_mul_right _ Vo),List.take_of_length_le (by rw[hlen];exact Nat.le_refl _)]
     ·rw[Nat.min_eq_right Vo]
    have hral:aj w H (us.take (min k m*ti.size)) (xs.take (m*ti.size)):=by
     rw[hys];simpa using hra.drop_take 0 (min k m*ti.size)
    have husl:(us.take (min k m*ti.size)).length=min k m*ti.size:=by
     rw[List.length_take,hra.1,hlen,Nat.min_eq_left (Nat.mul_le_mul_right _ (Nat.min_le_left _ _))]
    have hload:(Builtin.firstCells ti.size (min k m) (.slice ba k c)).run P w= .ok (us.take (min k m*ti.size)).toArray w:=by
     cases ba with
     |none=>
      have hus:us=[]:=by
       rcases hcells with h|⟨a0,h,_⟩
       ·exact h
       ·cases h
      subst hus;simp[Builtin.firstCells]
     |some a0=>
      have hc':∀j v,(us.take (min k m*ti.size))[j]? =some v→w.cell? (a0.add j)=some v:=by
       intro j v hj;rcases hcells with h|⟨a1,h,hh⟩
       ·subst h;simp at hj
       ·cases h;rw[List.getElem?_take]at hj;split at hj
        ·exact hh j v hj
        ·cases hj
      have:=run_loadCells_list (P:=P) w a0 _ hc';rw[husl]at this;exact this
    have hqe:Nat.min k m=min k m:=rfl;generalize min k m=q at*
    by_cases hz:q=0
    ·subst hz;have hxnil:xs.take (m*ti.size)=[]:=by rw[hys,Nat.zero_mul];rfl
     rw[Nat.zero_mul,List.take_zero]at hload;have hrun:(Builtin.copy_ #[t,t'] o.type #[a.eval d,a.eval x]).run P w= .ok (goInt 0) w:=by
      rw[e0,e1];cases da<;>simp[Builtin.copy_,run_underlying ht,Builtin.lenOf,sizeOf,typeInfo,hi,hqe,hload,storeCells]
     unfold Oper.wp;rw[Fp _ _ hrun];refine hF _ _ _ w H ov hR (Ext.refl _ _ _) (fun _ _ h=>h) ?_ (.i _ _);have:upd ob [(j,some {oo with cs:=setAt oo.cs off (xs.take (m*ti.size))})]=ob:=by
      funext i;rw[hxnil];simp only[upd,setAt];split
      ·rename_i e;subst e;exact hoj.symm
      ·rfl
     rw[this];exact hm
    ·rcases ha with h0|⟨b,hb,rfl⟩
     ·exact absurd (by rw[←hqe,h0];exact Nat.min_eq_right (Nat.zero_le _)) hz
     ·obtain⟨w',hst,ik,hm2⟩:=hm.store (P:=P) hoj hmu hou hb hral.cs (fun x hx=> .inl (dV hcl _ (List.mem_of_mem_take hx))) (Nat.le_trans (Nat.add_le_add_left (by rw[List.length_take];exact Nat.min_le_left _ _) _) hfit);have hrun:(Builtin.copy_ #[t,t'] o.type #[a.eval d,a.eval x]).run P w= .ok (goInt q) w':=by
       rw[e0,e1];simp[Builtin.copy_,run_underlying ht,Builtin.lenOf,sizeOf,typeInfo,hi,hqe,hload,hst]
      unfold Oper.wp;rw[Fp _ _ hrun];exact hF _ _ _ w' H ov hR ik (fun _ _ h=>h) hm2 (.i _ _)
theorem Vp(hJ:J w){c:Call}{ao:a_}(hop:o.op= .call c)(hc:O0 P c=some ao)(h:ev (ah P J) (iJ P) ρ ob id R ao):o.wp P a w K Q:=by
 unfold O0 at hc;split at hc
 ·rename_i um;split at hc
  ·rename_i x t hx ht;have e:c={callee:= .builtin .len,args:=#[x],argTypes:=#[t]}:=by
    obtain⟨c1,c2,c3⟩:=c;simp only at hx ht um;rw[h_ hx,h_ ht,um]
   split at hc
   ·rename_i el x' hu hx';cases hc;have h1:=hρ x x' hx';simp only[ev]at h;cases hv:ρ x'<;>rw[hv]at h h1<;>(try simp only[]at h);case l s cs=>
     obtain⟨ba,n,cap,f,b,q,e1,hsz,hn,_⟩:=h1.nZ;rw[hn,Nat.mul_div_cancel _ hsz]at h;exact zg hm hF (e▸hop) hu hx' e1 h
    case ow s j n=>
     obtain⟨ba,cap,e1,_⟩:=h1.fD;exact zg hm hF (e▸hop) hu hx' e1 h
    case sl s j off n=>
     obtain⟨ba,cap,u,e1,_⟩:=h1.ku;exact zg hm hF (e▸hop) hu hx' e1 h
    case nl=>exact zg hm hF (e▸hop) hu hx' h1.jJ h
   ·cases hc
  ·cases hc
 ·rename_i um;split at hc
  ·rename_i s x t t' hx ht;split at hc
   ·rename_i e0;subst e0;have e:c={callee:= .builtin .append,args:=#[s,x],argTypes:=#[t,t]}:=by
     obtain⟨c1,c2,c3⟩:=c;simp only at hx ht um;rw[h_ hx,h_ ht,um]
    split at hc
    ·rename_i el s' x' hel hs' hx';split at hc
     ·rename_i sz BB z hty;cases hc;have h':ev (fun _ _ _=>False) (fun _ _ _=>False) ρ ob id R (.app el sz BB s' x'):=by simpa only[ev]using h
      exact s_app hm hρ hF hid hob (e▸hop) (o9 hel) hty hs' hx' h'
     ·cases hc
    ·cases hc
   ·cases hc
  ·cases hc
 ·rename_i um;split at hc
  ·rename_i x y hx;split at hc
   ·rename_i x' y' hx' hy';cases hc;have h':ev (fun _ _ _=>False) (fun _ _ _=>False) ρ ob id R (.mm true x' y'):=by simpa only[ev]using h
    exact s_mm (mx:=true) hm hρ hF hop (by simpa using um) (h_ hx) hx' hy' h'
   ·cases hc
  ·cases hc
 ·rename_i um;split at hc
  ·rename_i x y hx;split at hc
   ·rename_i x' y' hx' hy';cases hc;have h':ev (fun _ _ _=>False) (fun _ _ _=>False) ρ ob id R (.mm false x' y'):=by simpa only[ev]using h
    exact s_mm (mx:=false) hm hρ hF hop (by simpa using um) (h_ hx) hx' hy' h'
   ·cases hc
  ·cases hc
 ·rename_i um;split at hc
  ·rename_i x y t t' hx ht;have e:c={callee:= .builtin .copy,args:=#[x,y],argTypes:=#[t,t']}:=by
    obtain⟨c1,c2,c3⟩:=c;simp only at hx ht um;rw[h_ hx,h_ ht,um]
   split at hc
   ·rename_i el x' y' hel hx' hy';split at hc
    ·rename_i ti hti;split at hc
     ·rename_i hpos;cases hc;have h':ev (fun _ _ _=>False) (fun _ _ _=>False) ρ ob id R (.J3 ti.size x' y'):=by simpa only[ev]using h
      exact s_cpy hm hρ hF (e▸hop) (o9 hel) hti hpos hx' hy' h'
     ·cases hc
    ·cases hc
   ·cases hc
  ·cases hc
 ·rename_i f um;split at hc
  ·rename_i fn hf;split at hc
   ·cases hc
   ·rename_i hname;split at hc
    ·rename_i hbody;split at hc
     ·rename_i hsz;split at hc
      ·rename_i xs hxs;split at hc
       ·cases hc;exact Vk hm hρ hF hJ hop um hf (by simpa using hname) hbody hsz hxs h
       ·cases hc;exact s_call hm hρ hF hid hob hJ hop um hf (by simpa using hname) hbody hsz hxs h
      ·cases hc
     ·cases hc
    ·split at hc
     ·rename_i xs hxs;cases hc;exact Vm hm hρ hF hop um hxs h
     ·cases hc
  ·cases hc
 ·cases hc
theorem Pg(hJ:J w){ao:a_}(hc:cOp P o.op=some ao)(h:ev (ah P J) (iJ P) ρ ob id R ao):o.wp P a w K Q:=by
 generalize hop:o.op=op at hc;have F:∀ao:a_,(∀f xs,ao≠ .call f xs)→((∀f xs,ao≠ .rV f xs)∧(∀f m xs,ao≠ .oU f m xs))→ev (ah P J) (iJ P) ρ ob id R ao→ev (fun _ _ _=>False) (fun _ _ _=>False) ρ ob id R ao:=fun ao h1 h2 h=>by
  cases ao<;>first|exact h|exact absurd rfl (h1 _ _)|exact absurd rfl (h2.1 _ _)|exact absurd rfl (h2.2 _ _ _)
 cases op<;>simp only[cOp]at hc;case move x=>
  obtain⟨y,hy,rfl⟩:=Option.map_eq_some_iff.1 hc;exact s_mv hm hρ hF (.inl hop) hy (by simpa only[ev]using h)
 case assign x=>
  obtain⟨y,hy,rfl⟩:=Option.map_eq_some_iff.1 hc;exact s_mv hm hρ hF (.inr hop) hy (by simpa only[ev]using h)
 case pick c x y=>
  split at hc
  ·rename_i h1 h2 h3;cases hc;exact ZY hm hρ hF hop h1 h2 h3 (by simpa only[ev]using h)
  ·cases hc
 case binOp bop t x y t'=>
  split at hc
  ·rename_i h1 h2 h3;cases hc;exact Yq hm hρ hF hop h1 h2 (F _ sy sy h)
  ·rename_i h1 h2 h3;cases hc;exact Yq hm hρ hF hop h1 h2 (F _ sy sy h)
  ·rename_i h1 h2 h3;split at hc
   ·cases hc;exact Yr hm hρ hF hop sy h3 h1 h2 (F _ sy sy h)
   ·cases hc;exact Yr hm hρ hF hop sy h3 h1 h2 (F _ sy sy h)
   ·cases hc
  ·rename_i h1 h2 h3;split at hc
   ·cases hc;exact Yt hm hρ hF hop sy h3 h1 h2 (F _ sy sy h)
   ·cases hc;exact Yt hm hρ hF hop sy h3 h1 h2 (F _ sy sy h)
   ·cases hc
  ·cases hc
 case unOp uop t x=>
  obtain⟨y,hy,rfl⟩:=Option.map_eq_some_iff.1 hc;exact s_un hm hρ hF hop hy (F _ sy sy h)
 case convert s d x=>
  split at hc
  ·rename_i h1 h2 h3;cases hc;exact s_cvt hm hρ hF hop h1 h2 h3 (F _ sy sy h)
  ·cases hc
 case index t x i=>
  split at hc
  ·rename_i h1 h2 h3;cases hc;exact s_six hm hρ hF hop h1 h2 h3 (F _ sy sy h)
  ·cases hc
 case indexAddr t x i=>
  split at hc
  ·rename_i h1 h2 h3;split at hc
   ·rename_i ti hti;split at hc
    ·cases hc;exact s_idx hm hρ hF hop (o9 h1) hti h2 h3 (F _ sy sy h)
    ·cases hc
   ·cases hc
  ·cases hc
 case load t p=>
  split at hc
  ·rename_i h1 h2 h3;cases hc;exact s_ld hm hρ hF hop h1 h2 h3 (F _ sy sy h)
  ·cases hc
 case store t p x=>
  split at hc
  ·rename_i h1 h2 h3;split at hc
   ·rename_i h4;cases hc;simp only[Bool.and_eq_true,beq_iff_eq]at h4;exact s_stk hm hρ hF hop h1 h2 h3 h4.2 (F _ sy sy h)
   ·cases hc;exact s_st hm hρ hF hop h1 h2 h3 (F _ sy sy h)
  ·cases hc
 case fieldAddr t p f=>
  split at hc
  ·rename_i h1 h2;split at hc
   ·rename_i h3;split at hc
    ·rename_i h4;split at hc
     ·rename_i h5;cases hc;exact s_fad hm hρ hF hop h1 h3 h4 h5 h2 (F _ sy sy h)
     ·cases hc
    ·cases hc
   ·cases hc
  ·cases hc
 case build t ps=>
  split at hc
  ·rename_i h1 h2;split at hc
   ·rename_i h3;split at hc
    ·rename_i h4;cases hc;exact s_bld hm hρ hF hop h1 h2 h3 h4 (F _ sy sy h)
    ·cases hc
   ·cases hc
  ·cases hc
 case buildSlice t n ps=>
  split at hc
  ·rename_i h1;split at hc
   ·rename_i h2 h3;split at hc
    ·rename_i h4;cases hc;exact s_bsl hm hρ hF hid hob hop (o9 h1) h2 h3 h4 (F _ sy sy h)
    ·cases hc
   ·cases hc
  ·cases hc
 case makeSlice t l c=>
  split at hc
  ·rename_i h1 h2 h3;split at hc
   ·rename_i h4;cases hc;exact s_mk hm hρ hF hid hob hop (o9 h1) h4 h2 h3 (F _ sy sy h)
   ·cases hc
  ·cases hc
 case slice t x lo hi mx=>
  cases mx with
  |some m=>cases hc
  |none=>
   simp only[]at hc;split at hc
   ·rename_i h1 h2 h3 h4;split at hc
    ·rename_i h5;split at hc
     ·cases hc;exact s_sub hm hρ hF hop h1 h5 h2 h3 h4 (F _ sy sy h)
     ·cases hc
    ·cases hc
   ·cases hc
 case alloc t=>
  split at hc
  ·rename_i h1;cases hc;exact s_al hm hF hid hob hop h1 (F _ sy sy h)
  ·cases hc
 case extract x i=>
  obtain⟨y,hy,rfl⟩:=Option.map_eq_some_iff.1 hc;exact s_ext hm hρ hF hop hy (F _ sy sy h)
 case box e x=>
  obtain⟨y,hy,rfl⟩:=Option.map_eq_some_iff.1 hc;exact s_bx hm hρ hF hid hob hop hy (F _ sy sy h)
 case nilCheck x=>
  obtain⟨y,hy,rfl⟩:=Option.map_eq_some_iff.1 hc;exact s_nc hm hρ hF hop hy (F _ sy sy h)
 case call c=>exact Vp hm hρ hF hid hob hJ hop hc h
 all_goals cases hc
theorem Cb(hJ:J w){ao:a_}(hc:O3 P o.op=some ao)(h:ev (ah P J) (iJ P) ρ ob id R ao):o.wp P a w K Q:=by
 unfold O3 at hc;cases e:cOp P o.op with
 |none=>rw[e]at hc;cases hc;exact h.elim
 |some b=>rw[e]at hc;cases hc;exact Pg hm hρ hF hid hob hJ e h
end ops
end Go.Proofs.YtcgfgifjkkmmcaaGreatDoor.Ab
namespace Go.Proofs.YtcgfgifjkkmmcaaGreatDoor.Ab
open Go Go.RowKit
structure AO where
 dst:Option Nat
 gd:Option (Nat×Bool)
 op:a_
 deriving Inhabited
def St.qZ(s:St)(d:Option Nat)(v:V)(up:List (Nat×Option Ob)):St:=
 {env:=match d with|some d=>(d,v)::s.env|none=>s.env,lZ:=up++s.lZ,nx:=s.nx+1}
theorem aG(k:Nat)(v:V)(r:List (Nat×V))(t:Nat):lk ((k,v)::r) t=if k=t then v else lk r t:=rfl
theorem Ph(up lZ:List (Nat×Option Ob)):lo (up++lZ)=upd (lo lZ) up:=by
 funext i;induction up with
 |nil=>rfl
 |cons p r ih=>obtain⟨k,v⟩:=p;simp only[List.cons_append,lo,upd];split<;>first|rfl|exact ih
def gv(g:Option (Nat×Bool))(s:St)(run skip:Prop):Prop:=
 match g with
 |none=>run
 |some (t,true)=>(match s.get t with| .b x=>cnd (.b x) run skip| .un=>skip|_=>False)
 |some (t,false)=>(match s.get t with| .b x=>cnd (.b x) skip run| .un=>skip|_=>False)
section
variable (F G:Nat→List V→V→Prop)
def Vq:List AO→St→(St→Prop)→Prop
 |[],s,K=>K s
 |o::r,s,K=>gv o.gd s (ev F G s.val s.ob s.nx (fun v up=>Vq r (s.qZ o.dst v up) K) o.op) (Vq r (s.qZ o.dst .un []) K)
end
def cG(ops:Array Oper):Option (Nat×Bool)→Option (Option (Nat×Bool))
 |none=>some none
 |some (j,want)=>match (ops[j]?).bind (·.dst)with
  |some t=>some (some (t,want))
  |none=>none
def Yx(N:Nat):Option Nat→Bool
 |none=>true
 |some d=>decide (d<N)
def UF(P:Program)(N:Nat)(ops:Array Oper):List Oper→Option (List AO)
 |[]=>some []
 |o::r=>match O3 P o.op,cG ops o.guard,UF P N ops r with
  |some p,some g,some l=>if Yx N o.dst then some (⟨o.dst,g,p⟩::l)else none
  |_,_,_=>none
section
variable {P:Program} {J:World→Prop} {w0 w:World} {H0:HS} {H:Nat→Prop} {ov:Nat→Option Value} {N:Nat} {a:Act} {s:St} {ops:Array Oper} {Q:Exit→Act→World→Prop}
theorem Conc.val(hc:Conc w0 H0 w H ov N a s):∀p x,cX p=some x→Rep w H ov (a.eval p) (s.val x):=by
 intro p x h;cases p with
 |tmp t=>simp only[cX,Option.some.injEq]at h;subst h;exact hc.env t
 |const v=>
  simp only[cX,Option.some.injEq]at h;subst h;show Rep w H ov v (cV v);unfold cV;split
  ·exact .nl
  ·rename_i cs;have:=xJ (w:=w) (H:=H) cs.toList;have h2:Rep0 w H (.agg cs.toList.toArray) (.g (cs.toList.map cS)):= .g _ _ this.1 this.2;simpa using Rep.up (ov:=ov) h2
  ·exact .up (H8 v)
 |func f=>simp only[cX,Option.some.injEq]at h;subst h;exact .up (.c _)
 |global g=>
  simp only[cX,Option.some.injEq]at h;subst h;show Rep w H ov (.pointer (some ⟨g,0,none⟩)) (match tabs g with|some cs=>V.ip cs 0|none=> .any);cases ht:tabs g with
  |none=>exact .any _
  |some cs=>exact .up (hc.mem.tj.rep ht)
theorem vY{a:Act}{d t:Nat}{v:Value}(hd:d<a.tmps.size):((a.put (some d) v).tmps.getD t undef)=if d=t then v else a.tmps.getD t undef:=by
 simp only[Act.put,Array.getD_eq_getD_getElem?,Array.getElem?_setIfInBounds];split
 ·rename_i e;subst e;simp[hd]
 ·rfl
def nkp(H0:HS)(d:Option Nat):Prop:=∀m v,(m,v)∈H0.kp→d≠some m
theorem Conc.qZ(hc:Conc w0 H0 w H ov N a s){d:Option Nat}(hd:Yx N d=true)(hnk:nkp H0 d){v:V}{up:List (Nat×Option Ob)}{cv:Value}{w':World}{H':Nat→Prop}{bJ:Nat→Option Value}(he:Ext w H ov w' H' bJ)
 (hn:∀i,i≠s.nx→ov i=none→bJ i=none) (hm:Mem w0 H0 w' H' bJ (upd s.ob up)) (hr:Rep w' H' bJ cv v):Conc w0 H0 w' H' bJ N (a.put d cv) (s.qZ d v up):=by
 refine⟨?_,?_,?_,?_,?_,fun id hid=>hn id (by simp only[St.qZ]at hid;omega) (hc.new id (by simp only[St.qZ]at hid;omega))⟩
 ·have:(s.qZ d v up).ob=upd s.ob up:=by funext i;simp[St.qZ,St.ob,Ph];rfl
  rw[this];exact hm
 ·cases d with
  |none=>exact hc.EZ
  |some d=>simp[Act.put,hc.EZ]
 ·cases d<;>exact hc.BZ
 ·intro m v hm;cases d with
  |none=>exact hc.kp m v hm
  |some d=>
   have hdN:d<a.tmps.size:=by rw[hc.EZ];simpa[Yx]using hd
   rw[vY hdN,if_neg (fun e=>hnk m v hm (by rw[e]))];exact hc.kp m v hm
 ·intro t;cases d with
  |none=>exact(hc.env t).mono he
  |some d=>
   have hdN:d<a.tmps.size:=by rw[hc.EZ];simpa[Yx]using hd
   rw[vY hdN];simp only[St.qZ,St.get,aG];split
   ·exact hr
   ·exact(hc.env t).mono he
theorem Conc.noOb(hc:Conc w0 H0 w H ov N a s):s.ob s.nx=none:=by
 cases h:s.ob s.nx with
 |none=>rfl
 |some o=>
  obtain⟨v,hv,_⟩:=hc.mem.obj _ _ h;rw[hc.new s.nx (Nat.le_refl _)]at hv;cases hv
theorem Pj(hc:Conc w0 H0 w H ov N a s){j t:Nat}(hj:(ops[j]?).bind (·.dst)=some t):(∀x,s.get t= .b x→yielded ops a.tmps j=some x)∧(s.get t= .un→yielded ops a.tmps j=none):=by
 have h:=hc.env t;have e:yielded ops a.tmps j=match (a.tmps[t]? :Option Value)with|some (.bool b)=>some b|_=>none:=by
  unfold yielded;rw[hj];rfl
 constructor
 ·intro x hx;rw[hx]at h;have h1:=h.lK;rw[e];simp only[Array.getD_eq_getD_getElem?]at h1;cases h2:a.tmps[t]? with
  |none=>rw[h2]at h1;simp[undef]at h1
  |some v=>rw[h2]at h1;simp at h1;subst h1;rfl
 ·intro hx;rw[hx]at h;have h1:=h.O4;rw[e];simp only[Array.getD_eq_getD_getElem?]at h1;cases h2:a.tmps[t]? with
  |none=>rfl
  |some v=>rw[h2]at h1;simp at h1;subst h1;rfl
theorem Pm(hc:Conc w0 H0 w H ov N a s){o:Oper}{g:Option (Nat×Bool)}(hg:cG ops o.guard=some g){run skip:Prop}(h:gv g s run skip):
 (Region.wanted o (yielded ops a.tmps)=true∧run)∨(Region.wanted o (yielded ops a.tmps)=false∧skip):=by
 unfold Region.wanted
 cases hgd:o.guard with
 |none=>rw[hgd]at hg;simp only[cG,Option.some.injEq]at hg;subst hg;exact .inl ⟨rfl,h⟩
 |some jw=>
  obtain⟨j,want⟩:=jw;rw[hgd]at hg;simp only[cG]at hg;split at hg
  ·rename_i t ht;simp only[Option.some.injEq]at hg;subst hg;obtain⟨y1,y2⟩:=Pj (ops:=ops) hc ht;simp only[];cases want<;>simp only[gv]at h
   ·cases hx:s.get t<;>rw[hx]at h<;>simp only[]at h;case b x=>
     rw[y1 x hx];cases x
     ·exact .inl ⟨rfl,h.2 rfl⟩
     ·exact .inr ⟨rfl,h.1 rfl⟩
    case un=>rw[y2 hx];exact .inr ⟨rfl,h⟩
   ·cases hx:s.get t<;>rw[hx]at h<;>simp only[]at h;case b x=>
     rw[y1 x hx];cases x
     ·exact .inr ⟨rfl,h.2 rfl⟩
     ·exact .inl ⟨rfl,h.1 rfl⟩
    case un=>rw[y2 hx];exact .inr ⟨rfl,h⟩
  ·cases hg
theorem Ac(hJs:∀w',aI w0 H0.e w'→J w'){K:St→Prop}(hK:∀s' w' H' bJ a',K s'→Conc w0 H0 w' H' bJ N a' s'→Q .normal a' w'):
 ∀(l:List Oper) (al:List AO),UF P N ops l=some al→(∀o,o∈al→nkp H0 o.dst)→∀{w:World} {H:Nat→Prop} {ov:Nat→Option Value} {a:Act} {s:St},Conc w0 H0 w H ov N a s→Vq (ah P J) (iJ P) al s K→wpList P ops Q l a w
 |[],al,h,hk,w,H,ov,a,s,hc,hv=>by
  simp only[UF,Option.some.injEq]at h;subst h;exact hK s w H ov a hv hc
 |o::r,al,h,hk,w,H,ov,a,s,hc,hv=>by
  simp only[UF]at h;split at h
  ·rename_i p g l' hp hg hl;split at h
   ·rename_i hd;cases h;simp only[Vq]at hv;unfold wpList;rcases Pm (ops:=ops) hc hg hv with ⟨hw,hrun⟩|⟨hw,hskip⟩
    ·rw[if_pos hw];refine .inl ?_;refine Cb (J:=J) (w0:=w0) hc.mem hc.val (id:=s.nx) ?_ (hc.new s.nx (Nat.le_refl _)) hc.noOb (hJs w hc.mem.bel) hp hrun;intro v up cv w' H' bJ hR he hn hm hr;exact Ac hJs hK r l' hl (fun q hq=>hk q (List.mem_cons_of_mem _ hq)) (hc.qZ hd (hk _ List.mem_cons_self) he hn hm hr) hR
    ·rw[if_neg (by rw[hw];decide)];refine Ac hJs hK r l' hl (fun q hq=>hk q (List.mem_cons_of_mem _ hq)) (hc.qZ hd (hk _ List.mem_cons_self) (Ext.refl _ _ _) (fun _ _ h=>h) (up:=[]) ?_ ?_) hskip
     ·exact hc.mem
     ·exact .un
   ·cases h
  ·cases h
end
end Go.Proofs.YtcgfgifjkkmmcaaGreatDoor.Ab
namespace Go.Proofs.YtcgfgifjkkmmcaaGreatDoor.Ab
open Go Go.RowKit
def a_.xs:a_→List X
 | .mv x| .un _ x| .Ou _ x| .ld _ _ x| .zT _ x| .len x| .ext x _| .nc x| .JZ _ x| .bx _ x=>[x]
 | .pick c a b=>[c,a,b]
 | .bin _ x y| .OZ _ x y| .six x y| .idx _ x y| .st _ x y| .stk x y| .mk _ _ _ _ x y| .app _ _ _ x y| .mm _ x y| .J3 _ x y=>[x,y]
 | .Ov _ ps=>ps.map (·.2.2)
 | .Dz _ _ _ _ ps=>ps.map (·.2)
 | .sub _ x lo hi=>x::(lo.toList++hi.toList)
 | .al _ _| .bad=>[]
 | .call _ args| .oU _ _ args=>args.map (·.2)
 | .rV _ args=>args
def a_.J8:a_→Bool
 | .ld .. | .st .. | .stk .. | .Ov .. | .Dz .. | .mk .. | .app .. | .al .. | .call .. | .JZ .. | .bx .. | .J3 .. | .oU .. | .bad=>true
 |_=>false
def a_.det:a_→Bool
 | .JZ .. =>false
 |_=>true
def a_.mut:a_→Bool
 | .st .. | .stk .. | .app .. | .J3 .. | .oU .. | .Ov .. =>true
 | .call f _=>bZ f
 | .Dz e _ _ _ _=>bZ (1000000+e)
 |_=>false
def V.ref:V→Option Nat
 | .ow _ j _| .sl _ j _ _| .pt j _| .tw _ j _ _=>some j
 |_=>none
section congr
variable {ρ ρ':X→V} {ob ob':Nat→Option Ob}
theorem iq{v:V}(h:∀j,v.ref=some j→ob j=ob' j)(sz:Nat):rd ob sz v=rd ob' sz v:=by
 cases v<;>simp only[rd]<;>(rw[h _ rfl])
theorem L8{v:V}(h:∀j,v.ref=some j→ob j=ob' j)(n:Bool)(sz:Nat):Ox n ob sz v=Ox n ob' sz v:=by
 unfold Ox;split
 ·rfl
 ·exact iq h sz
theorem Vr{v:V}{Q:Nat→Prop}(h:∀j,v.ref=some j→Q j):∀j,(yQ v).ref=some j→Q j:=by
 rcases ZV v with e|⟨s,cs,e⟩
 ·rw[e];exact h
 ·rw[e];intro j hj;cases hj
theorem Fz{v:V}{s j off n:Nat}(h:vP v= .sl s j off n):v.ref=some j:=by
 cases v<;>simp only[vP]at h<;>cases h<;>rfl
theorem o_{v:V}(h:∀j,v.ref=some j→ob j=ob' j):okR ob v=okR ob' v:=by
 cases v<;>simp only[okR]<;>(rw[h _ rfl])
theorem kC{v:V}(h:∀j,v.ref=some j→ob j=ob' j):eF ob v=eF ob' v:=by
 cases v<;>simp only[eF]<;>(rw[h _ rfl])
theorem m_:∀{vs:List V},(∀v,v∈vs→∀j,v.ref=some j→ob j=ob' j)→jZ ob vs=jZ ob' vs
 |[],_=>rfl
 |v::r,h=>by simp only[jZ];rw[o_ (h v List.mem_cons_self),m_ fun u hu=>h u (List.mem_cons_of_mem _ hu)]
theorem all_congr{α:Type}{l:List α}{p q:α→Bool}(h:∀x,x∈l→p x=q x):l.all p=l.all q:=by
 induction l with
 |nil=>rfl
 |cons x r ih=>simp only[List.all_cons];rw[h x List.mem_cons_self,ih fun y hy=>h y (List.mem_cons_of_mem _ hy)]
theorem jL{α β:Type}{l:List α}{p q:α→List β}(h:∀x,x∈l→p x=q x):l.flatMap p=l.flatMap q:=by
 induction l with
 |nil=>rfl
 |cons x r ih=>simp only[List.flatMap_cons];rw[h x List.mem_cons_self,ih fun y hy=>h y (List.mem_cons_of_mem _ hy)]
theorem Pn{F G:Nat→List V→V→Prop}{id:Nat}{K:V→List (Nat×Option Ob)→Prop}{o:a_}(h:∀x,x∈o.xs→ρ x=ρ' x)(ho:o.J8=true→∀x,x∈o.xs→∀j,(ρ x).ref=some j→ob j=ob' j)
 (hv:ev F G ρ ob id K o):ev F G ρ' ob' id K o:=by
 have h2:∀x y:X,(∀z,z∈[x,y]→ρ z=ρ' z)→ρ x=ρ' x∧ρ y=ρ' y:=fun x y h=>⟨h x sy,h y sy⟩
 cases o<;>simp only[a_.xs]at h ho
 case mv x=>simp only[ev]at hv ⊢;rw[←h x sy];exact hv
 case un op x=>simp only[ev]at hv ⊢;rw[←h x sy];exact hv
 case Ou k x=>simp only[ev]at hv ⊢;rw[←h x sy];exact hv
 case zT k x=>simp only[ev]at hv ⊢;rw[←h x sy];exact hv
 case len x=>simp only[ev]at hv ⊢;rw[←h x sy];exact hv
 case ext x i=>simp only[ev]at hv ⊢;rw[←h x sy];exact hv
 case nc x=>simp only[ev]at hv ⊢;rw[←h x sy];exact hv
 case JZ n x=>simp only[ev]at hv ⊢;rw[←h x sy];exact hv
 case pick c x y=>simp only[ev]at hv ⊢;rw[←h c sy,←h x sy,←h y sy];exact hv
 case bin op x y=>simp only[ev]at hv ⊢;rw[←(h2 x y h).1,←(h2 x y h).2];exact hv
 case OZ n x y=>simp only[ev]at hv ⊢;rw[←(h2 x y h).1,←(h2 x y h).2];exact hv
 case six x y=>simp only[ev]at hv ⊢;rw[←(h2 x y h).1,←(h2 x y h).2];exact hv
 case idx n x y=>simp only[ev]at hv ⊢;rw[←(h2 x y h).1,←(h2 x y h).2];exact hv
 case mm n x y=>simp only[ev]at hv ⊢;rw[←(h2 x y h).1,←(h2 x y h).2];exact hv
 case mk e sz b z x y=>simp only[ev]at hv ⊢;rw[←(h2 x y h).1,←(h2 x y h).2];exact hv
 case al e z=>exact hv
 case bx e x=>
  simp only[ev]at hv ⊢;have hx:=ho rfl x sy;rw[←h x sy,←iq hx,←o_ hx,←kC hx];exact hv
 case oU f m args=>
  simp only[ev]at hv ⊢;have e:∀p,p∈args→ρ' p.2=ρ p.2:=fun p hp=>(h _ (List.mem_map.2 ⟨p,hp,rfl⟩)).symm
  have r:∀p,p∈args→∀j,(ρ p.2).ref=some j→ob j=ob' j:=fun p hp=>ho rfl _ (List.mem_map.2 ⟨p,hp,rfl⟩)
  have em:(args[m]?).map (fun p=>ρ' p.2)=(args[m]?).map (fun p=>ρ p.2):=by
   cases hx:args[m]? with
   |none=>rfl
   |some p=>simp only[Option.map_some];rw[e p (List.mem_of_getElem? hx)]
  rw[em];cases hx:(args[m]?).map (fun p=>ρ p.2)with
  |none=>rw[hx]at hv;exact hv
  |some v=>
   rw[hx]at hv;cases v<;>simp only[]at hv ⊢ <;>(try exact hv);rename_i z j n;have hjj:ob j=ob' j:=by
    obtain⟨p,hp,hpe⟩:=Option.map_eq_some_iff.1 hx;exact r p (List.mem_of_getElem? hp) j (by rw[hpe];rfl)
   rw[←hjj];cases hj:ob j with
   |none=>rw[hj]at hv;exact hv
   |some o=>
    rw[hj]at hv;simp only[]at hv ⊢;have sub:∀p,p∈args.eraseIdx m→p∈args:=fun p hp=>List.mem_of_mem_eraseIdx hp
    rw[show(args.map fun p=>ρ' p.2)=args.map fun p=>ρ p.2 from List.map_congr_left e,
     show(args.all fun p=>(rd ob' p.1 (ρ' p.2)).aQ)=args.all fun p=>(rd ob p.1 (ρ p.2)).aQ from all_congr fun p hp=>by rw[e p hp,iq (r p hp)],
     show((args.eraseIdx m).all fun p=>(eF ob' (ρ' p.2)).all fun q=>q.1 != j)=(args.eraseIdx m).all fun p=>(eF ob (ρ p.2)).all fun q=>q.1 != j from all_congr fun p hp=>by rw[e p (sub p hp),kC (r p (sub p hp))],
     show(args.map fun p=>rd ob' p.1 (ρ' p.2))=args.map fun p=>rd ob p.1 (ρ p.2)from List.map_congr_left fun p hp=>by rw[e p hp,iq (r p hp)],
     show((args.eraseIdx m).flatMap fun p=>eF ob' (ρ' p.2))=(args.eraseIdx m).flatMap fun p=>eF ob (ρ p.2)from jL fun p hp=>by rw[e p (sub p hp),kC (r p (sub p hp))],
     ←m_ (ob:=ob) (vs:=args.map fun p=>ρ p.2) fun v hv=>by obtain⟨x,hx,rfl⟩:=List.mem_map.1 hv;exact r x hx]
    exact hv
 case rV f args=>simp only[ev]at hv ⊢;rw[←List.map_congr_left h];exact hv
 case ld ag n p=>
  simp only[ev]at hv ⊢;rw[←h p sy];have hj:=ho rfl p sy;cases hp:ρ p<;>rw[hp]at hv hj<;>(try simp only[]at hv ⊢)<;>try exact hv
  rw[←hj _ rfl];exact hv
 case st n p x=>
  simp only[ev]at hv ⊢;rw[←(h2 p x h).1,←(h2 p x h).2];have hj:=ho rfl p sy;have hx:=ho rfl x sy;rw[←iq hx,←o_ hx,←kC hx];cases hp:ρ p<;>rw[hp]at hv hj<;>(try simp only[]at hv ⊢)<;>try exact hv
  rw[←hj _ rfl];exact hv
 case stk p x=>
  simp only[ev]at hv ⊢;rw[←(h2 p x h).1,←(h2 p x h).2];have hj:=ho rfl p sy;cases hp:ρ p<;>rw[hp]at hv hj<;>(try simp only[]at hv ⊢)<;>try exact hv
  rw[←hj _ rfl];exact hv
 case Ov z ps=>
  simp only[ev]at hv ⊢;have e:∀p,p∈ps→ρ' p.2.2=ρ p.2.2:=fun p hp=>(h _ (List.mem_map.2 ⟨p,hp,rfl⟩)).symm
  have r:∀p,p∈ps→∀j,(ρ p.2.2).ref=some j→ob j=ob' j:=fun p hp=>ho rfl _ (List.mem_map.2 ⟨p,hp,rfl⟩)
  rw[show(ps.map fun p=>ρ' p.2.2)=ps.map fun p=>ρ p.2.2 from List.map_congr_left e,
   show(ps.map fun p=>(p.1,(rd ob' 1 (ρ' p.2.2)).cells))=ps.map fun p=>(p.1,(rd ob 1 (ρ p.2.2)).cells)from List.map_congr_left fun p hp=>by rw[e p hp,iq (r p hp)],
   show(ps.all fun p=>(rd ob' 1 (ρ' p.2.2)).cells.length==p.2.1)=ps.all fun p=>(rd ob 1 (ρ p.2.2)).cells.length==p.2.1 from all_congr fun p hp=>by rw[e p hp,iq (r p hp)],
   show(ps.flatMap fun p=>eF ob' (ρ' p.2.2))=ps.flatMap fun p=>eF ob (ρ p.2.2)from jL fun p hp=>by rw[e p hp,kC (r p hp)],
   ←m_ (ob:=ob) (vs:=ps.map fun p=>ρ p.2.2) fun v hv=>by obtain⟨p,hp,rfl⟩:=List.mem_map.1 hv;exact r p hp]
  exact hv
 case Dz e0 sz n z ps=>
  simp only[ev]at hv ⊢;have e:∀p,p∈ps→ρ' p.2=ρ p.2:=fun p hp=>(h _ (List.mem_map.2 ⟨p,hp,rfl⟩)).symm
  have r:∀p,p∈ps→∀j,(ρ p.2).ref=some j→ob j=ob' j:=fun p hp=>ho rfl _ (List.mem_map.2 ⟨p,hp,rfl⟩)
  rw[show(ps.map fun p=>ρ' p.2)=ps.map fun p=>ρ p.2 from List.map_congr_left e,
   show(ps.map fun p=>(p.1*sz,(rd ob' 1 (ρ' p.2)).cells))=ps.map fun p=>(p.1*sz,(rd ob 1 (ρ p.2)).cells)from List.map_congr_left fun p hp=>by rw[e p hp,iq (r p hp)],
   show(ps.all fun p=>(rd ob' 1 (ρ' p.2)).cells.length==sz)=ps.all fun p=>(rd ob 1 (ρ p.2)).cells.length==sz from all_congr fun p hp=>by rw[e p hp,iq (r p hp)],
   show(ps.flatMap fun p=>eF ob' (ρ' p.2))=ps.flatMap fun p=>eF ob (ρ p.2)from jL fun p hp=>by rw[e p hp,kC (r p hp)],
   ←m_ (ob:=ob) (vs:=ps.map fun p=>ρ p.2) fun v hv=>by obtain⟨p,hp,rfl⟩:=List.mem_map.1 hv;exact r p hp]
  exact hv
 case call f ps=>
  simp only[ev]at hv ⊢;have e:∀p,p∈ps→ρ' p.2=ρ p.2:=fun p hp=>(h _ (List.mem_map.2 ⟨p,hp,rfl⟩)).symm
  have r:∀p,p∈ps→∀j,(ρ p.2).ref=some j→ob j=ob' j:=fun p hp=>ho rfl _ (List.mem_map.2 ⟨p,hp,rfl⟩)
  have key:∀n,(ps.map fun p=>Ox n ob' p.1 (ρ' p.2))=ps.map fun p=>Ox n ob p.1 (ρ p.2):=fun n=>List.map_congr_left fun p hp=>by rw[e p hp,L8 (r p hp)]
  simp only[key];rw[show(ps.map fun p=>ρ' p.2)=ps.map fun p=>ρ p.2 from List.map_congr_left e,
   show(ps.all fun p=>(rd ob' p.1 (ρ' p.2)).aQ)=ps.all fun p=>(rd ob p.1 (ρ p.2)).aQ from all_congr fun p hp=>by rw[e p hp,iq (r p hp)],
   show(ps.flatMap fun p=>eF ob' (ρ' p.2))=ps.flatMap fun p=>eF ob (ρ p.2)from jL fun p hp=>by rw[e p hp,kC (r p hp)],
   ←m_ (ob:=ob) (vs:=ps.map fun p=>ρ p.2) fun v hv=>by obtain⟨p,hp,rfl⟩:=List.mem_map.1 hv;exact r p hp]
  exact hv
 case bad=>exact hv
 case J3 sz s x=>
  simp only[ev]at hv ⊢;rw[←(h2 s x h).1,←(h2 s x h).2];have hj:=ho rfl s sy;have hx:=ho rfl x sy;rw[←iq hx,←o_ hx];cases hp:vP (ρ s)<;>rw[hp]at hv<;>(try exact hv)<;>(cases hr:rd ob sz (ρ x)<;>rw[hr]at hv<;>(try exact hv));simp only[]at hv ⊢;rw[←hj _ (Fz hp)];exact hv
 case app e sz b s x=>
  simp only[ev]at hv ⊢;rw[←(h2 s x h).1,←(h2 s x h).2];have hj:=ho rfl s sy;have hx:=Vr (ho rfl x sy);rw[←iq hx,←o_ hx];cases hp:ρ s<;>rw[hp]at hv hj<;>(try exact hv)<;>(cases hr:rd ob sz (yQ (ρ x))<;>rw[hr]at hv<;>(try exact hv));simp only[]at hv ⊢;rw[←hj _ rfl];exact hv
 case sub sz x lo hi=>
  have e1:lo.map ρ'=lo.map ρ:=by cases lo<;>simp at h ⊢;exact(h.2.1).symm
  have e2:hi.map ρ'=hi.map ρ:=by cases hi<;>simp at h ⊢;exact(h.2 _ (.inr rfl)).symm
  simp only[ev]at hv ⊢;rw[e1,e2,←h x sy];exact hv
theorem Po{op:BinOp}{k k':IntKind}{a b:Int}{R:V→Prop}(h:bi op k a k' b R):∃v,R v∧bi op k a k' b (fun v'=>v'=v):=by
 cases op<;>simp only[bi]at h ⊢ <;>exact⟨_,h.2,h.1,rfl⟩
theorem Pq{op:BinOp}{a b:List UInt8}{R:V→Prop}(h:bs op a b R):∃v,R v∧bs op a b (fun v'=>v'=v):=by
 cases op<;>simp only[bs]at h ⊢ <;>first|exact⟨_,h.2,h.1,rfl⟩|exact⟨_,h,rfl⟩|exact h.elim
theorem FB{F G:Nat→List V→V→Prop}{ρ:X→V}{ob:Nat→Option Ob}{id:Nat}{K:V→List (Nat×Option Ob)→Prop}{o:a_}(hd:o.det=true)(h:ev F G ρ ob id K o):
 ∃v up,K v up∧ev F G ρ ob id (fun v' up'=>v'=v∧up'=up) o:=by
 have c1:∀{p:Prop} {v:V} {up:List (Nat×Option Ob)},chk p (K v up)→∃v' up',K v' up'∧chk p (v=v'∧up=up'):=fun h=>⟨_,_,h.2,h.1,rfl,rfl⟩
 cases o
 case JZ n x=>cases hd
 case mv x=>exact⟨_,_,h,rfl,rfl⟩
 case al e z=>exact⟨_,_,h,rfl,rfl⟩
 case bx e x=>exact c1 h
 case Ov z ps=>exact c1 h
 case Dz e sz n z ps=>exact c1 h
 case rV f args=>obtain⟨r,h1,h2⟩:=h;exact⟨_,_,h2,r,h1,rfl,rfl⟩
 case pick c x y=>
  simp only[ev]at h ⊢;cases hc:ρ c<;>rw[hc]at h<;>(try exact h.elim);case b t=>
   cases t
   ·exact⟨_,_,h.2 rfl,rW (fun e=>by cases e) (fun _=>⟨rfl,rfl⟩)⟩
   ·exact⟨_,_,h.1 rfl,rW (fun _=>⟨rfl,rfl⟩) (fun e=>by cases e)⟩
 case bin op x y=>
  simp only[ev]at h ⊢;cases hx:ρ x<;>rw[hx]at h<;>(try exact h.elim);case i k n=>
   cases hy:ρ y<;>rw[hy]at h<;>(try exact h.elim);case i k' m=>
    obtain⟨v,h1,h2⟩:=Po h;refine⟨v,[],h1,?_⟩;have:(fun v'=>v'=v)=fun v'=>v'=v∧([]:List (Nat×Option Ob))=[]:=by funext v';simp
    show bi op k n k' m _;rw[←this];exact h2
  case s l=>
   cases hy:ρ y<;>rw[hy]at h<;>(try exact h.elim);case s l'=>
    obtain⟨v,h1,h2⟩:=Pq h;refine⟨v,[],h1,?_⟩;have:(fun v'=>v'=v)=fun v'=>v'=v∧([]:List (Nat×Option Ob))=[]:=by funext v';simp
    show bs op l l' _;rw[←this];exact h2
 case OZ neg x y=>
  simp only[ev]at h ⊢;cases hx:ρ x<;>rw[hx]at h<;>(try exact h.elim);cases hy:ρ y<;>rw[hy]at h<;>(try exact h.elim);exact⟨_,_,h,rfl,rfl⟩
 case un op x=>
  simp only[ev]at h ⊢;cases op<;>cases hx:ρ x<;>rw[hx]at h<;>first|exact h.elim|exact⟨_,_,h,rfl,rfl⟩
 case Ou k x=>
  simp only[ev]at h ⊢;cases hx:ρ x<;>rw[hx]at h<;>first|exact h.elim|exact⟨_,_,h,rfl,rfl⟩
 case six x y=>
  simp only[ev]at h ⊢;cases hx:ρ x<;>rw[hx]at h<;>(try exact h.elim);cases hy:ρ y<;>rw[hy]at h<;>(try exact h.elim);exact c1 h
 case idx sz x y=>
  simp only[ev]at h ⊢;cases hx:ρ x<;>rw[hx]at h<;>(try exact h.elim);all_goals
   cases hy:ρ y<;>rw[hy]at h<;>(try exact h.elim)
   exact c1 h
 case ld ag n p=>
  simp only[ev]at h ⊢;cases hx:ρ p<;>rw[hx]at h<;>(try exact h.elim)
  ·cases ag<;>exact c1 h
  ·rename_i j k;simp only[]at h ⊢;cases hj:ob j<;>rw[hj]at h<;>(try exact h.elim);cases ag<;>exact c1 h
 case st n p x=>
  simp only[ev]at h ⊢;cases hx:ρ p<;>rw[hx]at h<;>(try exact h.elim);rename_i j k;simp only[]at h ⊢;cases hj:ob j<;>rw[hj]at h<;>(try exact h.elim);exact c1 h
 case stk p x=>
  simp only[ev]at h ⊢;cases hx:ρ p<;>rw[hx]at h<;>(try exact h.elim);rename_i j k;simp only[]at h ⊢;cases hj:ob j<;>rw[hj]at h<;>(try exact h.elim);exact c1 h
 case zT off p=>
  simp only[ev]at h ⊢;cases hx:ρ p<;>rw[hx]at h<;>first|exact h.elim|exact⟨_,_,h,rfl,rfl⟩
 case mk e sz b z x y=>
  simp only[ev]at h ⊢;cases hx:ρ x<;>rw[hx]at h<;>(try exact h.elim);cases hy:ρ y<;>rw[hy]at h<;>(try exact h.elim);exact c1 h
 case sub sz x lo hi=>
  simp only[ev]at h ⊢;cases hx:ρ x<;>rw[hx]at h<;>(try exact h.elim);case kn u y=>
   cases u<;>(try exact h.elim);cases y<;>(try exact h.elim);cases hl:lo.map ρ<;>cases hh:hi.map ρ<;>rw[hl,hh]at h<;>(try exact h.elim);rename_i v;cases v<;>first|exact h.elim|exact c1 h
  all_goals
   simp only[]at h ⊢
   cases hl:lo.map ρ<;>cases hh:hi.map ρ<;>rw[hl,hh]at h<;>(try simp only[]at h ⊢)
   all_goals first
    |exact c1 h
    |exact⟨_,_,h,rfl,rfl⟩
    |(rename_i v;cases v<;>first|exact h.elim|exact c1 h)
    |(rename_i v v';cases v<;>cases v'<;>first|exact h.elim|exact c1 h)
 case len x=>
  simp only[ev]at h ⊢;cases hx:ρ x<;>rw[hx]at h<;>first|exact h.elim|exact⟨_,_,h,rfl,rfl⟩
 case nc x=>
  simp only[ev]at h ⊢;cases hx:ρ x<;>rw[hx]at h<;>first|exact h.elim|exact⟨_,_,h,rfl,rfl⟩
 case ext x i=>
  simp only[ev]at h ⊢;cases hx:ρ x<;>rw[hx]at h<;>first|exact h.elim|exact c1 h|(cases i<;>first|exact⟨_,_,h,rfl,rfl⟩|exact c1 h)
 case mm m x y=>
  simp only[ev]at h ⊢;cases hx:ρ x<;>rw[hx]at h<;>(try exact h.elim);cases hy:ρ y<;>rw[hy]at h<;>(try exact h.elim);exact c1 h
 case app e sz b s x=>
  simp only[ev]at h ⊢;cases hx:ρ s<;>rw[hx]at h<;>(try exact h.elim)
  ·rename_i a j m;cases hy:rd ob sz (yQ (ρ x))<;>rw[hy]at h<;>(try exact h.elim);simp only[]at h ⊢;cases hj:ob j<;>rw[hj]at h<;>(try exact h.elim);exact c1 h
  ·cases hy:rd ob sz (yQ (ρ x))<;>rw[hy]at h<;>(try exact h.elim);exact c1 h
 case call f args=>
  simp only[ev]at h ⊢;obtain⟨h0,n,r,h1,h2⟩:=h;cases r;case o e sz cs=>exact⟨_,_,h2.2,h0,n,.o e sz cs,h1,h2.1,rfl,rfl⟩
  case mu x cs=>exact h2.elim
  all_goals exact⟨_,_,h2,h0,n,_,h1,rfl,rfl⟩
 case bad=>exact h.elim
 case oU f m args=>
  simp only[ev]at h ⊢;cases hx:(args[m]?).map (fun p=>ρ p.2)with
  |none=>rw[hx]at h;exact h.elim
  |some v=>
   rw[hx]at h;cases v<;>simp only[]at h<;>(try exact h.elim);rename_i z j n;cases hj:ob j with
   |none=>rw[hj]at h;exact h.elim
   |some o=>
    rw[hj]at h;obtain⟨h0,r,cs',h1,h2,h3⟩:=h;refine⟨_,_,h3,?_⟩;simp only[hx,hj];exact⟨h0,r,cs',h1,h2,rfl,rfl⟩
 case J3 sz s x=>
  simp only[ev]at h ⊢;cases hx:vP (ρ s)<;>rw[hx]at h<;>(try exact h.elim);rename_i a j off m;cases hy:rd ob sz (ρ x)<;>rw[hy]at h<;>(try exact h.elim);simp only[]at h ⊢;cases hj:ob j<;>rw[hj]at h<;>(try exact h.elim);exact c1 h
end congr
end Go.Proofs.YtcgfgifjkkmmcaaGreatDoor.Ab
namespace Go.Proofs.YtcgfgifjkkmmcaaGreatDoor.Ab
open Go Go.RowKit
def V.eU(nx:Nat):V→Bool
 | .ow _ j _| .sl _ j _ _| .pt j _| .tw _ j _ _=>decide (j≤nx)
 |_=>true
section
variable (F G:Nat→List V→V→Prop)
def Hf:List AO→St→(St→Prop)→Prop
 |[],s,K=>K s
 |o::r,s,K=>gv o.gd s (ev F G s.val s.ob s.nx (fun v up=>chk (v.eU s.nx=true∧(o.op.mut||up.all (fun p=>p.1==s.nx))=true) (Hf r (s.qZ o.dst v up) K)) o.op) (Hf r (s.qZ o.dst .un []) K)
end
structure Rc where
 dst:Option Nat
 v:V
 up:List (Nat×Option Ob)
def Did(F G:Nat→List V→V→Prop)(o:AO)(s:St)(r:Rc):Prop:=
 r.dst=o.dst∧gv o.gd s (ev F G s.val s.ob s.nx (fun v up=>v=r.v∧up=r.up) o.op) (r.v= .un∧r.up=[])∧r.v.eU s.nx=true∧(o.op.mut||r.up.all (fun p=>p.1==s.nx))=true
def Trc(F G:Nat→List V→V→Prop):List AO→St→List Rc→Prop
 |[],_,rs=>rs=[]
 |o::l,s,rs=>∃r rs',rs=r::rs'∧Did F G o s r∧Trc F G l (s.qZ r.dst r.v r.up) rs'
def gW:St→List Rc→St
 |s,[]=>s
 |s,r::rs=>gW (s.qZ r.dst r.v r.up) rs
theorem Pv{F G:Nat→List V→V→Prop}{g:Option (Nat×Bool)}{s:St}{op:a_}{nx:Nat}{dst:Option Nat}{K1:V→List (Nat×Option Ob)→Prop}{K2:Prop}(hd:op.det=true)
 (h:gv g s (ev F G s.val s.ob nx (fun v up=>chk (v.eU nx=true∧(op.mut||up.all (fun p=>p.1==nx))=true) (K1 v up)) op) K2):
 ∃v up,gv g s (ev F G s.val s.ob nx (fun v' up'=>v'=v∧up'=up) op) (v= .un∧up=[])∧v.eU nx=true∧(op.mut||up.all (fun p=>p.1==nx))=true∧(K1 v up∨(v= .un∧up=[]∧K2)):=by
 have run:ev F G s.val s.ob nx (fun v up=>chk (v.eU nx=true∧(op.mut||up.all (fun p=>p.1==nx))=true) (K1 v up)) op→∃v up,ev F G s.val s.ob nx (fun v' up'=>v'=v∧up'=up) op∧v.eU nx=true∧(op.mut||up.all (fun p=>p.1==nx))=true∧K1 v up:=fun h=>by
  obtain⟨v,up,h1,h2⟩:=FB hd h;exact⟨v,up,h2,h1.1.1,h1.1.2,h1.2⟩
 have skip:K2→(V.un.eU nx=true∧(op.mut||([]:List (Nat×Option Ob)).all (fun p=>p.1==nx))=true):=fun _=>⟨rfl,sy⟩
 cases g with
 |none=>
  obtain⟨v,up,h1,h2,h3,h4⟩:=run h;exact⟨v,up,h1,h2,h3,.inl h4⟩
 |some tw=>
  obtain⟨t,want⟩:=tw;cases want<;>simp only[gv]at h ⊢;all_goals
   cases hx:s.get t<;>rw[hx]at h<;>(try exact h.elim)
  case false.b x=>
   cases x
   ·obtain⟨v,up,h1,h2,h3,h4⟩:=run (h.2 rfl);exact⟨v,up,rW (fun e=>by cases e) (fun _=>h1),h2,h3,.inl h4⟩
   ·have k:=h.1 rfl;exact⟨.un,[],rW (fun _=>⟨rfl,rfl⟩) (fun e=>by cases e),rfl,sy,.inr ⟨rfl,rfl,k⟩⟩
  case true.b x=>
   cases x
   ·have k:=h.2 rfl;exact⟨.un,[],rW (fun e=>by cases e) (fun _=>⟨rfl,rfl⟩),rfl,sy,.inr ⟨rfl,rfl,k⟩⟩
   ·obtain⟨v,up,h1,h2,h3,h4⟩:=run (h.1 rfl);exact⟨v,up,rW (fun _=>h1) (fun e=>by cases e),h2,h3,.inl h4⟩
  case false.un=>exact⟨.un,[],⟨rfl,rfl⟩,rfl,sy,.inr ⟨rfl,rfl,h⟩⟩
  case true.un=>exact⟨.un,[],⟨rfl,rfl⟩,rfl,sy,.inr ⟨rfl,rfl,h⟩⟩
theorem Cc{F G:Nat→List V→V→Prop}{K:St→Prop}:∀(l:List AO) (s:St),(l.all fun o=>o.op.det)=true→Hf F G l s K→∃rs,Trc F G l s rs∧K (gW s rs)
 |[],s,_,h=>⟨[],rfl,h⟩
 |o::l,s,hd,h=>by
  simp only[Hf]at h;simp only[List.all_cons,Bool.and_eq_true]at hd;obtain⟨v,up,h1,h2,h3,h4⟩:=Pv hd.1 (dst:=o.dst) (K1:=fun v up=>Hf F G l (s.qZ o.dst v up) K) (K2:=Hf F G l (s.qZ o.dst .un []) K) h;have k:Hf F G l (s.qZ o.dst v up) K:=by
   rcases h4 with h4|⟨rfl,rfl,h4⟩
   ·exact h4
   ·exact h4
  obtain⟨rs,k1,k2⟩:=Cc l _ hd.2 k;exact⟨⟨o.dst,v,up⟩::rs,⟨_,rs,rfl,⟨rfl,h1,h2,h3⟩,k1⟩,k2⟩
def xK(e:Nat→V)(d:Option Nat)(v:V):Nat→V:=match d with|some d=>fun t=>if d=t then v else e t|none=>e
def eM(e:Nat→V):List Rc→List Bool→Nat→V
 |r::rs,m::ms=>eM (if m then xK e r.dst r.v else e) rs ms
 |_,_=>e
def oM(ob:Nat→Option Ob):List Rc→List Bool→Nat→Option Ob
 |r::rs,m::ms=>oM (if m then upd ob r.up else ob) rs ms
 |_,_=>ob
theorem J9{e:Nat→V}{d:Option Nat}{v:V}{t:Nat}(h:d≠some t):xK e d v t=e t:=by
 cases d with
 |none=>rfl
 |some d=>simp only[xK];rw[if_neg (fun e=>h (by rw[e]))]
theorem Px:∀(rs:List Rc) (ms:List Bool) (e:Nat→V) (d:Option Nat) (v:V),(∀(k:Nat) (r:Rc),rs[k]? =some r→ms[k]? =some true→∀t,r.dst=some t→d≠some t)→eM (xK e d v) rs ms=xK (eM e rs ms) d v
 |[],ms,e,d,v,_=>by cases ms<;>rfl
 |r::rs,[],e,d,v,_=>rfl
 |r::rs,m::ms,e,d,v,h=>by
  simp only[eM];rw[←Px rs ms _ d v fun k q h1 h2=>h (k+1) q (by simpa using h1) (by simpa using h2)];cases m with
  |false=>rfl
  |true=>
   have h0:=h 0 r rfl rfl;simp only[if_true];congr 1;funext t;cases hd:r.dst with
   |none=>rfl
   |some t0=>
    rw[hd]at h0;have hne:=h0 t0 rfl;cases d with
    |none=>rfl
    |some d=>
     simp only[xK];by_cases e1:t0=t
     ·subst e1;rw[if_pos rfl,if_neg (fun e=>hne (by rw[e])),if_pos rfl]
     ·rw[if_neg e1];split<;>simp[e1]
theorem l9{ob:Nat→Option Ob}{up:List (Nat×Option Ob)}{j:Nat}(h:∀x,(j,x) ∉ up):upd ob up j=ob j:=by
 rcases jD (ob:=ob) up j with ⟨h1,_⟩|h1
 ·exact h1
 ·exact absurd h1 (h _)
theorem vZ{ob ob':Nat→Option Ob}{up:List (Nat×Option Ob)}{j:Nat}(h:ob j=ob' j):upd ob up j=upd ob' up j:=by
 induction up with
 |nil=>exact h
 |cons p r ih=>obtain⟨k,v⟩:=p;simp only[upd];split<;>first|rfl|exact ih
theorem Py:∀(rs:List Rc) (ms:List Bool) (ob:Nat→Option Ob) (up:List (Nat×Option Ob)),(∀(k:Nat) (r:Rc),rs[k]? =some r→ms[k]? =some true→∀j x y,(j,x)∈up→(j,y) ∉ r.up)→oM (upd ob up) rs ms=upd (oM ob rs ms) up
 |[],ms,ob,up,_=>by cases ms<;>rfl
 |r::rs,[],ob,up,_=>rfl
 |r::rs,m::ms,ob,up,h=>by
  simp only[oM];rw[←Py rs ms _ up fun k q h1 h2=>h (k+1) q (by simpa using h1) (by simpa using h2)];cases m with
  |false=>rfl
  |true=>
   have h0:=h 0 r rfl rfl;simp only[if_true];congr 1;funext j;rw[jK,jK];rcases jD (ob:=ob) (r.up++up) j with ⟨h1,h2⟩|h1
   ·rw[h1];symm;exact l9 fun x hx=>h2 x (List.mem_append.2 ((List.mem_append.1 hx).symm))
   ·rcases List.mem_append.1 h1 with h1'|h1'
    ·have hno:∀x,(j,x) ∉ up:=fun x hx=>h0 j x _ hx h1'
     rw[←jK ob up r.up,l9 hno,←jK ob r.up up];first|exact vZ (l9 hno)|exact(vZ (l9 hno)).symm
    ·have hno:∀x,(j,x) ∉ r.up:=fun x hx=>h0 j _ x h1' hx
     rw[←jK ob r.up up,l9 hno,←jK ob up r.up];first|exact vZ (l9 hno).symm|exact(vZ (l9 hno).symm).symm
theorem Pz:∀(rs:List Rc) (ms:List Bool) (i:Nat) (e:Nat→V) (r:Rc),rs[i]? =some r→ms[i]? =some false→(∀(k:Nat) (q:Rc),i<k→rs[k]? =some q→ms[k]? =some true→∀t,q.dst=some t→r.dst≠some t)→
 eM e rs (ms.set i true)=xK (eM e rs ms) r.dst r.v
 |[],ms,i,e,r,h,_,_=>by simp at h
 |q::rs,[],i,e,r,_,h,_=>by simp at h
 |q::rs,m::ms,0,e,r,h1,h2,h3=>by
  simp at h1 h2;subst h1;subst h2;simp only[List.set_cons_zero,eM,if_true,Bool.false_eq_true,if_false];exact Px rs ms e q.dst q.v fun k p hk hm t ht=>h3 (k+1) p om (by simpa using hk) (by simpa using hm) t ht
 |q::rs,m::ms,i+1,e,r,h1,h2,h3=>by
  simp only[List.set_cons_succ,eM];exact Pz rs ms i _ r (by simpa using h1) (by simpa using h2) fun k p hk hp hm=>h3 (k+1) p om (by simpa using hp) (by simpa using hm)
theorem PD:∀(rs:List Rc) (ms:List Bool) (i:Nat) (ob:Nat→Option Ob) (r:Rc),rs[i]? =some r→ms[i]? =some false→(∀(k:Nat) (q:Rc),i<k→rs[k]? =some q→ms[k]? =some true→∀j x y,(j,x)∈r.up→(j,y) ∉ q.up)→
 oM ob rs (ms.set i true)=upd (oM ob rs ms) r.up
 |[],ms,i,e,r,h,_,_=>by simp at h
 |q::rs,[],i,e,r,_,h,_=>by simp at h
 |q::rs,m::ms,0,e,r,h1,h2,h3=>by
  simp at h1 h2;subst h1;subst h2;simp only[List.set_cons_zero,oM,if_true,Bool.false_eq_true,if_false];exact Py rs ms e q.up fun k p hk hm=>h3 (k+1) p om (by simpa using hk) (by simpa using hm)
 |q::rs,m::ms,i+1,e,r,h1,h2,h3=>by
  simp only[List.set_cons_succ,oM];exact PD rs ms i _ r (by simpa using h1) (by simpa using h2) fun k p hk hp hm=>h3 (k+1) p om (by simpa using hp) (by simpa using hm)
theorem DJ:∀(rs:List Rc) (ms:List Bool) (i:Nat) (e e':Nat→V) (t:Nat),ms.length=rs.length→e t=e' t→(∀(k:Nat) (q:Rc),k<i→rs[k]? =some q→ms[k]? =some false→q.dst≠some t)→
 (∀(k:Nat) (q:Rc),i≤k→rs[k]? =some q→ms[k]? =some true→q.dst≠some t)→eM e rs ms t=eM e' (rs.take i) ((List.replicate i true)) t
 |[],ms,i,e,e',t,_,h,_,_=>by cases ms<;>simp[eM,h]
 |q::rs,[],i,e,e',t,hl,_,_,_=>by simp at hl
 |q::rs,m::ms,0,e,e',t,hl,h,h1,h2=>by
  simp only[List.take_zero,List.replicate_zero];have:eM e (q::rs) (m::ms) t=e t:=by
   have gen:∀(rs:List Rc) (ms:List Bool) (e:Nat→V),(∀(k:Nat) (q:Rc),rs[k]? =some q→ms[k]? =some true→q.dst≠some t)→eM e rs ms t=e t:=fun rs=>by
    induction rs with
    |nil=>intro ms e _;cases ms<;>rfl
    |cons q rs ih=>
     intro ms e h;cases ms with
     |nil=>rfl
     |cons m ms=>
      simp only[eM];rw[ih ms _ fun k p h1 h2=>h (k+1) p (by simpa using h1) (by simpa using h2)];cases m with
      |false=>rfl
      |true=>exact J9 (h 0 q rfl rfl)
   exact gen _ _ e fun k p h3 h4=>h2 k p (Nat.zero_le _) h3 h4
  rw[this];exact h
 |q::rs,m::ms,i+1,e,e',t,hl,h,h1,h2=>by
  simp only[List.take_succ_cons,List.replicate_succ,eM,if_true];refine DJ rs ms i _ _ t (by simpa using hl) ?_ (fun k p h3 h4 h5=>h1 (k+1) p om (by simpa using h4) (by simpa using h5)) (fun k p h3 h4 h5=>h2 (k+1) p om (by simpa using h4) (by simpa using h5));cases m with
  |true=>
   simp only[if_true];cases hd:q.dst with
   |none=>exact h
   |some d=>simp only[xK];split<;>first|rfl|exact h
  |false=>
   simp only[Bool.false_eq_true,if_false];rw[J9 (h1 0 q om rfl rfl)];exact h
theorem J_:∀(rs:List Rc) (ms:List Bool) (i:Nat) (e e':Nat→Option Ob) (j:Nat),ms.length=rs.length→e j=e' j→(∀(k:Nat) (q:Rc),k<i→rs[k]? =some q→ms[k]? =some false→∀x,(j,x) ∉ q.up)→
 (∀(k:Nat) (q:Rc),i≤k→rs[k]? =some q→ms[k]? =some true→∀x,(j,x) ∉ q.up)→oM e rs ms j=oM e' (rs.take i) ((List.replicate i true)) j
 |[],ms,i,e,e',t,_,h,_,_=>by cases ms<;>simp[oM,h]
 |q::rs,[],i,e,e',t,hl,_,_,_=>by simp at hl
 |q::rs,m::ms,0,e,e',t,hl,h,h1,h2=>by
  simp only[List.take_zero,List.replicate_zero];have:oM e (q::rs) (m::ms) t=e t:=by
   have gen:∀(rs:List Rc) (ms:List Bool) (e:Nat→Option Ob),(∀(k:Nat) (q:Rc),rs[k]? =some q→ms[k]? =some true→∀x,(t,x) ∉ q.up)→oM e rs ms t=e t:=fun rs=>by
    induction rs with
    |nil=>intro ms e _;cases ms<;>rfl
    |cons q rs ih=>
     intro ms e h;cases ms with
     |nil=>rfl
     |cons m ms=>
      simp only[oM];rw[ih ms _ fun k p h1 h2=>h (k+1) p (by simpa using h1) (by simpa using h2)];cases m with
      |false=>rfl
      |true=>exact l9 (h 0 q rfl rfl)
   exact gen _ _ e fun k p h3 h4=>h2 k p (Nat.zero_le _) h3 h4
  rw[this];exact h
 |q::rs,m::ms,i+1,e,e',t,hl,h,h1,h2=>by
  simp only[List.take_succ_cons,List.replicate_succ,oM,if_true];refine J_ rs ms i _ _ t (by simpa using hl) ?_ (fun k p h3 h4 h5=>h1 (k+1) p om (by simpa using h4) (by simpa using h5)) (fun k p h3 h4 h5=>h2 (k+1) p om (by simpa using h4) (by simpa using h5));cases m with
  |true=>simp only[if_true];exact vZ h
  |false=>
   simp only[Bool.false_eq_true,if_false];rw[l9 (h1 0 q om rfl rfl)];exact h
end Go.Proofs.YtcgfgifjkkmmcaaGreatDoor.Ab
namespace Go.Proofs.YtcgfgifjkkmmcaaGreatDoor.Ab
open Go Go.RowKit
def fG:List X→List Nat
 |[]=>[]
 | .t n::r=>n::fG r
 | .k _::r=>fG r
def AO.looks(o:AO):List Nat:=(match o.gd with|some (t,_)=>[t]|none=>[])++fG o.op.xs
def xM(cf:List (Nat×Nat))(o p:AO):Bool:=
 (match o.dst with|none=>true|some d=>!(p.looks.contains d)&&p.dst != some d)&&
 (match p.dst with|none=>true|some d=>!(o.looks.contains d))&&
 ((!(o.op.mut&&p.op.J8)&&!(p.op.mut&&o.op.J8))||(fG o.op.xs).all fun x=>(fG p.op.xs).all fun y=>cf.contains (x,y))
def stable(cf:List (Nat×Nat))(al:List AO):Bool:=
 (List.range al.length).all fun k=>(List.range (k+1)).all fun i=>match al[i]?,al[k]? with
   |some o,some p=>(match p.dst with|none=>true|some d=>!((fG o.op.xs).contains d)||!(cf.any fun q=>q.1==d||q.2==d))
   |_,_=>false
def Yy:Option Nat→Option Nat→Prop
 |some a,some b=>a≠b
 |_,_=>True
def jy(s:St):List (Nat×Nat)→Prop
 |[]=>True
 |(x,y)::r=>Yy (s.get x).ref (s.get y).ref∧jy s r
theorem Ad{s:St}:∀{cf:List (Nat×Nat)},jy s cf→∀{x y:Nat},(x,y)∈cf→∀{j:Nat},(s.get x).ref=some j→(s.get y).ref=some j→False
 |[],_,x,y,h,_,_,_=>by cases h
 |(a,b)::r,h,x,y,hm,j,h1,h2=>by
  rcases List.mem_cons.1 hm with e|hm
  ·cases e;have:=h.1;rw[h1,h2]at this;exact this rfl
  ·exact Ad h.2 hm h1 h2
def xN(acc:List Nat):List Edge→Nat
 |[]=>0
 |e::r=>if Region.binds .any e then xN acc r|||(2^e.on|||acc.getD e.on 0)else xN acc r
def rC:List Oper→List Nat→List Nat
 |[],acc=>acc
 |o::r,acc=>rC r (acc++[xN acc o.after.toList])
def oH:List X→Bool
 |[]=>true
 | .t _::r=>oH r
 | .k v::r=>v.ref.isNone&&oH r
def xO(cf:List (Nat×Nat))(ops:List Oper)(al:List AO):Bool:=
 al.all (fun o=>oH o.op.xs&&o.op.det)&&(cf.isEmpty||stable cf al)&&
 (List.range ops.length).all fun k=>(match ops[k]? with|some o=>o.after.toList.all fun e=>!Region.binds .any e||decide (e.on<k)|none=>true)&&
   (List.range k).all fun i=>((rC ops []).getD k 0).testBit i||(match al[i]?,al[k]? with|some o,some p=>xM cf o p|_,_=>false)
def Yz(ops:List Oper)(al:List AO):List (Nat×Nat):=
 (List.range ops.length).flatMap fun k=>(List.range k).flatMap fun i=>if((rC ops []).getD k 0).testBit i then[]else match al[i]?,al[k]? with
   |some o,some p=>if(o.op.mut&&p.op.J8)||(p.op.mut&&o.op.J8)then(fG o.op.xs).flatMap fun x=>(fG p.op.xs).map fun y=>(x,y)else[]
   |_,_=>[]
theorem tH{acc:List Nat}{i:Nat}:∀{es:List Edge},(xN acc es).testBit i=true→∃e,e∈es∧Region.binds .any e=true∧(i=e.on∨(acc.getD e.on 0).testBit i=true)
 |[],h=>by simp[xN]at h
 |e::r,h=>by
  simp only[xN]at h;split at h
  ·rename_i hb;rw[Nat.testBit_or,Nat.testBit_or]at h;simp only[Bool.or_eq_true]at h;rcases h with h|h|h
   ·obtain⟨e',h1,h2⟩:=tH h;exact⟨e',List.mem_cons_of_mem _ h1,h2⟩
   ·refine⟨e,List.mem_cons_self,hb,.inl ?_⟩;rw[Nat.testBit_two_pow]at h;have h':e.on=i:=by simpa using h
    exact h'.symm
   ·exact⟨e,List.mem_cons_self,hb,.inr h⟩
  ·obtain⟨e',h1,h2⟩:=tH h;exact⟨e',List.mem_cons_of_mem _ h1,h2⟩
theorem xP:∀(l:List Oper) (acc:List Nat) (k:Nat),k<acc.length→(rC l acc).getD k 0=acc.getD k 0
 |[],acc,k,_=>rfl
 |o::r,acc,k,h=>by
  rw[rC,xP r _ k (by simp;omega)];simp[List.getD,List.getElem?_append_left h]
theorem Ae{acc acc':List Nat}:∀{es:List Edge},(∀e,e∈es→Region.binds .any e=true→acc.getD e.on 0=acc'.getD e.on 0)→xN acc es=xN acc' es
 |[],_=>rfl
 |e::r,h=>by
  simp only[xN];split
  ·rename_i hb;rw[Ae fun e' h' hb'=>h e' (List.mem_cons_of_mem _ h') hb',h e List.mem_cons_self hb]
  ·exact Ae fun e' h' hb'=>h e' (List.mem_cons_of_mem _ h') hb'
theorem FC:∀(l:List Oper) (acc:List Nat) (k:Nat) (o:Oper),l[k]? =some o→(∀e,e∈o.after.toList→Region.binds .any e=true→e.on<acc.length+k)→(rC l acc).getD (acc.length+k) 0=xN (rC l acc) o.after.toList
 |[],acc,k,o,h,_=>by simp at h
 |p::r,acc,0,o,h,he=>by
  simp at h;subst h;rw[rC,Nat.add_zero,xP r _ acc.length sy];simp only[List.getD,List.getElem?_append_right (Nat.le_refl _),Nat.sub_self,List.getElem?_cons_zero,Option.getD_some];refine Ae fun e h1 h2=>?_
  have hlt:=he e h1 h2;have:=xP r (acc++[xN acc p.after.toList]) e.on (by simp;omega);rw[this];simp[List.getD,List.getElem?_append_left (show e.on<acc.length by omega)]
 |p::r,acc,k+1,o,h,he=>by
  have:=FC r (acc++[xN acc p.after.toList]) k o (by simpa using h) (fun e h1 h2=>by have:=he e h1 h2;simp;omega);simp only[List.length_append,List.length_cons,List.length_nil]at this;rw[rC,show acc.length+(k+1)=acc.length+(0+1)+k from om];exact this
section
variable {P:Program} {J:World→Prop} {w0:World} {H0:HS} {N:Nat} {ops:Array Oper} {al:List AO} {Q:Exit→Act→World→Prop}
theorem DK:∀{l:List Oper} {al:List AO},UF P N ops l=some al→l.length=al.length∧∀(k:Nat) (o:Oper),l[k]? =some o→∃p g,al[k]? =some ⟨o.dst,g,p⟩∧O3 P o.op=some p∧cG ops o.guard=some g∧Yx N o.dst=true
 |[],al,h=>by simp[UF]at h;subst h;exact⟨rfl,fun k o h=>by simp at h⟩
 |o::r,al,h=>by
  simp only[UF]at h;split at h
  ·rename_i p g l' hp hg hl;split at h
   ·rename_i hd;cases h;obtain⟨h1,h2⟩:=DK hl;refine⟨by simp[h1],fun k q hq=>?_⟩;cases k with
    |zero=>simp at hq;subst hq;exact⟨p,g,rfl,hp,hg,hd⟩
    |succ k=>exact h2 k q (by simpa using hq)
   ·cases h
  ·cases h
theorem kD:∀(rs:List Rc) (s:St),(gW s rs).get=eM s.get rs (List.replicate rs.length true)∧(gW s rs).ob=oM s.ob rs (List.replicate rs.length true)∧(gW s rs).nx=s.nx+rs.length
 |[],s=>⟨rfl,rfl,rfl⟩
 |r::rs,s=>by
  obtain⟨h1,h2,h3⟩:=kD rs (s.qZ r.dst r.v r.up);have e1:(s.qZ r.dst r.v r.up).get=xK s.get r.dst r.v:=by
   funext t;cases hd:r.dst with
   |none=>rfl
   |some d=>simp[St.qZ,St.get,aG,xK]
  have e2:(s.qZ r.dst r.v r.up).ob=upd s.ob r.up:=by funext i;simp[St.qZ,St.ob,Ph];rfl
  refine⟨?_,?_,?_⟩
  ·simp only[gW,List.length_cons,List.replicate_succ,eM,if_true];rw[h1,e1]
  ·simp only[gW,List.length_cons,List.replicate_succ,oM,if_true];rw[h2,e2]
  ·simp only[gW,List.length_cons];rw[h3];simp[St.qZ];omega
theorem DL{F G:Nat→List V→V→Prop}:∀{al:List AO} {s:St} {rs:List Rc},Trc F G al s rs→rs.length=al.length∧∀(k:Nat) (o:AO),al[k]? =some o→∃r,rs[k]? =some r∧Did F G o (gW s (rs.take k)) r
 |[],s,rs,h=>by cases h;exact⟨rfl,fun k o h=>by simp at h⟩
 |o::l,s,rs,h=>by
  obtain⟨r,rs',rfl,hd,ht⟩:=h;obtain⟨h1,h2⟩:=DL ht;refine⟨by simp[h1],fun k q hq=>?_⟩;cases k with
  |zero=>simp at hq;subst hq;exact⟨r,rfl,hd⟩
  |succ k=>
   obtain⟨r',h3,h4⟩:=h2 k q (by simpa using hq);exact⟨r',by simpa using h3,h4⟩
theorem L9{F G:Nat→List V→V→Prop}{ρ:X→V}{ob:Nat→Option Ob}{id:Nat}{o:a_}(ht:o.J8=false){K K':V→List (Nat×Option Ob)→Prop}(hK:∀v,K v []→K' v [])(h:ev F G ρ ob id K o):ev F G ρ ob id K' o:=by
 have c:∀{p:Prop} {v:V},chk p (K v [])→chk p (K' v []):=fun h=>⟨h.1,hK _ h.2⟩
 cases o<;>simp[a_.J8]at ht;case mv x=>exact hK _ h
 case rV f a=>obtain⟨r,k1,k2⟩:=h;exact⟨r,k1,hK _ k2⟩
 case pick c' a b=>
  simp only[ev]at h ⊢;cases hc:ρ c'<;>rw[hc]at h<;>(try exact h.elim);exact rW (fun e=>hK _ (h.1 e)) (fun e=>hK _ (h.2 e))
 case bin op x y=>
  simp only[ev]at h ⊢;cases hx:ρ x<;>rw[hx]at h<;>(try exact h.elim);all_goals
   cases hy:ρ y<;>rw[hy]at h<;>(try exact h.elim)
  ·cases op<;>simp only[bi]at h ⊢ <;>exact c h
  ·cases op<;>simp only[bs]at h ⊢ <;>first|exact c h|exact hK _ h|exact h.elim
 case OZ n x y=>
  simp only[ev]at h ⊢;cases hx:ρ x<;>rw[hx]at h<;>(try exact h.elim);cases hy:ρ y<;>rw[hy]at h<;>(try exact h.elim);exact hK _ h
 case un op x=>simp only[ev]at h ⊢;cases op<;>cases hx:ρ x<;>rw[hx]at h<;>first|exact h.elim|exact hK _ h
 case Ou k x=>simp only[ev]at h ⊢;cases hx:ρ x<;>rw[hx]at h<;>first|exact h.elim|exact hK _ h
 case six x y=>
  simp only[ev]at h ⊢;cases hx:ρ x<;>rw[hx]at h<;>(try exact h.elim);cases hy:ρ y<;>rw[hy]at h<;>(try exact h.elim);exact c h
 case idx sz x y=>
  simp only[ev]at h ⊢;cases hx:ρ x<;>rw[hx]at h<;>(try exact h.elim);all_goals
   cases hy:ρ y<;>rw[hy]at h<;>(try exact h.elim)
   exact c h
 case zT off p=>simp only[ev]at h ⊢;cases hx:ρ p<;>rw[hx]at h<;>first|exact h.elim|exact hK _ h
 case sub sz x lo hi=>
  simp only[ev]at h ⊢;cases hx:ρ x<;>rw[hx]at h<;>(try exact h.elim);case kn u y=>
   cases u<;>(try exact h.elim);cases y<;>(try exact h.elim);cases hl:lo.map ρ<;>cases hh:hi.map ρ<;>rw[hl,hh]at h<;>(try exact h.elim);rename_i v;cases v<;>first|exact h.elim|exact c h
  all_goals
   simp only[]at h ⊢
   cases hl:lo.map ρ<;>cases hh:hi.map ρ<;>rw[hl,hh]at h<;>(try simp only[]at h ⊢)
   all_goals first
    |exact c h
    |exact hK _ h
    |(rename_i v;cases v<;>first|exact h.elim|exact c h)
    |(rename_i v v';cases v<;>cases v'<;>first|exact h.elim|exact c h)
 case len x=>simp only[ev]at h ⊢;cases hx:ρ x<;>rw[hx]at h<;>first|exact h.elim|exact hK _ h
 case nc x=>simp only[ev]at h ⊢;cases hx:ρ x<;>rw[hx]at h<;>first|exact h.elim|exact hK _ h
 case ext x i=>simp only[ev]at h ⊢;cases hx:ρ x<;>rw[hx]at h<;>first|exact h.elim|exact c h|(cases i<;>first|exact hK _ h|exact c h)
 case mm m x y=>
  simp only[ev]at h ⊢;cases hx:ρ x<;>rw[hx]at h<;>(try exact h.elim);cases hy:ρ y<;>rw[hy]at h<;>(try exact h.elim);exact c h
theorem PE{F G:Nat→List V→V→Prop}{ρ:X→V}{ob:Nat→Option Ob}{id:Nat}{v:V}{up:List (Nat×Option Ob)}{o:a_}(ht:o.J8=false)(h:ev F G ρ ob id (fun v' up'=>v'=v∧up'=up) o):up=[]:=by
 obtain⟨v',up',h1,h2⟩:=FB (by cases o<;>first|rfl|cases ht) (K:=fun v' up'=>up'=up∧up'=[]) (L9 ht (fun v' e=>⟨e.2,rfl⟩) h);rw[←h1.1,h1.2]
theorem v_{ob:Nat→Option Ob}{v:V}{j:Nat}{x:Option Ob}(h:(j,x)∈eF ob v):v.ref=some j:=by
 cases v<;>simp only[eF]at h<;>(try cases h);all_goals
  split at h
  ·simp only[List.mem_singleton,Prod.mk.injEq]at h;rw[h.1];rfl
  ·cases h
theorem PG{F G:Nat→List V→V→Prop}{ρ:X→V}{ob:Nat→Option Ob}{id:Nat}{v:V}{up:List (Nat×Option Ob)}{o:a_}(hm:o.mut=true)(h:ev F G ρ ob id (fun v' up'=>v'=v∧up'=up) o):
 ∀j x,(j,x)∈up→j=id∨∃y,y∈o.xs∧(ρ y).ref=some j:=by
 intro j x hj
 cases o<;>simp[a_.mut]at hm
 case st n p q=>
  simp only[ev]at h;cases hx:ρ p<;>rw[hx]at h<;>(try exact h.elim);rename_i i k;simp only[]at h;cases hoj:ob i<;>rw[hoj]at h<;>(try exact h.elim);obtain⟨_,_,e⟩:=h;subst e;right;rcases List.mem_cons.1 hj with e|hj
  ·cases e;exact⟨p,by simp[a_.xs],by rw[hx];rfl⟩
  ·exact⟨q,by simp[a_.xs],v_ hj⟩
 case stk p q=>
  simp only[ev]at h;cases hx:ρ p<;>rw[hx]at h<;>(try exact h.elim);rename_i i k;simp only[]at h;cases hoj:ob i<;>rw[hoj]at h<;>(try exact h.elim);obtain⟨_,_,e⟩:=h;subst e;right;rcases List.mem_cons.1 hj with e|hj
  ·cases e;exact⟨p,by simp[a_.xs],by rw[hx];rfl⟩
  ·cases hj
 case app e sz b s q=>
  simp only[ev]at h;cases hx:ρ s<;>rw[hx]at h<;>(try exact h.elim)
  ·rename_i a i m;cases hy:rd ob sz (yQ (ρ q))<;>rw[hy]at h<;>(try exact h.elim);simp only[]at h;cases hoj:ob i<;>rw[hoj]at h<;>(try exact h.elim);obtain⟨_,_,e⟩:=h;subst e;rcases List.mem_cons.1 hj with e|hj
   ·cases e;exact .inr ⟨s,by simp[a_.xs],by rw[hx];rfl⟩
   ·rcases List.mem_cons.1 hj with e|hj
    ·cases e;exact .inl rfl
    ·cases hj
  ·cases hy:rd ob sz (yQ (ρ q))<;>rw[hy]at h<;>(try exact h.elim);obtain⟨_,_,e⟩:=h;subst e;rcases List.mem_cons.1 hj with e|hj
   ·cases e;exact .inl rfl
   ·cases hj
 case Ov z ps=>
  simp only[ev]at h;obtain⟨_,_,e⟩:=h;subst e;obtain⟨p,hp,hp2⟩:=List.mem_flatMap.1 hj;exact .inr ⟨p.2.2,List.mem_map.2 ⟨p,hp,rfl⟩,v_ hp2⟩
 case Dz e sz n z ps=>
  simp only[ev]at h;obtain⟨_,_,e2⟩:=h;rw[←e2]at hj;rcases List.mem_cons.1 hj with e3|hj
  ·cases e3;exact .inl rfl
  ·obtain⟨p,hp,hp2⟩:=List.mem_flatMap.1 hj;exact .inr ⟨p.2,List.mem_map.2 ⟨p,hp,rfl⟩,v_ hp2⟩
 case call f args=>
  simp only[ev]at h;obtain⟨_,n,r,_,h⟩:=h;have key:∀(b:Bool) (up':List (Nat×Option Ob)),up'=(if b then args.flatMap fun p=>eF ob (ρ p.2)else[])→(j,x)∈up'→∃y,y∈(a_.call f args).xs∧(ρ y).ref=some j:=fun b up' e hj'=>by
   subst e;cases b
   ·cases hj'
   ·obtain⟨p,hp,hp2⟩:=List.mem_flatMap.1 hj';exact⟨p.2,List.mem_map.2 ⟨p,hp,rfl⟩,v_ hp2⟩
  cases r;case o e sz cs=>
   obtain⟨_,_,e2⟩:=h;rw[←e2]at hj;rcases List.mem_cons.1 hj with e|hj
   ·cases e;exact .inl rfl
   ·exact .inr (key _ _ rfl hj)
  case mu y cs=>exact h.elim
  case fr y=>
   obtain⟨_,e2⟩:=h;rw[←e2]at hj;cases hj
  case to e sz cs rs=>
   obtain⟨_,e2⟩:=h;rw[←e2]at hj;rcases List.mem_cons.1 hj with e|hj
   ·cases e;exact .inl rfl
   ·exact .inr (key _ _ rfl hj)
  all_goals
   obtain⟨_,e2⟩:=h
   exact .inr (key _ _ e2.symm hj)
 case oU f m args=>
  simp only[ev]at h;cases hx:(args[m]?).map (fun p=>ρ p.2)with
  |none=>rw[hx]at h;exact h.elim
  |some v=>
   rw[hx]at h;cases v<;>simp only[]at h<;>(try exact h.elim);rename_i z i n;cases hoj:ob i with
   |none=>rw[hoj]at h;exact h.elim
   |some o=>
    rw[hoj]at h;obtain⟨_,r,cs',_,_,_,e⟩:=h;subst e;obtain⟨p,hp,hpe⟩:=Option.map_eq_some_iff.1 hx;right;rcases List.mem_cons.1 hj with e|hj
    ·cases e;exact⟨p.2,List.mem_map.2 ⟨p,List.mem_of_getElem? hp,rfl⟩,by rw[hpe];rfl⟩
    ·obtain⟨q,hq,hq2⟩:=List.mem_flatMap.1 hj;exact⟨q.2,List.mem_map.2 ⟨q,List.mem_of_mem_eraseIdx hq,rfl⟩,v_ hq2⟩
 case J3 sz s q=>
  simp only[ev]at h;cases hx:vP (ρ s)<;>rw[hx]at h<;>(try exact h.elim);rename_i a i off m;cases hy:rd ob sz (ρ q)<;>rw[hy]at h<;>(try exact h.elim);simp only[]at h;cases hoj:ob i<;>rw[hoj]at h<;>(try exact h.elim);obtain⟨_,_,e⟩:=h;subst e;rcases List.mem_cons.1 hj with e|hj
  ·cases e;exact .inr ⟨s,by simp[a_.xs],Fz hx⟩
  ·cases hj
theorem qp{n:Nat}:∀{xs:List X},X.t n∈xs→n∈fG xs
 |[],h=>by cases h
 |x::r,h=>by
  rcases List.mem_cons.1 h with e|h'
  ·subst e;exact List.mem_cons_self
  ·cases x<;>simp only[fG]
   ·exact List.mem_cons_of_mem _ (qp h')
   ·exact qp h'
theorem wC{F G:Nat→List V→V→Prop}{o:AO}{s:St}{r:Rc}(hnr:oH o.op.xs=true)(h:Did F G o s r):∀j x,(j,x)∈r.up→o.op.J8=true∧(j=s.nx∨(o.op.mut=true∧∃n,n∈fG o.op.xs∧(s.get n).ref=some j)):=by
 intro j x hj;obtain⟨hd,hgv,href,hup⟩:=h;have run:ev F G s.val s.ob s.nx (fun v up=>v=r.v∧up=r.up) o.op→o.op.J8=true∧(j=s.nx∨(o.op.mut=true∧∃n,n∈fG o.op.xs∧(s.get n).ref=some j)):=fun he=>by
  refine⟨?_,?_⟩
  ·cases ht:o.op.J8 with
   |true=>rfl
   |false=>rw[PE ht he]at hj;cases hj
  ·cases hm:o.op.mut with
   |false=>
    rw[hm]at hup;simp only[Bool.false_or]at hup;have:=List.all_eq_true.1 hup _ hj;left;simpa using this
   |true=>
    rcases PG hm he j x hj with h1|⟨y,h1,h2⟩
    ·exact .inl h1
    ·refine .inr ⟨rfl,?_⟩;cases y with
     |t n=>exact⟨n,qp h1,h2⟩
     |k v=>
      exfalso;have gen:∀xs:List X,oH xs=true→X.k v∈xs→v.ref=none:=fun xs=>by
       induction xs with
       |nil=>intro _ h;cases h
       |cons x r ih=>
        intro h hx;rcases List.mem_cons.1 hx with e|hx'
        ·subst e;simp only[oH,Bool.and_eq_true]at h;simpa using h.1
        ·cases x<;>simp only[oH,Bool.and_eq_true]at h
         ·exact ih h hx'
         ·exact ih h.2 hx'
      have h3:v.ref=some j:=h2;rw[gen _ hnr h1]at h3;cases h3
 have skip:r.v= .un∧r.up=[]→o.op.J8=true∧(j=s.nx∨(o.op.mut=true∧∃n,n∈fG o.op.xs∧(s.get n).ref=some j)):=fun he=>by rw[he.2]at hj;cases hj
 cases hg:o.gd with
 |none=>rw[hg]at hgv;exact run hgv
 |some tw=>
  obtain⟨t,want⟩:=tw;rw[hg]at hgv;cases want<;>simp only[gv]at hgv;all_goals
   cases hx:s.get t<;>rw[hx]at hgv<;>(try exact hgv.elim)
  case false.b x=>
   cases x
   ·exact run (hgv.2 rfl)
   ·exact skip (hgv.1 rfl)
  case true.b x=>
   cases x
   ·exact skip (hgv.2 rfl)
   ·exact run (hgv.1 rfl)
  case false.un=>exact skip hgv
  case true.un=>exact skip hgv
theorem PH:∀(rs:List Rc) (e:Nat→V) (nx:Nat),(∀t j,(e t).ref=some j→j<nx)→(∀(k:Nat) (r:Rc),rs[k]? =some r→r.v.eU (nx+k)=true)→∀t j,(eM e rs (List.replicate rs.length true) t).ref=some j→j<nx+rs.length
 |[],e,nx,h,_,t,j,hj=>h t j hj
 |r::rs,e,nx,h,h',t,j,hj=>by
  simp only[List.length_cons,List.replicate_succ,eM,if_true]at hj;have:=PH rs (xK e r.dst r.v) (nx+1) (fun t j hj=>?_) (fun k q hq=>by have:=h' (k+1) q (by simpa using hq);rw[show nx+1+k=nx+(k+1)from om];exact this) t j hj
  ·simp;omega
  ·have h0:=h' 0 r rfl;have e0:∀v:V,v.eU (nx+0)=true→v.ref=some j→j<nx+1:=fun v h1 h2=>by
    cases v<;>simp[V.ref]at h2<;>(subst h2;simp[V.eU]at h1;omega)
   cases hd:r.dst with
   |none=>rw[hd]at hj;have:=h t j hj;omega
   |some d=>
    rw[hd]at hj;simp only[xK]at hj;split at hj
    ·exact e0 _ h0 hj
    ·have:=h t j hj;omega
end
end Go.Proofs.YtcgfgifjkkmmcaaGreatDoor.Ab
namespace Go.Proofs.YtcgfgifjkkmmcaaGreatDoor.Ab
open Go Go.RowKit
theorem FD{o:AO}{n:Nat}(h:X.t n∈o.op.xs):n∈o.looks:=by
 have:∀xs:List X,X.t n∈xs→n∈fG xs:=fun xs=>by
  induction xs with
  |nil=>intro h;cases h
  |cons x r ih=>
   intro h;rcases List.mem_cons.1 h with e|h'
   ·subst e;exact List.mem_cons_self
   ·cases x<;>simp only[fG]
    ·exact List.mem_cons_of_mem _ (ih h')
    ·exact ih h'
 exact List.mem_append.2 (.inr (this _ h))
theorem PI{xs:List X}(h:oH xs=true){v:V}(hx:X.k v∈xs):v.ref=none:=by
 induction xs with
 |nil=>cases hx
 |cons x r ih=>
  rcases List.mem_cons.1 hx with e|hx'
  ·subst e;simp only[oH,Bool.and_eq_true]at h;simpa using h.1
  ·cases x<;>simp only[oH,Bool.and_eq_true]at h
   ·exact ih h hx'
   ·exact ih h.2 hx'
theorem jE{cf:List (Nat×Nat)}{o p:AO}(h:xM cf o p=true):
 (∀d,o.dst=some d→d ∉ p.looks∧p.dst≠some d)∧(∀d,p.dst=some d→d ∉ o.looks)∧
 (((o.op.mut=true∧p.op.J8=true)∨(p.op.mut=true∧o.op.J8=true))→∀x y,x∈fG o.op.xs→y∈fG p.op.xs→(x,y)∈cf):=by
 unfold xM at h
 simp only[Bool.and_eq_true]at h
 obtain⟨⟨h1,h2⟩,h3⟩:=h
 refine⟨fun d hd=>?_,fun d hd=>?_,fun hm x y hx hy=>?_⟩
 ·rw[hd]at h1;simp at h1;exact h1
 ·rw[hd]at h2;simp at h2;exact h2
 ·simp only[Bool.or_eq_true]at h3;rcases h3 with h3|h3
  ·simp only[Bool.and_eq_true,Bool.not_eq_true']at h3;rcases hm with ⟨h4,h5⟩|⟨h4,h5⟩
   ·rw[h4,h5]at h3;simp at h3
   ·rw[h4,h5]at h3;simp at h3
  ·have:=List.all_eq_true.1 (List.all_eq_true.1 h3 x hx) y hy;simpa using this
theorem FH{cf:List (Nat×Nat)}{al:List AO}(h:stable cf al=true){i k:Nat}{o p:AO}(hik:i≤k)(hi:al[i]? =some o)(hk:al[k]? =some p){n:Nat}(hn:n∈fG o.op.xs){q:Nat×Nat}(hq:q∈cf)(hqn:q.1=n∨q.2=n):p.dst≠some n:=by
 intro hd;unfold stable at h;have hlt:k<al.length:=(List.getElem?_eq_some_iff.1 hk).1;have h1:=List.all_eq_true.1 (List.all_eq_true.1 h k (List.mem_range.2 hlt)) i (List.mem_range.2 om);rw[hi,hk]at h1;simp only[hd]at h1;have hc:(cf.any fun q=>q.1==n||q.2==n)=true:=List.any_eq_true.2 ⟨q,hq,by simpa using hqn⟩;rw[hc]at h1;simp[hn]at h1
section
variable {P:Program} {J:World→Prop} {w0:World} {H0:HS} {N:Nat} {ops:Array Oper} {al:List AO} {Q:Exit→Act→World→Prop} {s:St} {rs:List Rc} {cf:List (Nat×Nat)}
structure Inv(P:Program)(w0:World)(H0:HS)(N:Nat)(ops:Array Oper)(al:List AO)(s:St)(rs:List Rc)(listed:Array Bool)(a:Act)(w:World)(H:Nat→Prop)(ov:Nat→Option Value):Prop where
 len:listed.size=ops.size
 down:∀(k:Nat) (o:Oper),listed[k]? =some true→ops[k]? =some o→∀e,e∈o.after.toList→Region.binds .any e=true→listed[e.on]? =some true
 mem:Mem w0 H0 w H ov (oM s.ob rs listed.toList)
 env:∀t,Rep w H ov (a.tmps.getD t undef) (eM s.get rs listed.toList t)
 EZ:a.tmps.size=N
 BZ:a.defers=[]
 kp:∀m v,(m,v)∈H0.kp→a.tmps.getD m undef=v
 PK:∀i,i<ops.size→listed[i]? =some false→ov (s.nx+i)=none
 PL:∀id,s.nx+ops.size≤id→ov id=none
 refs:∀(k:Nat) (o:AO),listed[k]? =some true→al[k]? =some o→∀n,n∈fG o.op.xs→∀m,listed[m]? =some false→((gW s (rs.take k)).get n).ref≠some (s.nx+m)
theorem L_{w:World}{H:Nat→Prop}{ov:Nat→Option Value}{a:Act}{j t:Nat}{v:V}(hj:(ops[j]?).bind (·.dst)=some t)(h:Rep w H ov (a.tmps.getD t undef) v):(∀x,v= .b x→yielded ops a.tmps j=some x)∧(v= .un→yielded ops a.tmps j=none):=by
 have e:yielded ops a.tmps j=match (a.tmps[t]? :Option Value)with|some (.bool b)=>some b|_=>none:=by
  unfold yielded;rw[hj];rfl
 constructor
 ·intro x hx;rw[hx]at h;have h1:=h.lK;rw[e];simp only[Array.getD_eq_getD_getElem?]at h1;cases h2:a.tmps[t]? with
  |none=>rw[h2]at h1;simp[undef]at h1
  |some v=>rw[h2]at h1;simp at h1;subst h1;rfl
 ·intro hx;rw[hx]at h;have h1:=h.O4;rw[e];simp only[Array.getD_eq_getD_getElem?]at h1;cases h2:a.tmps[t]? with
  |none=>rfl
  |some v=>rw[h2]at h1;simp at h1;subst h1;rfl
theorem Mc{w:World}{H:Nat→Prop}{ov:Nat→Option Value}{a:Act}{s':St}{o:Oper}{g:Option (Nat×Bool)}(hg:cG ops o.guard=some g)(hr:∀t b,g=some (t,b)→Rep w H ov (a.tmps.getD t undef) (s'.get t)){run skip:Prop}(h:gv g s' run skip):
 (Region.wanted o (yielded ops a.tmps)=true∧run)∨(Region.wanted o (yielded ops a.tmps)=false∧skip):=by
 unfold Region.wanted
 cases hgd:o.guard with
 |none=>rw[hgd]at hg;simp only[cG,Option.some.injEq]at hg;subst hg;exact .inl ⟨rfl,h⟩
 |some jw=>
  obtain⟨j,want⟩:=jw;rw[hgd]at hg;simp only[cG]at hg;split at hg
  ·rename_i t ht;simp only[Option.some.injEq]at hg;subst hg;obtain⟨y1,y2⟩:=L_ (ops:=ops) ht (hr t want rfl);simp only[];cases want<;>simp only[gv]at h
   ·cases hx:s'.get t<;>rw[hx]at h<;>simp only[]at h;case b x=>
     rw[y1 x hx];cases x
     ·exact .inl ⟨rfl,h.2 rfl⟩
     ·exact .inr ⟨rfl,h.1 rfl⟩
    case un=>rw[y2 hx];exact .inr ⟨rfl,h⟩
   ·cases hx:s'.get t<;>rw[hx]at h<;>simp only[]at h;case b x=>
     rw[y1 x hx];cases x
     ·exact .inr ⟨rfl,h.2 rfl⟩
     ·exact .inl ⟨rfl,h.1 rfl⟩
    case un=>rw[y2 hx];exact .inr ⟨rfl,h⟩
  ·cases hg
theorem FK(YA:∀(k:Nat) (o:Oper),ops.toList[k]? =some o→∀e,e∈o.after.toList→Region.binds .any e=true→e.on<k){k:Nat}{o:Oper}(hk:ops.toList[k]? =some o):(rC ops.toList []).getD k 0=xN (rC ops.toList []) o.after.toList:=by
 have:=FC ops.toList [] k o hk (fun e h1 h2=>by have:=YA k o hk e h1 h2;simp;exact this);simpa using this
theorem FM(YA:∀(k:Nat) (o:Oper),ops.toList[k]? =some o→∀e,e∈o.after.toList→Region.binds .any e=true→e.on<k){listed:Array Bool}
 (down:∀(k:Nat) (o:Oper),listed[k]? =some true→ops[k]? =some o→∀e,e∈o.after.toList→Region.binds .any e=true→listed[e.on]? =some true) (hlen:listed.size=ops.size):
 ∀k i,listed[k]? =some true→((rC ops.toList []).getD k 0).testBit i=true→listed[i]? =some true:=by
 intro k
 induction k using Nat.strongRecOn with
 |_ k ih=>
  intro i hk hb;have hlt:k<ops.size:=by rw[←hlen];exact(Array.getElem?_eq_some_iff.1 hk).1
  have ho:ops.toList[k]? =some ops[k]:=by simp[hlt]
  rw[FK YA ho]at hb;obtain⟨e,h1,h2,h3⟩:=tH hb;have hon:=down k ops[k] hk (by simp[hlt]) e h1 h2;rcases h3 with h3|h3
  ·rw[h3];exact hon
  ·exact ih e.on (YA k _ ho e h1 h2) i hon h3
theorem Md(hJs:∀w',aI w0 H0.e w'→J w')(hcR:UF P N ops ops.toList=some al)(hdr:xO cf ops.toList al=true)(hcf:jy (gW s rs) cf)(hnk:∀o,o∈al→nkp H0 o.dst)(hT:Trc (ah P J) (iJ P) al s rs)(PM:∀t j,(s.get t).ref=some j→j<s.nx)
 (hQ:∀w' H' bJ a',Conc w0 H0 w' H' bJ N a' (gW s rs)→Q .normal a' w'):
 ∀(fuel:Nat) (listed:Array Bool) (a:Act) (w:World) (H:Nat→Prop) (ov:Nat→Option Value),(listed.toList.filter (· ==false)).length≤fuel→Inv P w0 H0 N ops al s rs listed a w H ov→wpAny P .any ops Q fuel listed a w:=by
 obtain⟨hlen,hget⟩:=DK hcR
 obtain⟨hrl,hrs⟩:=DL hT
 have qw:rs.length=ops.size:=by rw[hrl,←hlen];simp
 unfold xO at hdr
 simp only[Bool.and_eq_true,List.all_eq_true,List.mem_range,Array.length_toList]at hdr
 obtain⟨⟨hnr0,hst⟩,hdr⟩:=hdr
 have hnr:=fun x hx=>(hnr0 x hx).1
 have YA:∀(k:Nat) (o:Oper),ops.toList[k]? =some o→∀e,e∈o.after.toList→Region.binds .any e=true→e.on<k:=fun k o hk e h1 h2=>by
  have hlt:k<ops.size:=by simpa using(List.getElem?_eq_some_iff.1 hk).1
  have:=(hdr k hlt).1;rw[hk]at this;have:=List.all_eq_true.1 this e h1;simpa[h2]using this
 have YB:∀k i,k<ops.size→i<k→((rC ops.toList []).getD k 0).testBit i=false→∃o p,al[i]? =some o∧al[k]? =some p∧xM cf o p=true:=fun k i hk hi hb=>by
  have:=(hdr k hk).2 i hi;rw[hb]at this;simp only[Bool.false_or]at this;split at this
  ·rename_i o p h1 h2;exact⟨o,p,h1,h2,this⟩
  ·cases this
 have PN:∀(k:Nat),k<ops.size→∃o p g r,ops[k]? =some o∧al[k]? =some ⟨o.dst,g,p⟩∧O3 P o.op=some p∧cG ops o.guard=some g∧Yx N o.dst=true∧rs[k]? =some r∧Did (ah P J) (iJ P) ⟨o.dst,g,p⟩ (gW s (rs.take k)) r:=fun k hk=>by
  have ho:ops.toList[k]? =some ops[k]:=by simp[hk]
  obtain⟨p,g,h1,h2,h3,h4⟩:=hget k _ ho;obtain⟨r,h5,h6⟩:=hrs k _ h1;exact⟨ops[k],p,g,r,by simp[hk],h1,h2,h3,h4,h5,h6⟩
 have hnx:∀k,k≤ops.size→(gW s (rs.take k)).nx=s.nx+k:=fun k hk=>by
  rw[(kD (rs.take k) s).2.2,List.length_take,qw];omega
 have zh:∀k,k≤ops.size→(rs.take k).length=k:=fun k hk=>by rw[List.length_take,qw];omega
 have PQ:∀{k:Nat} {o:AO} {n:Nat} {q:Nat×Nat},q∈cf→(q.1=n∨q.2=n)→al[k]? =some o→n∈fG o.op.xs→(gW s (rs.take k)).get n=(gW s rs).get n:=fun {k o n q} hq hqn hk hn=>by
  have hst':stable cf al=true:=by
   cases cf with
   |nil=>cases hq
   |cons=>simpa using hst
  have uS:k<ops.size:=by rw[←qw,hrl];exact(List.getElem?_eq_some_iff.1 hk).1
  rw[(kD (rs.take k) s).1,(kD rs s).1,zh k om];symm;refine DJ rs _ k _ _ n sy rfl (fun k' q _ h1 h2=>?_) (fun k' q h1 h2 _ he=>?_)
  ·rw[List.getElem?_replicate]at h2;split at h2<;>cases h2
  ·have hk':k'<ops.size:=by rw[←qw];exact(List.getElem?_eq_some_iff.1 h2).1
   obtain⟨o',p',g',r',_,hal',_,_,_,hr',hd'⟩:=PN k' hk';rw[h2]at hr';cases hr';exact FH hst' h1 hk hal' hn hq hqn (by rw[←hd'.1];exact he)
 have clash:∀{i k:Nat} {o p:AO} {x y j:Nat},al[i]? =some o→al[k]? =some p→(x,y)∈cf→x∈fG o.op.xs→y∈fG p.op.xs→((gW s (rs.take i)).get x).ref=some j→((gW s (rs.take k)).get y).ref=some j→False:=fun {i k o p x y j} h1 h2 h3 h4 h5 h6 h7=>by
  rw[PQ h3 (.inl rfl) h1 h4]at h6;rw[PQ h3 (.inr rfl) h2 h5]at h7;exact Ad hcf h3 h6 h7
 have YC:∀{k:Nat} {n j:Nat},k≤ops.size→((gW s (rs.take k)).get n).ref=some j→j<s.nx+k:=fun {k n j} hk hj=>by
  rw[(kD (rs.take k) s).1]at hj;have:=PH (rs.take k) s.get s.nx PM (fun k' r' hr'=>by
   have hk':k'<k:=by
    have:=(List.getElem?_eq_some_iff.1 hr').1;rw[zh k hk]at this;exact this
   rw[List.getElem?_take,if_pos hk']at hr';obtain⟨_,_,_,r2,_,_,_,_,_,h5,h6⟩:=PN k' om;rw[hr']at h5;cases h5;have:=h6.2.2.1;rw[hnx k' om]at this;exact this) n j hj
  rwa[zh k hk]at this
 have fin:∀(listed:Array Bool) (a:Act) (w:World) (H:Nat→Prop) (ov:Nat→Option Value),Inv P w0 H0 N ops al s rs listed a w H ov→(∀i,i<ops.size→listed[i]? =some true)→Q .normal a w:=fun listed a w H ov inv hall=>by
  have e:listed.toList=List.replicate rs.length true:=by
   apply List.ext_getElem?;intro i;by_cases hi:i<ops.size
   ·have:=hall i hi;rw[Array.getElem?_toList,this,List.getElem?_replicate,if_pos om]
   ·rw[List.getElem?_eq_none (by simp[inv.len];omega),List.getElem?_eq_none (by simp[qw];omega)]
  obtain⟨e1,e2,e3⟩:=kD rs s;refine hQ w H ov a ⟨?_,inv.EZ,inv.BZ,inv.kp,fun t=>?_,fun id hid=>inv.PL id (by rw[e3,qw]at hid;exact hid)⟩
  ·rw[e2,←e];exact inv.mem
  ·rw[e1,←e];exact inv.env t
 have PR:∀(listed:Array Bool),listed.size=ops.size→∀i,i<ops.size→listed[i]? =some false→(∀j,j<i→listed[j]? =some true)→i∈Region.ready .any ops listed:=fun listed hl i hi hf hb=>by
  unfold Region.ready;refine List.mem_filter.2 ⟨List.mem_range.2 hi,?_⟩;have h1:listed.getD i true=false:=by simp[Array.getD_eq_getD_getElem?,hf]
  rw[h1];simp only[Bool.not_false,Bool.true_and];rw[Array.getElem?_eq_getElem hi];simp only[Option.map_some,Option.getD_some];rw[Array.all_eq_true];intro q hq;have hm:ops[i].after[q]∈ops[i].after.toList:=sy;cases hbd:Region.binds .any ops[i].after[q]with
  |false=>simp
  |true=>
   have:=YA i ops[i] (by simp[hi]) _ hm hbd;simp[Array.getD_eq_getD_getElem?,hb _ this]
 have H_:∀(listed:Array Bool),listed.size=ops.size→Region.ready .any ops listed=[]→∀i,i<ops.size→listed[i]? =some true:=fun listed hl hr=>by
  intro i;induction i using Nat.strongRecOn with
  |_ i ih=>
   intro hi;have hlt:i<listed.size:=om;cases hv:listed[i]
   ·have:=PR listed hl i hi (by rw[Array.getElem?_eq_getElem hlt,hv]) (fun j hj=>ih j hj om);rw[hr]at this;cases this
   ·rw[Array.getElem?_eq_getElem hlt,hv]
 intro fuel
 induction fuel with
 |zero=>
  intro listed a w H ov hf inv;have hall:∀i,i<ops.size→listed[i]? =some true:=fun i hi=>by
   have hlt:i<listed.size:=by rw[inv.len];exact hi
   cases hv:listed[i]
   ·exfalso;have:false∈listed.toList.filter (· ==false):=List.mem_filter.2 ⟨by rw[←hv];simp,rfl⟩;have h0:(listed.toList.filter (· ==false)).length=0:=om;rw[List.length_eq_zero_iff]at h0;rw[h0]at this;cases this
   ·rw[Array.getElem?_eq_getElem hlt,hv]
  refine⟨?_,fin listed a w H ov inv hall⟩;unfold Region.ready;rw[List.filter_eq_nil_iff];intro i hi;have:=hall i (List.mem_range.1 hi);simp[Array.getD_eq_getD_getElem?,this]
 |succ fuel ih=>
  intro listed a w H ov hf inv;refine⟨fun hr=>fin listed a w H ov inv (H_ listed inv.len hr),fun i hi=>?_⟩;unfold Region.ready at hi;obtain⟨hi1,hi2⟩:=List.mem_filter.1 hi;have hilt:i<ops.size:=List.mem_range.1 hi1;simp only[Bool.and_eq_true]at hi2;obtain⟨hnl,hpre⟩:=hi2;have hlt':i<listed.size:=by rw[inv.len];exact hilt
  have hif:listed[i]? =some false:=by
   rw[Array.getElem?_eq_getElem hlt'];simp only[Array.getD_eq_getD_getElem?,Array.getElem?_eq_getElem hlt',Option.getD_some]at hnl;simpa using hnl
  obtain⟨o,p,g,r,ho,hal,hcp,hcg,hdd,hri,hdi⟩:=PN i hilt;rw[ho]at hpre;simp only[Option.map_some,Option.getD_some]at hpre;have hpre':∀e,e∈o.after.toList→Region.binds .any e=true→listed[e.on]? =some true:=fun e h1 h2=>by
   obtain⟨q,hq,rfl⟩:=List.getElem_of_mem h1;have:=Array.all_eq_true.1 hpre q (by simpa using hq);simp only[Array.getElem_toList]at h2 ⊢;rw[h2]at this;simp only[Bool.not_true,Bool.false_or]at this;rw[Array.getD_eq_getD_getElem?]at this;cases hx:listed[o.after[q].on]? with
   |none=>rw[hx]at this;simp at this
   |some x=>rw[hx]at this;simp at this;rw[this]
  have closed:=FM YA inv.down inv.len;have PT:∀k,((rC ops.toList []).getD i 0).testBit k=true→listed[k]? =some true:=fun k hb=>by
   rw[FK YA (by rw[Array.getElem?_toList];exact ho)]at hb;obtain⟨e,h1,h2,h3⟩:=tH hb;rcases h3 with h3|h3
   ·rw[h3];exact hpre' e h1 h2
   ·exact closed e.on k (hpre' e h1 h2) h3
  have Ko:∀k q,k<i→rs[k]? =some q→listed[k]? =some false→∃o' p' g',al[k]? =some ⟨o',g',p'⟩∧q.dst=o'∧xM cf ⟨o',g',p'⟩ ⟨o.dst,g,p⟩=true∧Did (ah P J) (iJ P) ⟨o',g',p'⟩ (gW s (rs.take k)) q:=fun k q hk hq hkf=>by
   obtain⟨o',p',g',r',_,hal',_,_,_,hr',hd'⟩:=PN k om;have hb:((rC ops.toList []).getD i 0).testBit k=false:=by
    cases hx:((rC ops.toList []).getD i 0).testBit k
    ·rfl
    ·have:=PT k hx;rw[hkf]at this;cases this
   obtain⟨x,y,h1,h2,h3⟩:=YB i k hilt hk hb;rw[hal']at h1;rw[hal]at h2;cases h1;cases h2;rw[hq]at hr';cases hr';exact⟨o'.dst,p',g',hal',hd'.1,h3,hd'⟩
  have zi:∀k q,i<k→rs[k]? =some q→listed[k]? =some true→∃o' p' g',al[k]? =some ⟨o',g',p'⟩∧q.dst=o'∧xM cf ⟨o.dst,g,p⟩ ⟨o',g',p'⟩=true∧Did (ah P J) (iJ P) ⟨o',g',p'⟩ (gW s (rs.take k)) q:=fun k q hk hq hkt=>by
   have uS:k<ops.size:=by rw[←inv.len];exact(Array.getElem?_eq_some_iff.1 hkt).1
   obtain⟨o',p',g',r',_,hal',_,_,_,hr',hd'⟩:=PN k uS;have hb:((rC ops.toList []).getD k 0).testBit i=false:=by
    cases hx:((rC ops.toList []).getD k 0).testBit i
    ·rfl
    ·have:=closed k i hkt hx;rw[hif]at this;cases this
   obtain⟨x,y,h1,h2,h3⟩:=YB k i uS hk hb;rw[hal]at h1;rw[hal']at h2;cases h1;cases h2;rw[hq]at hr';cases hr';exact⟨o'.dst,p',g',hal',hd'.1,h3,hd'⟩
  obtain⟨hdst,hgv,href,hupd⟩:=hdi;simp only at hdst hgv hupd;have Ia:listed.toList[i]? =some false:=by rw[Array.getElem?_toList];exact hif
  have hll:listed.toList.length=rs.length:=by simp[inv.len,qw]
  obtain⟨e1,e2,e3⟩:=kD (rs.take i) s;rw[zh i om]at e1 e2;have slot:∀t,t∈(⟨o.dst,g,p⟩:AO).looks→eM s.get rs listed.toList t=(gW s (rs.take i)).get t:=fun t ht=>by
   rw[e1];refine DJ rs listed.toList i _ _ t hll rfl (fun k q hk hq hm he=>?_) (fun k q hk hq hm he=>?_)
   ·rw[Array.getElem?_toList]at hm;obtain⟨o',p',g',_,Yo,hcm,_⟩:=Ko k q hk hq hm;have:=(jE hcm).1 t (by rw[←Yo];exact he);exact this.1 ht
   ·rw[Array.getElem?_toList]at hm;rcases Nat.lt_or_ge i k with hik|hik
    ·obtain⟨o',p',g',_,Yo,hcm,_⟩:=zi k q hik hq hm;exact(jE hcm).2.1 t (by rw[←Yo];exact he) ht
    ·have:k=i:=om;subst this;rw[hif]at hm;cases hm
  have hnxi:=hnx i om;have PU:oM s.ob rs listed.toList (s.nx+i)=none:=by
   cases hx:oM s.ob rs listed.toList (s.nx+i)with
   |none=>rfl
   |some ob=>
    obtain⟨v,hv,_⟩:=inv.mem.obj _ _ hx;rw[inv.PK i hilt hif]at hv;cases hv
  have ρdef:∃ρ:X→V,(∀n,ρ (.t n)=eM s.get rs listed.toList n)∧∀v,ρ (.k v)=v:=⟨fun x=>match x with| .t n=>eM s.get rs listed.toList n| .k v=>v,fun _=>rfl,fun _=>rfl⟩;obtain⟨ρ,hρt,Vt⟩:=ρdef;have hρ:∀q x,cX q=some x→Rep w H ov (a.eval q) (ρ x):=fun q x hx=>by
   have hc0:Conc w0 H0 w H ov N a {env:=[],lZ:=[],nx:=s.nx+ops.size}:=⟨⟨inv.mem.bel,inv.mem.tj,inv.mem.uk,inv.mem.low,fun id o h=>(by cases h),fun i j oi oj vi vj b hij h=>(by cases h)⟩,inv.EZ,inv.BZ,inv.kp,fun t=> .any _,inv.PL⟩;cases q with
   |tmp t=>simp only[cX,Option.some.injEq]at hx;subst hx;rw[hρt];exact inv.env t
   |const v=>have:=hc0.val (.const v) x hx;simp only[cX,Option.some.injEq]at hx;subst hx;rw[Vt];exact this
   |func f=>have:=hc0.val (.func f) x hx;simp only[cX,Option.some.injEq]at hx;subst hx;rw[Vt];exact this
   |global g=>have:=hc0.val (.global g) x hx;simp only[cX,Option.some.injEq]at hx;subst hx;rw[Vt];exact this
  have vals:∀x,x∈p.xs→(gW s (rs.take i)).val x=ρ x:=fun x hx=>by
   cases x with
   |t n=>rw[hρt,slot n (FD (o:=⟨o.dst,g,p⟩) hx)];rfl
   |k v=>rw[Vt];rfl
  have Kq:∀(cv:Value) (w':World) (H':Nat→Prop) (bJ:Nat→Option Value),Ext w H ov w' H' bJ→(∀j,j≠s.nx+i→ov j=none→bJ j=none)→Mem w0 H0 w' H' bJ (upd (oM s.ob rs listed.toList) r.up)→Rep w' H' bJ cv r.v→
   Inv P w0 H0 N ops al s rs (listed.setIfInBounds i true) (a.put o.dst cv) w' H' bJ:=fun cv w' H' bJ ik hn hmem hrep=>by
   have et:(listed.setIfInBounds i true).toList=listed.toList.set i true:=sy
   refine⟨by simp[inv.len],fun k o' hk ho' e h1 h2=>?_,?_,fun t=>?_,?_,?_,?_,fun j hj hjf=>?_,fun id hid=>hn id om (inv.PL id hid),fun k o' hk hal' n hn' m hm=>?_⟩
   ·rw[Array.getElem?_setIfInBounds]at hk ⊢;have keep:listed[e.on]? =some true→(if i=e.on then if i<listed.size then some true else none else listed[e.on]?)=some true:=fun h=>by
     by_cases h1:i=e.on
     ·rw[if_pos h1,if_pos hlt']
     ·rw[if_neg h1];exact h
    by_cases hik:i=k
    ·subst hik;rw[ho]at ho';cases ho';exact keep (hpre' e h1 h2)
    ·rw[if_neg hik]at hk;exact keep (inv.down k o' hk ho' e h1 h2)
   ·rw[et,PD rs listed.toList i s.ob r hri Ia]
    ·exact hmem
    ·intro k q hk hq hm j x y hx hy;rw[Array.getElem?_toList]at hm;obtain⟨o',p',g',hal',_,hcm,hd'⟩:=zi k q hk hq hm;have uS:k<ops.size:=by rw[←inv.len];exact(Array.getElem?_eq_some_iff.1 hm).1
     obtain⟨_,_,FN⟩:=jE hcm;simp only at FN;obtain⟨t1,k1⟩:=wC (hnr _ (List.mem_of_getElem? hal)) (⟨hdst,hgv,href,hupd⟩:Did (ah P J) (iJ P) ⟨o.dst,g,p⟩ (gW s (rs.take i)) r) j x hx;obtain⟨t2,k2⟩:=wC (hnr _ (List.mem_of_getElem? hal')) hd' j y hy;rw[hnxi]at k1;rw[hnx k om]at k2;rcases k1 with k1|⟨m1,n1,l1,r1⟩
     ·rcases k2 with k2|⟨m2,n2,l2,r2⟩
      ·omega
      ·exact inv.refs k _ hm hal' n2 l2 i hif (by rw[r2,k1])
     ·rcases k2 with k2|⟨m2,n2,l2,r2⟩
      ·have:=YC (show i≤ops.size by omega) r1;omega
      ·exact clash hal hal' (FN (.inl ⟨m1,t2⟩) n1 n2 l1 l2) l1 l2 r1 r2
   ·have hbase:Rep w' H' bJ (a.tmps.getD t undef) (eM s.get rs listed.toList t):=(inv.env t).mono ik;rw[et,Pz rs listed.toList i s.get r hri Ia]
    ·rw[hdst];cases hod:o.dst with
     |none=>exact hbase
     |some d=>
      have hdN:d<a.tmps.size:=by rw[inv.EZ];rw[hod]at hdd;simpa[Yx]using hdd
      rw[vY hdN];simp only[xK];split
      ·exact hrep
      ·exact hbase
    ·intro k q hk hq hm t' ht' he;rw[Array.getElem?_toList]at hm;obtain⟨o',p',g',_,Yo,hcm,_⟩:=zi k q hk hq hm;rw[hdst]at he;have:=(jE hcm).1 t' he;exact this.2 (by rw[←Yo];exact ht')
   ·cases hod:o.dst with
    |none=>exact inv.EZ
    |some d=>simp[Act.put,inv.EZ]
   ·cases hod:o.dst<;>exact inv.BZ
   ·intro m v hm;have hkk:=hnk _ (List.mem_of_getElem? hal) m v hm;cases hod:o.dst with
    |none=>exact inv.kp m v hm
    |some d=>
     have hdN:d<a.tmps.size:=by rw[inv.EZ];rw[hod]at hdd;simpa[Yx]using hdd
     rw[vY hdN,if_neg (fun e=>hkk (by show o.dst=_;rw[hod,e]))];exact inv.kp m v hm
   ·rw[Array.getElem?_setIfInBounds]at hjf;by_cases hij:i=j
    ·rw[if_pos hij,if_pos hlt']at hjf;cases hjf
    ·rw[if_neg hij]at hjf;exact hn _ om (inv.PK j hj hjf)
   ·have hmf:listed[m]? =some false:=by
     rw[Array.getElem?_setIfInBounds]at hm;split at hm
     ·first|(cases hm;done)|(split at hm<;>cases hm)
     ·exact hm
    rw[Array.getElem?_setIfInBounds]at hk;by_cases hik:i=k
    ·subst hik;rw[hal]at hal';cases hal';intro hj';have L6:m<ops.size:=by rw[←inv.len];exact(Array.getElem?_eq_some_iff.1 hmf).1
     have hrn:=inv.env n;rw[slot n (List.mem_append.2 (.inr hn'))]at hrn;have:ov (s.nx+m)≠none:=by
      cases hgn:(gW s (rs.take i)).get n<;>rw[hgn]at hj' hrn<;>simp[V.ref]at hj'
      ·obtain⟨_,_,_,h4,_⟩:=hrn.fD;subst hj';rw[h4];simp
      ·obtain⟨_,_,_,_,_,_,h4,_⟩:=hrn.ku;subst hj';rw[h4];simp
      ·obtain⟨_,_,_,h4,_⟩:=hrn.mZ;subst hj';rw[h4];simp
      ·obtain⟨_,_,_,_,h4,_⟩:=hrn.DD;subst hj';rw[h4];simp
     exact this (inv.PK m L6 hmf)
    ·rw[if_neg hik]at hk;exact inv.refs k o' hk hal' n hn' m hmf
  have count:((listed.setIfInBounds i true).toList.filter (· ==false)).length≤fuel:=by
   have et:(listed.setIfInBounds i true).toList=listed.toList.set i true:=sy;have gen:∀(l:List Bool) (i:Nat),l[i]? =some false→((l.set i true).filter (· ==false)).length+1=(l.filter (· ==false)).length:=fun l=>by
    induction l with
    |nil=>intro i h;simp at h
    |cons b l ihl=>
     intro i h;cases i with
     |zero=>simp at h;subst h;simp
     |succ i=>
      have:=ihl i (by simpa using h);cases b<;>simp[List.set_cons_succ,List.filter_cons]at this ⊢ <;>omega
   have:=gen listed.toList i Ia;rw[et];omega
  unfold wpOp;rw[ho];simp only[];rcases Mc (ops:=ops) (a:=a) (w:=w) (H:=H) (ov:=ov) hcg (fun t b hgt=>by
   have:t∈(⟨o.dst,g,p⟩:AO).looks:=by unfold AO.looks;rw[hgt];exact List.mem_append.2 (.inl (List.mem_singleton.2 rfl))
   rw[←slot t this];exact inv.env t) hgv with ⟨hw,hrun⟩|⟨hw,hsk⟩
  ·rw[if_pos hw];refine .inl ?_;have hev:ev (ah P J) (iJ P) ρ (oM s.ob rs listed.toList) (s.nx+i) (fun v up=>v=r.v∧up=r.up) p:=by
    rw[hnxi]at hrun;refine Pn vals (fun htou x hx j hj=>?_) hrun;rw[e2];obtain⟨n,rfl⟩:∃n,x= .t n:=by
     cases x with
     |t n=>exact⟨n,rfl⟩
     |k v=>
      have:=PI (hnr ⟨o.dst,g,p⟩ (List.mem_of_getElem? hal)) hx;have hj':v.ref=some j:=hj;rw[this]at hj';cases hj'
    have hj':((gW s (rs.take i)).get n).ref=some j:=hj;have hns:n∈fG p.xs:=qp hx;symm;refine J_ rs listed.toList i _ _ j hll rfl (fun k q hk hq hm x' hx'=>?_) (fun k q hk hq hm x' hx'=>?_)
    ·rw[Array.getElem?_toList]at hm;obtain⟨o',p',g',hal',_,hcm,hd'⟩:=Ko k q hk hq hm;obtain⟨_,_,FN⟩:=jE hcm;simp only at FN;obtain⟨t2,k2⟩:=wC (hnr _ (List.mem_of_getElem? hal')) hd' j x' hx';rw[hnx k om]at k2;rcases k2 with k2|⟨m2,n2,l2,r2⟩
     ·have hrn:=inv.env n;rw[slot n (FD (o:=⟨o.dst,g,p⟩) hx)]at hrn;have:ov j≠none:=by
       cases hgn:(gW s (rs.take i)).get n<;>rw[hgn]at hj' hrn<;>simp[V.ref]at hj'
       ·obtain⟨_,_,_,h4,_⟩:=hrn.fD;subst hj';rw[h4];simp
       ·obtain⟨_,_,_,_,_,_,h4,_⟩:=hrn.ku;subst hj';rw[h4];simp
       ·obtain⟨_,_,_,h4,_⟩:=hrn.mZ;subst hj';rw[h4];simp
       ·obtain⟨_,_,_,_,h4,_⟩:=hrn.DD;subst hj';rw[h4];simp
      apply this;rw[k2];exact inv.PK k om hm
     ·exact clash hal' hal (FN (.inl ⟨m2,htou⟩) n2 n l2 hns) l2 hns r2 hj'
    ·rw[Array.getElem?_toList]at hm;have hik:i<k:=by
      rcases Nat.lt_or_ge i k with h|h
      ·exact h
      ·have:k=i:=om;subst this;rw[hif]at hm;cases hm
     obtain⟨o',p',g',hal',_,hcm,hd'⟩:=zi k q hik hq hm;obtain⟨_,_,FN⟩:=jE hcm;simp only at FN;have uS:k<ops.size:=by rw[←inv.len];exact(Array.getElem?_eq_some_iff.1 hm).1
     obtain⟨t2,k2⟩:=wC (hnr _ (List.mem_of_getElem? hal')) hd' j x' hx';rw[hnx k om]at k2;rcases k2 with k2|⟨m2,n2,l2,r2⟩
     ·have:=YC (show i≤ops.size by omega) hj';omega
     ·exact clash hal hal' (FN (.inr ⟨m2,htou⟩) n n2 hns l2) hns l2 hj' r2
   refine Cb (J:=J) (w0:=w0) inv.mem hρ (id:=s.nx+i) ?_ (inv.PK i hilt hif) PU (hJs w inv.mem.bel) hcp hev;rintro v up cv w' H' bJ ⟨rfl,rfl⟩ ik hn hmem hrep;exact ih _ _ w' H' bJ count (Kq cv w' H' bJ ik hn hmem hrep)
  ·rw[if_neg (by rw[hw];decide)];refine ih _ _ w H ov count (Kq undef w H ov (Ext.refl _ _ _) (fun _ _ h=>h) ?_ ?_)
   ·rw[hsk.2];exact inv.mem
   ·rw[hsk.1];exact .un
theorem Kr(jP:P.follows .mixedOrders=true)(hJs:∀w',aI w0 H0.e w'→J w'){rid:Nat}{a:Act}{w:World}{H:Nat→Prop}{ov:Nat→Option Value}(hc:Conc w0 H0 w H ov N a s)(hcR:UF P N ops ops.toList=some al)(hdr:xO cf ops.toList al=true)(hnk:∀o,o∈al→nkp H0 o.dst)
 {K:St→Prop} (hv:Hf (ah P J) (iJ P) al s (fun s'=>chk (jy s' cf) (K s'))) (hK:∀s' w' H' bJ a',K s'→Conc w0 H0 w' H' bJ N a' s'→Q .normal a' w'):(Code.region rid ops true).wp P Q a w:=by
 obtain⟨rs,hT,hend⟩:=Cc al s (by unfold xO at hdr;simp only[Bool.and_eq_true,List.all_eq_true]at hdr;exact List.all_eq_true.2 fun o ho=>(hdr.1.1 o ho).2) hv
 obtain⟨hrl,_⟩:=DL hT
 obtain⟨hlen,_⟩:=DK hcR
 have hn:rs.length=ops.size:=by rw[hrl,←hlen];simp
 refine wp_region_any jP ?_
 have PM:∀t j,(s.get t).ref=some j→j<s.nx:=fun t j hj=>by
  have hr:=hc.env t;have:ov j≠none:=by
   cases hgn:s.get t<;>rw[hgn]at hj hr<;>simp[V.ref]at hj
   ·obtain⟨_,_,_,h4,_⟩:=hr.fD;subst hj;rw[h4];simp
   ·obtain⟨_,_,_,_,_,_,h4,_⟩:=hr.ku;subst hj;rw[h4];simp
   ·obtain⟨_,_,_,h4,_⟩:=hr.mZ;subst hj;rw[h4];simp
   ·obtain⟨_,_,_,_,h4,_⟩:=hr.DD;subst hj;rw[h4];simp
  rcases Nat.lt_or_ge j s.nx with h|h
  ·exact h
  ·exact absurd (hc.new j h) this
 have eM0:∀(rs:List Rc) (n:Nat) (e:Nat→V),eM e rs (List.replicate n false)=e:=fun rs=>by
  induction rs with
  |nil=>intro n e;cases n<;>rfl
  |cons r rs ih=>intro n e;cases n with
   |zero=>rfl
   |succ n=>simp only[List.replicate_succ,eM,Bool.false_eq_true,if_false];exact ih n e
 have oM0:∀(rs:List Rc) (n:Nat) (e:Nat→Option Ob),oM e rs (List.replicate n false)=e:=fun rs=>by
  induction rs with
  |nil=>intro n e;cases n<;>rfl
  |cons r rs ih=>intro n e;cases n with
   |zero=>rfl
   |succ n=>simp only[List.replicate_succ,oM,Bool.false_eq_true,if_false];exact ih n e
 have hmd:Mem w0 H0 {w with drawn:=w.drawn+1} H ov s.ob:=by
  have:=hc.mem.step (w':={w with drawn:=w.drawn+1}) (row:=none) hc.mem.bel.drew (Nat.le_refl _) (fun _ _ _=>rfl) (fun _ _=>sy) (fun _ _ h=>h) (ob':=s.ob) (bJ:=ov) (fun i o h=> .inl ⟨h,fun _ _ _ _=>sy⟩);exact this.2
 have ik:Ext w H ov {w with drawn:=w.drawn+1} H ov:=⟨fun _ h=>h,fun _ _=>rfl,fun _ _ h=>h⟩
 have erep:(Array.replicate ops.size false).toList=List.replicate ops.size false:=sy
 refine Md hJs hcR hdr hend.1 hnk hT PM (fun w' H' bJ a' hc'=>hK _ w' H' bJ a' hend.2 hc') ops.size _ a _ H ov ?_ ⟨sy,fun k o hk=>?_,?_,fun t=>?_,hc.EZ,hc.BZ,hc.kp,fun i _ _=>hc.new _ om,fun id hid=>hc.new _ om,fun k o hk=>?_⟩
 ·rw[erep];simp
 ·rw[Array.getElem?_replicate]at hk;split at hk<;>cases hk
 ·rw[erep,oM0];exact hmd
 ·rw[erep,eM0];exact(hc.env t).mono ik
 ·rw[Array.getElem?_replicate]at hk;split at hk<;>cases hk
end
