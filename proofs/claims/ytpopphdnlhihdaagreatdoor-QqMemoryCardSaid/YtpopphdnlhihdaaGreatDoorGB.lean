import Derived.Lib.ConvBytes
import Derived.Lib.AppendStr
import Derived.Laws.StructEq
import Derived.Laws.IdiomStrings
import Derived.ChangeKeysEq
import Derived.Test.YtpopphdnlhihdaaGreatDoorGA
set_option linter.all false
namespace Go.Proofs.YtpopphdnlhihdaaGreatDoor.Ab
open Go Go.RowKit
section
variable {P:Program} {w0 w:World} {H0:HS} {H:Nat→Prop} {ov:Nat→Option Value} {ob:Nat→Option Ob}
theorem F5(B:Nat)(t ty e:TypeId)(i:TypeInfo)(z:Value)(size bytes:Nat)(ht:P.underlying t=some (.slice e))(A:P.info? e=some i)(hz:i.zero=some z)
 (hsize:i.size=size) (l:i.bytes=bytes) (E:z.cells.size=size) (F:0<size) (v:Value) (n:Nat) (xs:List Value) (hown:w.ownsRow B e size v n xs)
 (I:Option Addr) (m c:Nat) (news:List Value) (hl:news.length=m*size) (hnews:news=[]∨∃a,I=some a∧∀(j:Nat) (u:Value),news[j]? =some u→w.cell? (a.add j)=some u) (h1:∀u∈news,u.oneCell'=true)
 (y:n+m≤maxLen) (hbytes:(n+m)*bytes≤140737488355328) (hbase:B≤w.heap.size):
 ∃C w',(Builtin.append_ #[t,t] ty #[v,.slice I m c]).run P w= .ok C w'∧w'.ownsRow B e size C (n+m) (xs++news)∧w.grownBy w' v.ownBlock∧(∀b,blk C=some b→blk v=some b∨w.heap.size≤b):=by
 cases I with
 |none=>
  have O:news=[]:=by
   rcases hnews with h|⟨a,h,_⟩
   ·exact h
   ·cases h
  subst O;have hm:m=0:=by
   have h0:m*size=0:=by rw[←hl];rfl
   rcases Nat.mul_eq_zero.1 h0 with h|h
   ·exact h
   ·omega
  subst hm;refine⟨v,w,?_,by simpa using hown,⟨rfl,rfl,rfl,aY _,fun _ _ _=>rfl⟩,fun b hb=> .inl hb⟩;rcases hown.2 with ⟨rfl,rfl⟩|⟨g,cap,cur,rfl,_,_,G,_⟩
  ·simp[Builtin.append_,run_underlying ht,sizeOf,typeInfo,A,Builtin.lenOf,Builtin.firstCells]
  ·simp[Builtin.append_,run_underlying ht,sizeOf,typeInfo,A,Builtin.lenOf,Builtin.firstCells,G,storeCells]
 |some a=>
  have hnews':∀(j:Nat) (u:Value),news[j]? =some u→w.cell? (a.add j)=some u:=by
   rcases hnews with rfl|⟨a',h,h'⟩
   ·intro j u h;simp at h
   ·cases h;exact h'
  obtain⟨C,w',H,Z,Y,h4⟩:=run_append_own (P:=P) w B t ty e i z size bytes ht A hz hsize l E F v n xs hown a m c news hl hnews' h1 y hbytes hbase;refine⟨C,w',H,Z,Y,fun b hb=>?_⟩;rcases hown.2 with ⟨rfl,rfl⟩|⟨g,cap,cur,rfl,U,hg,G,T,Q,htake⟩
  ·have hown':w.ownsRow w.heap.size e size (.slice none 0 0) 0 xs:=⟨hown.1,.inl ⟨rfl,rfl⟩⟩;obtain⟨v2,N,f,k2,_,_⟩:=run_append_own (P:=P) w w.heap.size t ty e i z size bytes ht A hz hsize l E F _ 0 xs hown' a m c news hl hnews' h1 y hbytes (aY _);rw[H]at f;cases f;exact .inr (k2.lt b (by
    rcases k2.2 with ⟨e1,_⟩|⟨g',M,L,e1,_⟩
    ·rw[e1]at hb;cases hb
    ·rw[e1]at hb ⊢;exact hb)).1
  ·by_cases hroom:n+m≤cap
   ·obtain⟨N,f,_⟩:=run_append_fits (P:=P) w B t ty e i size ht A hsize g n cap xs hown a m c news hl hnews' h1 hroom;rw[H]at f;cases f;exact .inl hb
   ·have holds:∀(j:Nat) (u:Value),xs[j]? =some u→w.cell? ((⟨g,0,none⟩:Addr).add j)=some u:=hown.cells (g:=g) rfl;have J:n+m≤9223372036854775807:=by unfold maxLen at y;omega
    have f:=run_append_grow (P:=P) w t ty e i z ht A hz ⟨g,0,none⟩ n cap xs (by rw[hsize];exact hown.1) holds a m c news (by rw[hsize];exact hl) hnews' om om (growslice_fits om (by rw[l];exact hbytes));rw[H]at f;cases f;cases hb;exact .inr (aY _)
variable{x:V}{J:World→Prop}{f:FuncId}{w':World}{H' N:Nat→Prop}
theorem GZ(hm:Mem w0 H0 w H ov ob){v:Value}{sz s:Nat}{xs:List V}(T:0<sz)(N:Rep w H ov v x)(E:okR ob x)(he:rd ob sz x= .l s xs):
 ∃z m c us,v= .slice z m c∧0<s∧xs.length=m*s∧(us=[]∨∃a,z=some a∧∀(j:Nat) (u:Value),us[j]? =some u→w.cell? (a.add j)=some u)∧aB w H us xs:=by
 have row:∀(j off n:Nat) (o:Ob) (u:Value) (z:Option Addr) (cap:Nat),ob j=some o→o.pg=false→ov j=some u→v= .slice z n cap→off+n*o.sz≤o.cs.length→(n=0∨∃b,blk u=some b∧z=some ⟨b,off,none⟩)→
  o.sz=s→(o.cs.drop off).take (n*o.sz)=xs→
  ∃z m c us,v= .slice z m c∧0<s∧xs.length=m*s∧(us=[]∨∃a,z=some a∧∀(j:Nat) (u:Value),us[j]? =some u→w.cell? (a.add j)=some u)∧aB w H us xs:=by
  intro j off n o u z cap G GV hu A hle I e1 Q
  obtain⟨u',C,F⟩:=hm.obj j o G
  rw[hu]at C;cases C
  have MO:0<o.sz:=by
   rcases F.bd with ⟨h,_⟩|⟨_,h,_⟩
   ·rw[GV]at h;cases h
   ·exact h
  have hlen:xs.length=n*s:=by rw[←Q,←e1];simp;omega
  rcases I with rfl|⟨b,hb,rfl⟩
  ·refine⟨z,0,cap,[],A,e1▸MO,hlen,.inl rfl,?_⟩;have:xs=[]:=nz (by rw[hlen];simp);subst this;exact⟨rfl,fun j v x h=>by simp at h⟩
  ·obtain⟨us,h1,P,h3⟩:=hm.row G (xe GV) hle hu hb;rw[Q]at h3;exact⟨_,n,cap,us,A,e1▸MO,hlen,.inr ⟨_,rfl,fun j u h=>by rw[Addr.add_lit];exact P j u h⟩,h3⟩
 cases x with
 |ow s' j n=>
  obtain⟨z,cap,e1,G,L,M,I⟩:=N.jK;simp only[rd]at he;cases y:ob j with
  |none=>rw[y]at he;cases he
  |some o=>
   rw[y]at he;simp only[]at he;cases A:o.pg with
   |true=>rw[A]at he;simp at he
   |false=>
    rw[A]at he;simp only[aJ,if_false,V.l.injEq]at he;obtain⟨rfl,rfl⟩:=he;obtain⟨u',C,F⟩:=hm.obj j o y;rw[G]at C;cases C;have Z:o.cs.length=n*o.sz:=by
     rcases F.bd with ⟨h,_⟩|⟨_,_,m,xs,hown,U,_⟩
     ·rw[A]at h;cases h
     ·have e:m=n:=by
       rcases hown.2 with ⟨h,h'⟩|⟨g,cap',cur,h,_⟩
       ·rw[e1]at h;cases h;exact h'
       ·rw[e1]at h;cases h;rfl
      rw[←U.1,hown.1,e]
    exact row j 0 n o v z cap y A G e1 om (I.imp (fun h=>h) fun⟨b,e⟩=>⟨b,by rw[e1,e];rfl,e⟩) rfl (by rw[List.drop_zero,←Z,iH])
 |sl s' j off n=>
  obtain⟨z,cap,u,e1,L,M,G,I⟩:=N.sN;simp only[rd]at he;simp only[okR]at E;cases y:ob j with
  |none=>rw[y]at E;exact E.elim
  |some o=>
   rw[y]at he E;simp only[]at he;cases A:o.pg with
   |true=>rw[A]at he;simp at he
   |false=>
    rw[A]at he;simp only[aJ,if_false,V.l.injEq]at he;obtain⟨rfl,rfl⟩:=he;exact row j off n o u z cap y A G e1 E I rfl rfl
 |nl=>
  simp only[rd,V.l.injEq]at he;obtain⟨rfl,rfl⟩:=he;exact⟨none,0,0,[],N.rq,T,sy,.inl rfl,rfl,fun j v x h=>by simp at h⟩
 |l s' cs=>
  simp only[rd,V.l.injEq]at he;obtain⟨rfl,rfl⟩:=he;obtain⟨z,n,cap,f,b,o,e1,J,Z,L,M,I,hc,Y⟩:=N.vV;refine⟨z,n,cap,(List.range cs.length).map f,e1,J,Z,?_,sy,fun j u x h1 P=>?_⟩
  ·rcases I with rfl|⟨Q,_⟩
   ·exact .inl rfl
   ·refine .inr ⟨_,Q,fun j u h=>?_⟩;rw[Addr.add_lit];have O:j<cs.length:=by
     have:=(iR.1 h).1;simpa using this
    simp only[iU,List.getElem?_range O,kZ,fU]at h;rw[hc j O,h]
  ·have O:j<cs.length:=(iR.1 P).1;simp only[iU,List.getElem?_range O,kZ,fU]at h1;rw[←h1];exact Y j x P
 |_=>simp only[rd]at he;cases he
def Res(w w':World)(H:Nat→Prop)(v:Value)(r:V):Prop:=
 ∃N:Nat→Prop,(∀b,N b→w.heap.size≤b∧b<w'.heap.size)∧
  (Rep0 w' (fun b=>H b∨N b) v r∨
   (∃e sz cs n xs,r= .o e sz cs∧0<sz∧w'.ownsRow w.heap.size e sz v n xs∧aB w' (fun b=>H b∨N b) xs cs∧(∀x,x∈cs→x.cell=true)∧n≤maxLen∧(∀b,blk v=some b→¬N b))∨
   ∃r',r= .fr r'∧Rep0 w' N v r')
def WI(P:Program)(J:World→Prop)(f:FuncId)(args:List V)(r:V):Prop:=
 ∀(w:World) (H:Nat→Prop) (vs:List Value),J w→TJ w H→(∀b,H b→b<w.heap.size)→aB w H vs args→
  Calls P f vs.toArray w fun e w'=>∃v,e= .returned v∧Below w.heap.size w w'∧Res w w' H v r
def MFun(P:Program)(J:World→Prop)(f:FuncId)(args:List V)(r:V)(cs':List V):Prop:=
 ∃m e sz cs,args[m]? =some (.o e sz cs)∧∀(w:World) (H:Nat→Prop) (vs:List Value) (v:Value) (n:Nat) (xs:List Value),J w→TJ w H→(∀b,H b→b<w.heap.size)→vs.length=args.length→vs[m]? =some v→
  (∀(j:Nat) (u:Value) (x:V),j≠m→vs[j]? =some u→args[j]? =some x→Rep0 w H u x)→0<sz→w.ownsRow 0 e sz v n xs→aB w H xs cs→(∀x,x∈cs→x.cell=true)→n≤maxLen→(∀b,blk v=some b→¬H b)→
  Calls P f vs.toArray w fun ex w'=>∃rv,ex= .returned rv∧bT w (fun b=>blk v=some b) w'∧Rep0 w' H rv r∧r.nX=false∧(∀x,x∈cs'→x.cell=true)∧∃(xs':List Value) (N:Nat→Prop),w'.ownsRow 0 e sz v n xs'∧(∀b,N b→w.heap.size≤b∧b<w'.heap.size)∧aB w' (fun b=>H b∨N b) xs' cs'
def TFun(P:Program)(J:World→Prop)(f:FuncId)(args:List V)(e sz:Nat)(cs rs:List V):Prop:=
 0<sz∧∀(w:World) (H:Nat→Prop) (vs:List Value),J w→TJ w H→(∀b,H b→b<w.heap.size)→aB w H vs args→
  Calls P f vs.toArray w fun ex w'=>∃(u:Value) (us:List Value) (n:Nat) (xs:List Value) (N:Nat→Prop),ex= .returned (.tuple (u::us).toArray)∧Below w.heap.size w w'∧w'.ownsRow w.heap.size e sz u n xs∧(∀b,N b→w.heap.size≤b∧b<w'.heap.size)∧(∀b,blk u=some b→¬N b)∧
   aB w' (fun b=>H b∨N b) xs cs∧(∀x,x∈cs→x.cell=true)∧n≤maxLen∧aB w' (fun b=>H b∨N b) us rs
def OFun(P:Program)(J:World→Prop)(f:FuncId)(args:List V)(e sz:Nat)(cs2:List V):Prop:=
 ∃cs,args=[.o e sz cs]∧∀(w:World) (H:Nat→Prop) (v:Value) (n:Nat) (xs:List Value),J w→TJ w H→(∀b,H b→b<w.heap.size)→0<sz→w.ownsRow 0 e sz v n xs→aB w H xs cs→(∀x,x∈cs→x.cell=true)→n≤maxLen→(∀b,blk v=some b→¬H b)→
  Calls P f #[v] w fun ex w'=>∃(rv:Value) (n':Nat) (xs':List Value) (N:Nat→Prop),ex= .returned rv∧bT w (fun b=>blk v=some b) w'∧w'.ownsRow 0 e sz rv n' xs'∧n'≤maxLen∧(∀b,N b→w.heap.size≤b∧b<w'.heap.size)∧(∀b,blk rv=some b→(blk v=some b∨w.heap.size≤b)∧¬N b)∧
   aB w' (fun b=>H b∨N b) xs' cs2∧(∀x,x∈cs2→x.cell=true)
abbrev V.ta(e sz:Nat)(cs:List V):V:= .mu (.sl e sz 0 0) cs
def fC(P:Program)(J:World→Prop)(f:FuncId)(args:List V)(r:V):Prop:=
 match r with
 | .mu (.sl e sz _ _) cs=>OFun P J f args e sz cs
 | .mu x cs=>MFun P J f args x cs
 | .to e sz cs rs=>TFun P J f args e sz cs rs
 |r=>WI P J f args r
def V.G5:V→Bool
 | .mu _ _=>true
 | .to _ _ _ _=>true
 |_=>false
variable{args:List V}{r:V}
theorem fC.of0{P:Program}(a:r.G5=false)(h:WI P J f args r):fC P J f args r:=by
 cases r<;>first|exact h|cases a
theorem fC.to0{P:Program}(a:r.G5=false)(h:fC P J f args r):WI P J f args r:=by
 cases r<;>first|exact h|cases a
def mG(P:Program)(f:FuncId)(args:List V)(r:V):Prop:=
 ∀(w:World) (H:Nat→Prop) (ov:Nat→Option Value) (vs:List Value),vs.length=args.length→(∀(j:Nat) (v:Value) (x:V),vs[j]? =some v→args[j]? =some x→Rep w H ov v x)→
  ∃v,(callFunc f vs.toArray).run P w= .ok (.value v) w∧Rep w H ov v r
theorem MW(h:(match x with| .i _ _| .b _| .s _=>false|_=>true)=false){v:Value}(a:Rep0 w H v x):Rep0 w' H' v x:=by
 cases x<;>simp at h<;>cases a<;>first|exact .i _ _|exact .b _|exact .s _
theorem xP{cs:List V}(h:(cs.any fun x=>match x with| .i _ _| .b _| .s _=>false|_=>true)=false){vs:List Value}(a:aB w H vs cs):aB w' H' vs cs:=
 ⟨a.1,fun j v x f c=>MW (by
   have:=List.any_eq_false.1 h x (dP c);cases x<;>simp_all) (a.2 j v x f c)⟩
theorem MX(h:x.nX=false){v:Value}(j:Rep0 w H v x):Rep0 w' H' v x:=by
 cases x with
 |g cs=>cases j with|g m cs u j=>have:=xP (w':=w') (H':=H') h ⟨u,j⟩;exact .g m cs this.1 this.2
 |t cs=>cases j with|t m cs u j=>have:=xP (w':=w') (H':=H') h ⟨u,j⟩;exact .t m cs this.1 this.2
 |o e sz cs=>cases j
 |fr x=>cases j
 |i k n=>cases j;exact .i _ _
 |b x=>cases j;exact .b _
 |s l=>cases j;exact .s _
 |c v=>cases j;exact .c _
 |un=>cases j;exact .un
 |any=>exact .any _
 |nl=>cases j;exact .nl
 |f n=>cases j with|f q n h=>exact .f q n h
 |z a b=>cases j with|z p q a b h k=>exact .z p q a b h k
 |_=>simp[V.nX]at h
theorem Mem.grow(hm:Mem w0 H0 w H ov ob)(hb:Below w.heap.size w w')(j:∀b,N b→w.heap.size≤b∧b<w'.heap.size):
 Ext w H ov w' (fun b=>H b∨N b) ov∧Mem w0 H0 w' (fun b=>H b∨N b) ov ob:=by
 obtain⟨e1,a⟩:=hm.step (row:=none) (hm.bel.after hb) hb.size (fun k A _=>hb.block k A) (fun _ _=>sy) (fun _ _ h=>h) (ob':=ob) (jZ:=ov) (fun i o h=> .inl ⟨h,fun _ _ _ _=>sy⟩)
 refine⟨⟨fun _ h=> .inl h,e1.hw,e1.ho⟩,⟨a.bel,a.tj.mono (fun _ h=> .inl h) (fun _ _=>rfl),fun b h=>h.elim (a.Bo b) (fun h=>(j b h).2),fun b h hb=>h.elim (fun h=>a.low b h hb) (fun h=>by have:=(j b h).1;have:=hm.bel.size;omega),fun i o m=>?_,a.sep⟩⟩
 obtain⟨u,l,z⟩:=a.obj i o m
 refine⟨u,l,z.mono (fun _ _ h=>h) (fun _ h=> .inl h) (fun _ _=>rfl) (fun _ _=>rfl) (fun b g h=>h.elim id fun h=>?_)⟩
 obtain⟨C,c,f⟩:=hm.obj i o m
 rw[l]at c;cases c
 have:=(f.lt g).2
 have:=(j b h).1
 omega
theorem Mem.more(hm:Mem w0 H0 w H ov ob)(g:∀b,N b→b<w.heap.size∧w0.heap.size≤b)(l:∀i o v b,ob i=some o→ov i=some v→blk v=some b→¬N b):
 Ext w H ov w (fun b=>H b∨N b) ov∧Mem w0 H0 w (fun b=>H b∨N b) ov ob:=by
 refine⟨⟨fun _ h=> .inl h,fun _ _=>rfl,fun _ _ h=>h⟩,⟨hm.bel,hm.tj.mono (fun _ h=> .inl h) (fun _ _=>rfl),fun b h=>h.elim (hm.Bo b) (fun h=>(g b h).1),fun b h hb=>h.elim (fun h=>hm.low b h hb) (fun h=>by have:=(g b h).2;omega),fun i o f=>?_,hm.sep⟩⟩
 obtain⟨u,c,j⟩:=hm.obj i o f
 exact⟨u,c,j.mono (fun _ _ h=>h) (fun _ h=> .inl h) (fun _ _=>rfl) (fun _ _=>rfl) (fun b a h=>h.elim id fun h=>absurd h (l i o u b f c a))⟩
theorem Mem.ins(hm:Mem w0 H0 w H ov ob){id:Nat}(hid:ov id=none){v:Value}{o:Ob}(z:∀jZ,ji w H (Ow w0 H0) jZ v o)(hd:∀j c g b,ob j=some c→ov j=some g→blk v=some b→blk g≠some b):
 Ext w H ov w H (zF ov id v)∧Mem w0 H0 w H (zF ov id v) (upd ob [(id,some o)]):=by
 refine hm.step (row:=none) hm.bel (aY _) (fun _ _ _=>rfl) (fun _ _=>sy) (sQ hid) fun i E f=>?_
 by_cases e:i=id
 ·subst e;right;simp only[upd,if_true,fU]at f;subst f;refine⟨v,iq i v,z _,fun j c g b A a l m=>?_⟩;simp only[upd,ah (fun e=>A e.symm:¬i=j)]at a;obtain⟨u,y,_⟩:=hm.obj j c a;have:=sQ (v:=v) hid j u y;rw[l]at this;cases this;exact hd j c _ b a y m
 ·left;simp only[upd,ah (fun C=>e C.symm:¬id=i)]at f;exact⟨f,fun _ _ _ _=>sy⟩
end
section ops
variable {P:Program} {J:World→Prop} {w0 w:World} {H0:HS} {H:Nat→Prop} {ov:Nat→Option Value} {ob:Nat→Option Ob} {id:Nat} {ρ:X→V} {a:Act} {o:Oper} {K:Act→World→Prop} {Q:Exit→Act→World→Prop}
 {R:V→List (Nat×Option Ob)→Prop}
variable (hm:Mem w0 H0 w H ov ob) (hρ:∀p x,cX p=some x→Rep w H ov (a.eval p) (ρ x)) (hF:Fin w0 H0 w H ov ob id R a o.dst K) (hid:ov id=none) (hob:ob id=none)
include hm hρ hF hid hob
variable{t e:TypeId}{x p:Operand}{f:FuncId}{fn:Func}{x':X}
theorem s_app{s:Operand}{s':X}{sz MM:Nat}{z:List V}(hop:o.op= .call {callee:= .builtin .append,args:=#[s,x],argTypes:=#[t,t]})(ht:P.underlying t=some (.slice e))(hty:Eh P e=some (sz,MM,z))(hs:cX s=some s')(hx:cX x=some x')
 (h:ev (fun _ _ _=>False) (fun _ _ _=>False) ρ ob id R (.app e sz MM s' x')):o.wp P a w K Q:=by
 obtain⟨i,zv,hi,hz,hsi,hb,rfl,hvs,hpos,hall⟩:=vC hty
 have h1:=hρ s s' hs
 have h2:=(hρ x x' hx).FM
 simp only[ev]at h
 have MZ:∀E w',(Builtin.append_ #[t,t] o.type #[a.eval s,a.eval x]).run P w= .ok E w'→(execOp a.eval o).run P w= .ok (.value E) w':=fun E w' hr=>by
  simp[execOp,hop,resolve,invoke,builtin,hr]
 cases hv:ρ s'<;>rw[hv]at h h1<;>(try simp only[]at h)
 case nl=>
  cases Y:rd ob sz (Ab.FM (ρ x'))<;>rw[Y]at h<;>(try simp only[]at h);case l s2 xs=>
   obtain⟨⟨hok,rfl,T,hbytes,hbig⟩,hR⟩:=h;obtain⟨ba,m,c,us,e1,A,hlen,hcells,f⟩:=GZ hm hpos h2 hok Y;have hm':xs.length/s2=m:=by rw[hlen,Nat.mul_div_cancel _ A]
   rw[hm']at hbytes hbig hR;have hown:w.ownsRow w.heap.size e s2 (.slice none 0 0) 0 []:=World.ownsRow_nil _ _ _ _;have hone:∀u∈us,u.oneCell'=true:=fun u Y=>by
    obtain⟨k,y,rfl⟩:=vU Y;have N:k<xs.length:=by rw[←f.1];exact y
    exact(f.2 k _ _ (bC y) (bC N)).oneCell (jl T _ (uP N))
   obtain⟨E,w',hr,M,U,hblk⟩:=F5 (P:=P) w.heap.size t o.type e i zv s2 MM ht hi hz hsi hb hvs A _ 0 [] hown ba m c us (by rw[f.1,hlen]) hcells hone (by unfold maxLen;omega) (by rw[eY];omega) (aY _);rw[eY,uQ]at M;have hBl:Below w.heap.size w w':=⟨U.os,U.tape,U.output,U.size,fun k y=>U.block k y (by simp[Value.ownBlock])⟩;have ho3:w'.ownsRow 0 e s2 E m us:=own0 M;have I:aB w' H us xs:=f.mono (fun _ h=>h) (fun b hb=>hBl.block b (hm.Bo b hb));have hnew:∀b,blk E=some b→w.heap.size≤b:=fun b hb=>by
    rcases hblk b hb with h|h
    ·cases h
    ·exact h
   have C:=ji.row ho3 A I (jl T) (by unfold maxLen;omega) (fun b hb h=>by have:=hnew b hb;have:=hm.Bo b h;omega) (O:=Ow w0 H0) (fun b hb=> .inl (bK hm.bel.size (hnew b hb)));obtain⟨kJ,hm2⟩:=hm.add hid hob hBl C hnew;unfold Oper.wp;rw[MZ E w' (by rw[h1.rq,e1];exact hr)];exact hF _ _ _ _ H _ hR kJ kY hm2 (uF ho3 (by unfold maxLen;omega) (iq _ _))
 case ow s1 j n=>
  cases Y:rd ob sz (Ab.FM (ρ x'))<;>rw[Y]at h<;>(try simp only[]at h);case l s2 xs=>
   cases L:ob j with
   |none=>rw[L]at h;exact h.elim
   |some F=>
    rw[L]at h;obtain⟨⟨hok,rfl,rfl,he,MO,hmu,GV,T,hbytes,hbig⟩,hR⟩:=h;obtain⟨ba0,cap0,e0,J,hml,hcp,ha⟩:=h1.jK;obtain⟨ba,m,c,us,e1,A,hlen,hcells,f⟩:=GZ hm hpos h2 hok Y;have hm':xs.length/s2=m:=by rw[hlen,Nat.mul_div_cancel _ A]
    rw[hm']at hbytes hbig hR;obtain⟨vj,hvj,C⟩:=hm.obj j F L;rw[J]at hvj;cases hvj;have Ui:∀b,blk (a.eval s)=some b→¬H b:=fun b hb h=>by have:=(C.fz b hb).1 h;rw[hmu]at this;cases this
    rcases C.bd with ⟨G,_⟩|⟨_,_,n',xs0,hown,hra0,hn0⟩
    ·rw[GV]at G;cases G
    ·rw[he,MO]at hown;have en:n'=n:=by
      rcases hown.2 with ⟨h,G⟩|⟨g,cap',cur,h,_⟩
      ·rw[e0]at h;cases h;exact G
      ·rw[e0]at h;cases h;rfl
     subst en;have hone:∀u∈us,u.oneCell'=true:=fun u Y=>by
      obtain⟨k,y,rfl⟩:=vU Y;have N:k<xs.length:=by rw[←f.1];exact y
      exact(f.2 k _ _ (bC y) (bC N)).oneCell (jl T _ (uP N))
     obtain⟨E,w',hr,M,U,hblk⟩:=F5 (P:=P) 0 t o.type e i zv s2 MM ht hi hz hsi hb hvs A _ n' xs0 hown ba m c us (by rw[f.1,hlen]) hcells hone (by unfold maxLen;omega) om (aG _);have hrow:∀k,(a.eval s).ownBlock=some k→blk (a.eval s)=some k:=fun k y=>by
      rcases hown.2 with ⟨h,_⟩|⟨g,cap',cur,h,_⟩
      ·rw[h]at y;cases y
      ·rw[h]at y ⊢;exact y
     have hbel:bT w0 H0.e w':=hm.bel.grown U (fun k y=>(C.lt (hrow k y)).1);have hHrow:∀b,H b→some b≠(a.eval s).ownBlock:=fun b hb e=>Ui b (hrow b e.symm) hb
     have hw:∀b,H b→w'.heap[b]? =w.heap[b]? :=fun b hb=>U.block b (hm.Bo b hb) (hHrow b hb)
     have I:aB w' H (xs0++us) (F.cs++xs):=by
      have k0:=hra0.mono (w':=w') (fun _ h=>h) hw;have k1:=f.mono (w':=w') (fun _ h=>h) hw;refine⟨by simp[k0.1,k1.1],fun jj v x h3 h4=>?_⟩;by_cases hlt:jj<xs0.length
      ·rw[uO hlt]at h3;rw[uO (by rw[←k0.1];exact hlt)]at h4;exact k0.2 jj v x h3 h4
      ·rw[rY om]at h3;rw[rY (by have:=k0.1;omega),←k0.1]at h4;exact k1.2 _ v x h3 h4
     have hnH':∀b,blk E=some b→¬H b:=fun b hb h=>by
      rcases hblk b hb with G|G
      ·exact Ui b G h
      ·have:=hm.Bo b h;omega
     have hor':∀jZ,ji w' H (Ow w0 H0) jZ E {F with cs:=F.cs++xs}:=by
      have:=ji.row M A I (fun x hx=>(nC.1 hx).elim (C.cl (xe GV) x) (jl T x)) (by unfold maxLen;omega) hnH' (O:=Ow w0 H0) (fun b hb=>by
       rcases hblk b hb with G|G
       ·exact(C.lt G).1
       ·exact .inl (bK hm.bel.size G))
      rw[←he,←MO]at this;have e4:({F with cs:=F.cs++xs}:Ob)={e:=F.e,sz:=F.sz,cs:=F.cs++xs,mu:=true,pg:=false}:=by cases F;simp_all
      rw[e4];exact this
     obtain⟨kJ,hm2⟩:=hm.step (row:=(a.eval s).ownBlock) (ob':=upd ob [(j,none),(id,some {F with cs:=F.cs++xs})]) (jZ:=zF ov id E) hbel U.size (fun k y hne=>U.block k y hne) hHrow (sQ hid) (fun q oq hq=>by
      by_cases ej:j=q
      ·simp[upd,ej]at hq
      ·by_cases eid:id=q
       ·right;subst eid;simp only[upd,ah ej,if_true,fU]at hq;subst hq;refine⟨E,iq _ _,hor' _,fun l ol vl b hl Z hvl hbv hbl=>?_⟩;by_cases ej2:j=l
        ·simp[upd,ej2]at Z
        ·simp only[upd,ah ej2,ah (fun e=>hl e.symm:¬id=l)]at Z;obtain⟨u,hu3,hur⟩:=hm.obj l ol Z;have e5:=sQ (v:=E) hid l u hu3;rw[hvl]at e5;cases e5;rcases hblk b hbv with G|G
         ·exact hm.sep j l F ol _ _ b ej2 L Z J hu3 G hbl
         ·have:=(hur.lt hbl).2;omega
       ·left;simp only[upd,ah ej,ah eid]at hq;refine⟨hq,fun u b h3 h4 h5=>?_⟩;exact hm.sep j q F oq _ u b ej L hq J h3 (hrow b h5.symm) h4)
     unfold Oper.wp;rw[MZ E w' (by rw[e1];exact hr)];exact hF _ _ _ _ H _ hR kJ kY hm2 (uF M (by unfold maxLen;omega) (iq _ _))
omit hm hρ hF hid hob in
theorem BV:∀{ps:List (Operand×TypeId)} {qs:List (Nat×X)},Di P ps=some qs→
 ps.length=qs.length∧∀(j:Nat) (p:Operand×TypeId) (q:Nat×X),ps[j]? =some p→qs[j]? =some q→cX p.1=some q.2∧0<q.1
 |[],qs,h=>by simp[Di]at h;subst h;exact⟨rfl,fun j p q h=>by simp at h⟩
 |(x,t)::r,qs,h=>by
  unfold Di at h;split at h
  ·rename_i x' u f m;obtain⟨l,g⟩:=BV m;split at h
   ·split at h
    ·rename_i sz _ _ c;cases h;obtain⟨_,_,_,_,_,_,_,_,hpos,_⟩:=vC c;refine⟨by simp[l],fun j p q a hq=>?_⟩;cases j with
     |zero=>simp at a hq;subst a;subst hq;exact⟨f,hpos⟩
     |succ j=>exact g j p q (by simpa using a) (by simpa using hq)
    ·cases h
   ·cases h;refine⟨by simp[l],fun j p q a hq=>?_⟩;cases j with
    |zero=>simp at a hq;subst a;subst hq;exact⟨f,uf⟩
    |succ j=>exact g j p q (by simpa using a) (by simpa using hq)
  ·cases h
omit hm hρ hF hid hob in
theorem M_:∀{ps:List Operand} {qs:List X},cXs ps=some qs→ps.length=qs.length∧∀(j:Nat) (p:Operand) (q:X),ps[j]? =some p→qs[j]? =some q→cX p=some q
 |[],qs,h=>by simp[cXs]at h;subst h;exact⟨rfl,fun j p q h=>by simp at h⟩
 |x::r,qs,h=>by
  unfold cXs at h;split at h
  ·rename_i x' m c f;cases h;obtain⟨l,g⟩:=M_ f;refine⟨by simp[l],fun j p q a hq=>?_⟩;cases j with
   |zero=>simp at a hq;subst a;subst hq;exact c
   |succ j=>exact g j p q (by simpa using a) (by simpa using hq)
  ·cases h
omit hm hρ hF hid hob in
theorem aB.app{w:World}{H:Nat→Prop}{xs f:List Value}{cs ds:List V}(h:aB w H xs cs)(k:aB w H f ds):aB w H (xs++f) (cs++ds):=by
 refine⟨by simp[h.1,k.1],fun g v x c a=>?_⟩;by_cases hlt:g<xs.length
 ·rw[uO hlt]at c;rw[uO (by rw[←h.1];exact hlt)]at a;exact h.2 g v x c a
 ·rw[rY om]at c;rw[rY (by have:=h.1;omega),←h.1]at a;exact k.2 _ v x c a
variable{c:Call}{qs:List (Nat×X)}
theorem s_callc(hJ:J w){cap:List Value}{capV:List V}(hop:o.op= .call c)(hc:c.callee= .value p)(hp:a.eval p= .func (.func f) #[] cap.toArray)(hcap:aB w H cap capV)(hf:P.funcs[f]? =some fn)(hname:(fn.name== "runtime.NumGoroutine")=false)(hbody:fn.body.isSome=true)
 (hsz:c.args.size=c.argTypes.size) (hq:Di P (c.args.toList.zip c.argTypes.toList)=some qs)
 (h:chk (qN ob (qs.map fun p=>ρ p.2)∧(qs.all fun p=>(rd ob p.1 (ρ p.2)).aP)=true) (∃n r,fC P J f ((qs.map fun p=>VV n ob p.1 (ρ p.2))++capV) r∧
   match r with
   | .o e sz cs=>chk (0<sz) (R (.ow sz id (cs.length/sz)) ((id,some {e,sz,cs,mu:=true,pg:=false})::if r.nX then qs.flatMap fun p=>jA ob (ρ p.2)else[]))
   | .fr r=>R r []
   | .to e sz cs rs=>R (.tw sz id (cs.length/sz) rs) ((id,some {e,sz,cs,mu:=true,pg:=false})::if(V.o e sz cs).nX||(V.t rs).nX then qs.flatMap fun p=>jA ob (ρ p.2)else[])
   | .mu _ _=>False
   |r=>R r (if r.nX then qs.flatMap fun p=>jA ob (ρ p.2)else[]))):o.wp P a w K Q:=by
 obtain⟨⟨hok,hargs⟩,nn,r,hfun,hr⟩:=h
 obtain⟨hl,Uj⟩:=BV hq
 have hl2:c.args.toList.length=qs.length:=by
  rw[←hl,List.length_zip];simp[hsz]
 obtain⟨H1,Dp,m,hfr,_⟩:=hm.freeze (mO (ob:=ob) qs (fun p=>ρ p.2))
 have hreps0:aB w H1 (c.args.toList.map a.eval) (qs.map fun p=>VV nn ob p.1 (ρ p.2)):=by
  refine⟨by simpa using hl2,fun j v x h1 h2=>?_⟩;simp only[iU,jT]at h1 h2;obtain⟨p,hp,rfl⟩:=h1;obtain⟨q,hq',rfl⟩:=h2;have hj:j<c.argTypes.toList.length:=by
   have:=(iR.1 hp).1;simp at this ⊢;omega
  obtain⟨hx,hpos⟩:=Uj j (p,c.argTypes.toList[j]) q (List.getElem?_zip_eq_some.2 ⟨hp,bC hj⟩) hq';have hmem:q∈qs:=dP hq';have hq2:=hρ _ _ hx;unfold VV;split
  ·rename_i e;rw[e]at hq2;exact hq2.rq▸ .nl
  exact ry hm hpos (hρ _ _ hx) (Dk hok _ (eG.2 ⟨q,hmem,rfl⟩)) (.inl (dh.1 hargs q hmem)) Dp.hH (fun k y u b h1 h2 h3=>hfr k y u b (nN.2 ⟨q,hmem,h1⟩) h2 h3)
 have mf:aB w H1 (c.args.toList.map a.eval++cap) ((qs.map fun p=>VV nn ob p.1 (ρ p.2))++capV):=hreps0.app (hcap.mono Dp.hH (fun _ _=>rfl))
 have hrun:(execOp a.eval o).run P w= .ok (.enter f (c.args.toList.map a.eval++cap).toArray) w:=by
  have hn:fn.name≠ "runtime.NumGoroutine" :=by simpa using hname
  have hb:¬(fn.body=none):=by intro e;rw[e]at hbody;cases hbody
  have yJ:(c.args.toList.map a.eval++cap).toArray=c.args.map a.eval++cap.toArray:=by
   apply Array.ext';simp
  rw[yJ];simp[execOp,hop,resolve,hc,hp,Deferred.ofValue,invoke,callFunc,hf,hn,hb]
 by_cases hto:∃e sz cs rs,r= .to e sz cs rs
 ·obtain⟨e2,sz,cs,rs,rfl⟩:=hto;obtain⟨l,hT⟩:=hfun;simp only[]at hr;unfold Oper.wp;rw[hrun,Oper.upon_enter];refine(hT w H1 _ hJ m.tj (fun b hb=>m.Bo b hb) mf).mono ?_;rintro e w' ⟨u,us,n,xs,N,rfl,hbel,hown,hN,hnN,E,hcl,z,hrs⟩;show K (a.put o.dst (.tuple (u::us).toArray)) w';have hne:cs.length/sz=n:=by rw[←E.1,hown.1,Nat.mul_div_cancel _ l]
  rw[hne]at hr;have hown0:w'.ownsRow w0.heap.size e2 sz u n xs:=⟨hown.1,hown.2.imp (fun h=>h) fun⟨g,cap,cur,e1,hb1,r⟩=>⟨g,cap,cur,e1,bK hm.bel.size hb1,r⟩⟩;have hnew:∀b,blk u=some b→w.heap.size≤b:=fun b hb=>(hown.lt b (R_ hown hb)).1
  by_cases T:((V.o e2 sz cs).nX||(V.t rs).nX)=true
  ·rw[au T]at hr;obtain⟨U,M⟩:=m.grow hbel hN;have F:=ji.row hown0 l E hcl z (fun b hb h=>h.elim (fun h=>by have:=m.Bo b h;have:=hnew b hb;omega) (hnN b hb)) (O:=Ow w0 H0) (fun b hb=> .inl (bK hm.bel.size (hnew b hb)));obtain⟨e4,Y⟩:=M.ins hid F (fun j oj vj b G A I L=>by
    obtain⟨u',Z,C⟩:=m.obj j oj G;rw[A]at Z;cases Z;have:=(C.lt L).2;have:=hnew b I;omega)
   obtain⟨ba,cap,e5,ho5,hml5,hcp5,ha5⟩:=(uF (w:=w') (H:=fun b=>H1 b∨N b) hown0 z (iq (ov:=ov) id u)).jK;rw[e5]at ho5 ⊢;rw[e5]at e4 Y;rw[rC]at Y;exact hF _ _ _ w' _ _ hr ((Dp.trans U).trans e4) kY Y (.tw sz id n cap ba us rs hml5 hcp5 ha5 (by rw[←e5]at ho5 ⊢;exact iq _ _) hrs)
  ·rw[ah T]at hr;simp only[Bool.or_eq_true,not_or,Bool.not_eq_true]at T;obtain⟨U,M⟩:=hm.grow hbel (N:=fun _=>False) (fun b h=>h.elim);have hra2:aB w' (fun b=>H b∨False) xs cs:=xP T.1 E;have F:=ji.row hown0 l hra2 hcl z (fun b hb h=>h.elim (fun h=>by have:=hm.Bo b h;have:=hnew b hb;omega) (fun h=>h)) (O:=Ow w0 H0) (fun b hb=> .inl (bK hm.bel.size (hnew b hb)));obtain⟨e4,Y⟩:=M.ins hid F (fun j oj vj b G A I L=>by
    obtain⟨u',Z,C⟩:=hm.obj j oj G;rw[A]at Z;cases Z;have:=(C.lt L).2;have:=hnew b I;omega)
   obtain⟨ba,cap,e5,ho5,hml5,hcp5,ha5⟩:=(uF (w:=w') (H:=fun b=>H b∨False) hown0 z (iq (ov:=ov) id u)).jK;rw[e5]at ho5 ⊢;rw[e5]at e4 Y;exact hF _ _ _ w' _ _ hr (U.trans e4) kY Y (.tw sz id n cap ba us rs hml5 hcp5 ha5 (by rw[←e5]at ho5 ⊢;exact iq _ _) (xP T.2 hrs))
 have hmu:r.G5=false:=by cases r<;>first|rfl|exact hr.elim|exact absurd ⟨_,_,_,_,rfl⟩ hto
 have Ko:=(hfun.to0 hmu) w H1 _ hJ m.tj (fun b hb=>m.Bo b hb) mf
 have hob1:upd ob (qs.flatMap fun p=>jA ob (ρ p.2)) id=none:=by
  rcases qI (ob:=ob) (qs.flatMap fun p=>jA ob (ρ p.2)) id with ⟨e1,_⟩|h'
  ·rw[e1];exact hob
  ·obtain⟨o',h1,_⟩:=mO (ob:=ob) qs (fun p=>ρ p.2) _ _ h';rw[hob]at h1;cases h1
 unfold Oper.wp
 rw[hrun,Oper.upon_enter]
 refine Ko.mono ?_
 rintro e w' ⟨v,rfl,hbel,N,hN,hres⟩
 show K (a.put o.dst v) w'
 rcases hres with hres|⟨e2,sz,cs,n,xs,rfl,l,hown,E,hcl,z,hnN⟩|⟨r',rfl,hres⟩
 rotate_left 2
 ·obtain⟨U,M⟩:=hm.grow hbel hN;exact hF _ _ v w' _ ov hr U (fun _ _ h=>h) M (.up (hres.mono (fun _ h=> .inr h) (fun _ _=>rfl)))
 ·have hr':R r (if r.nX then qs.flatMap fun p=>jA ob (ρ p.2)else[]):=by
   cases r with
   |o e sz cs=>cases hres
   |fr r'=>cases hres
   |mu x cs=>cases hres
   |to e sz cs rs=>cases hres
   |_=>exact hr
  by_cases T:r.nX=true
  ·rw[au T]at hr';obtain⟨U,M⟩:=m.grow hbel hN;exact hF _ _ v w' _ ov hr' (Dp.trans U) (fun _ _ h=>h) M (.up hres)
  ·rw[ah T]at hr';obtain⟨U,M⟩:=hm.grow hbel (N:=fun _=>False) (fun b h=>h.elim);exact hF _ _ v w' _ ov hr' U (fun _ _ h=>h) M (.up (MX (by simpa using T) hres))
 ·simp only[]at hr;obtain⟨_,hR⟩:=hr;have hne:cs.length/sz=n:=by rw[←E.1,hown.1,Nat.mul_div_cancel _ l]
  rw[hne]at hR;have hown0:w'.ownsRow w0.heap.size e2 sz v n xs:=⟨hown.1,hown.2.imp (fun h=>h) fun⟨g,cap,cur,e1,hb1,r⟩=>⟨g,cap,cur,e1,bK hm.bel.size hb1,r⟩⟩;have hnew:∀b,blk v=some b→w.heap.size≤b:=fun b hb=>(hown.lt b (R_ hown hb)).1
  by_cases T:(V.o e2 sz cs).nX=true
  ·rw[au T]at hR;obtain⟨U,M⟩:=m.grow hbel hN;have F:=ji.row hown0 l E hcl z (fun b hb h=>h.elim (fun h=>by have:=m.Bo b h;have:=hnew b hb;omega) (hnN b hb)) (O:=Ow w0 H0) (fun b hb=> .inl (bK hm.bel.size (hnew b hb)));obtain⟨e4,Y⟩:=M.ins hid F (fun j oj vj b G A I L=>by
    obtain⟨u,Z,C⟩:=m.obj j oj G;rw[A]at Z;cases Z;have:=(C.lt L).2;have:=hnew b I;omega)
   rw[rC]at Y;exact hF _ _ v w' _ _ hR ((Dp.trans U).trans e4) kY Y (uF hown0 z (iq _ _))
  ·rw[ah T]at hR;obtain⟨U,M⟩:=hm.grow hbel (N:=fun _=>False) (fun b h=>h.elim);have hra2:aB w' (fun b=>H b∨False) xs cs:=xP (Bool.eq_false_iff.2 T) E;have F:=ji.row hown0 l hra2 hcl z (fun b hb h=>h.elim (fun h=>by have:=hm.Bo b h;have:=hnew b hb;omega) (fun h=>h)) (O:=Ow w0 H0) (fun b hb=> .inl (bK hm.bel.size (hnew b hb)));obtain⟨e4,Y⟩:=M.ins hid F (fun j oj vj b G A I L=>by
    obtain⟨u,Z,C⟩:=hm.obj j oj G;rw[A]at Z;cases Z;have:=(C.lt L).2;have:=hnew b I;omega)
   exact hF _ _ v w' _ _ hR (U.trans e4) kY Y (uF hown0 z (iq _ _))
theorem s_callp(C:J w)(l:o.op= .call c)(A:c.callee= .value p)(y:a.eval p= .func (.func f) #[] #[])(z:P.funcs[f]? =some fn)(hname:(fn.name== "runtime.NumGoroutine")=false)(hbody:fn.body.isSome=true)
 (g:c.args.size=c.argTypes.size) (hq:Di P (c.args.toList.zip c.argTypes.toList)=some qs)
 (h:ev (fC P J) (mG P) ρ ob id R (.call f qs)):o.wp P a w K Q:=by
 simp only[ev]at h
 obtain⟨E,m,r,hfun,u⟩:=h
 exact s_callc hm hρ hF hid hob C (cap:=[]) (capV:=[]) l A y ⟨rfl,fun j v x h=>by simp at h⟩ z hname hbody g hq ⟨E,m,r,by rw[qF];exact hfun,u⟩
theorem s_call(u:J w)(j:o.op= .call c)(m:c.callee= .value (.func f))(l:P.funcs[f]? =some fn)(hname:(fn.name== "runtime.NumGoroutine")=false)(hbody:fn.body.isSome=true)
 (g:c.args.size=c.argTypes.size) (hq:Di P (c.args.toList.zip c.argTypes.toList)=some qs)
 (h:ev (fC P J) (mG P) ρ ob id R (.call f qs)):o.wp P a w K Q:=s_callp hm hρ hF hid hob u j m rfl l hname hbody g hq h
omit hid hob in
theorem s_mcall(hJ:J w){m:Nat}(hop:o.op= .call c)(hc:c.callee= .value (.func f))(hf:P.funcs[f]? =some fn)(hname:(fn.name== "runtime.NumGoroutine")=false)(hbody:fn.body.isSome=true)
 (hsz:c.args.size=c.argTypes.size) (hq:Di P (c.args.toList.zip c.argTypes.toList)=some qs)
 (h:ev (fC P J) (mG P) ρ ob id R (.xN f m qs)):o.wp P a w K Q:=by
 simp only[ev]at h
 obtain⟨hl,Uj⟩:=BV hq
 have hl2:c.args.toList.length=qs.length:=by
  rw[←hl,List.length_zip];simp[hsz]
 have arg:∀(j:Nat) (p:Operand) (q:Nat×X),c.args.toList[j]? =some p→qs[j]? =some q→cX p=some q.2∧0<q.1:=fun j p q hp g=>by
  have hj:j<c.argTypes.toList.length:=by
   have:=(iR.1 hp).1;simp at this ⊢;omega
  exact Uj j (p,c.argTypes.toList[j]) q (List.getElem?_zip_eq_some.2 ⟨hp,bC hj⟩) g
 cases hx:(qs[m]?).map (fun p=>ρ p.2)with
 |none=>rw[hx]at h;exact h.elim
 |some v0=>
  rw[hx]at h;cases v0<;>simp only[]at h<;>(try exact h.elim);rename_i z i n0;cases I:ob i with
  |none=>rw[I]at h;exact h.elim
  |some C=>
   rw[I]at h;obtain⟨⟨hok,hargs,hmu,GV,hapart⟩,r,cs',hfun,hrl,hR⟩:=h;obtain⟨qm,hqm,hqv⟩:=jT.1 hx;have Uk:m<qs.length:=(iR.1 hqm).1;have hmlt2:m<c.args.toList.length:=om;obtain⟨pm,hpm⟩:∃p,c.args.toList[m]? =some p:=⟨_,bC hmlt2⟩;have hvm:=hρ _ _ (arg m pm qm hpm hqm).1;rw[hqv]at hvm;obtain⟨ba,cap,ev0,G,hml,hcp,ha⟩:=hvm.jK;obtain⟨H1,Dp,A,hfr,hfr5⟩:=hm.freeze (mO (ob:=ob) (qs.eraseIdx m) (fun p=>ρ p.2));obtain⟨vi,hvi,H⟩:=hm.obj i C I;rw[G]at hvi;cases hvi;have hkeys:∀k x,(k,x)∈((qs.eraseIdx m).flatMap fun p=>jA ob (ρ p.2))→k≠i:=fun k x hk e=>by
    obtain⟨p,hp,hk2⟩:=nN.1 hk;have M:=dh.1 (dh.1 hapart p hp) _ hk2;simp[e]at M
   have Ui:∀b,blk (a.eval pm)=some b→¬H1 b:=fun b hb M=>by
    rcases hfr5 b M with L|⟨k,x,u,L,h3,h4⟩
    ·have:=(H.fz b hb).1 L;rw[hmu]at this;cases this
    ·obtain⟨ok,hok',_⟩:=mO (ob:=ob) (qs.eraseIdx m) (fun p=>ρ p.2) _ _ L;exact hm.sep i k C ok _ u b (fun e=>hkeys k x L e.symm) I hok' G h3 hb h4
   rcases H.bd with ⟨h',_⟩|⟨_,Y,n',xs,hown,hra,hnm⟩
   ·rw[GV]at h';cases h'
   ·have hfun':MFun P J f ((qs.map fun p=>rd ob p.1 (ρ p.2)).set m (.o C.e C.sz C.cs)) r cs':=by cases r<;>first|exact hfun|(simp[V.nX]at hrl)
    obtain⟨U,e',sz',cs0,E,hrun⟩:=hfun';have hmm:U=m∧e'=C.e∧sz'=C.sz∧cs0=C.cs:=by
     rw[List.getElem?_set]at E;split at E
     ·rename_i e1;split at E
      ·cases E;exact⟨e1.symm,rfl,rfl,rfl⟩
      ·cases E
     ·exfalso;rw[iU,jT]at E;obtain⟨q,g,hq2⟩:=E;have:=dh.1 hargs q (dP g);rw[hq2]at this;cases this
    obtain⟨rfl,rfl,rfl,rfl⟩:=hmm;have Ko:=hrun w H1 (c.args.toList.map a.eval) (a.eval pm) n' xs hJ A.tj (fun b hb=>A.Bo b hb) (by simp[hl2]) (by rw[iU,hpm];rfl) (fun j u x hj M L=>by
     rw[iU,jT]at M;obtain⟨p,hp,rfl⟩:=M;rw[List.getElem?_set_ne (fun e=>hj e.symm),iU,jT]at L;obtain⟨q,g,rfl⟩:=L;obtain⟨hx1,hpos⟩:=arg j p q hp g;have hmem:q∈qs:=dP g;refine ry hm hpos (hρ _ _ hx1) (Dk hok _ (eG.2 ⟨q,hmem,rfl⟩)) (.inl (dh.1 hargs q hmem)) Dp.hH (fun k y u b M L h3=>hfr k y u b (nN.2 ⟨q,?_,M⟩) L h3);exact List.mem_eraseIdx_iff_getElem?.2 ⟨j,hj,g⟩) Y hown (hra.mono Dp.hH (fun _ _=>rfl)) (H.cl (xe GV)) hnm Ui
    unfold Oper.wp;have hrunE:(execOp a.eval o).run P w= .ok (.enter f (c.args.map a.eval)) w:=by
     have hn:fn.name≠ "runtime.NumGoroutine" :=by simpa using hname
     have hb:¬(fn.body=none):=by intro e;rw[e]at hbody;cases hbody
     simp[execOp,hop,resolve,hc,Act.eval,Deferred.ofValue,invoke,callFunc,hf,hn,hb]
    rw[hrunE,Oper.upon_enter];have yJ:(c.args.toList.map a.eval).toArray=c.args.map a.eval:=by
     apply Array.ext';simp
    rw[yJ]at Ko;refine Ko.mono ?_;rintro ex w' ⟨rv,rfl,hbel,hrr,_,hcl',xs',Nw,hown',T,hra'⟩;show K (a.put o.dst rv) w';have hO:∀b,blk (a.eval pm)=some b→Ow w0 H0 b:=H.ow;have hoi:upd ob ((qs.eraseIdx U).flatMap fun p=>jA ob (ρ p.2)) i=some C:=by
     rcases qI (ob:=ob) ((qs.eraseIdx U).flatMap fun p=>jA ob (ρ p.2)) i with ⟨e1,_⟩|h'
     ·rw[e1];exact I
     ·exact absurd rfl (hkeys _ _ h')
    have hblt:∀b,blk (a.eval pm)=some b→b<w.heap.size:=fun b hb=>(H.lt hb).2
    obtain⟨Dj,hm2⟩:=A.step (row:=blk (a.eval pm)) (w':=w') (ob':=upd ob ((i,none)::(qs.eraseIdx U).flatMap fun p=>jA ob (ρ p.2))) (jZ:=ov) (A.bel.via hbel hO) hbel.size
     (fun k hk hne=>hbel.block k hk (fun e=>hne e.symm)) (fun b hb e=>Ui b e.symm hb) (fun _ _ h=>h) (fun q F hq=>by
       by_cases eq:i=q
       ·subst eq;simp only[upd,if_true]at hq;cases hq
       ·left;simp only[upd,ah eq]at hq;exact⟨hq,fun u b M L e=>A.sep i q C F _ u b eq hoi hq G M e.symm L⟩)
    have hoth:∀q F,i≠q→upd ob ((i,none)::(qs.eraseIdx U).flatMap fun p=>jA ob (ρ p.2)) q=some F→upd ob ((qs.eraseIdx U).flatMap fun p=>jA ob (ρ p.2)) q=some F:=fun q F hq h=>by
     simpa only[upd,ah hq]using h
    have hno:∀q F,upd ob ((i,none)::(qs.eraseIdx U).flatMap fun p=>jA ob (ρ p.2)) q=some F→i≠q:=fun q F h e=>by
     subst e;simp only[upd,if_true]at h;cases h
    obtain⟨hext3,hm3⟩:=hm2.more (N:=Nw) (fun b hb=>⟨(T b hb).2,bK hm.bel.size (T b hb).1⟩) (fun q F u b hq hu hb hN=>by
     have g:=hoth q F (hno q F hq) hq;obtain⟨u',hu',hur⟩:=A.obj q F g;rw[hu]at hu';cases hu';have:=(hur.lt hb).2;have:=(T b hN).1;omega)
    obtain⟨hext4,hm4⟩:=hm3.step (row:=none) (w':=w') (ob':=upd ob ((i,some {C with cs:=cs'})::(qs.eraseIdx U).flatMap fun p=>jA ob (ρ p.2))) (jZ:=ov) hm3.bel (aY _) (fun _ _ _=>rfl) (fun _ _=>sy) (fun _ _ h=>h) (fun q F hq=>by
     by_cases eq:i=q
     ·right;subst eq;simp only[upd,if_true,fU]at hq;subst hq;refine⟨a.eval pm,G,?_,fun l ol vl b hl Z hvl hbv hbl=>?_⟩
      ·have:=ji.row (O:=Ow w0 H0) hown' Y hra' hcl' hnm (fun b hb h=>h.elim (Ui b hb) (fun h=>by have:=hblt b hb;have:=(T b h).1;omega)) hO;have e4:({C with cs:=cs'}:Ob)={e:=C.e,sz:=C.sz,cs:=cs',mu:=true,pg:=false}:=by cases C;simp_all
       rw[e4];exact this _
      ·simp only[upd,ah (fun e=>hl e.symm:¬i=l)]at Z;obtain⟨u,hu,_⟩:=A.obj l ol Z;rw[hvl]at hu;cases hu;exact A.sep i l C ol _ _ b (fun e=>hl e.symm) hoi Z G hvl hbv hbl
     ·left;simp only[upd,ah eq]at hq;exact⟨by simpa only[upd,ah eq]using hq,fun _ _ _ _=>sy⟩)
    exact hF _ _ rv w' _ ov hR (((Dp.trans Dj).trans hext3).trans hext4) (fun _ _ h=>h) hm4 (.up (MX hrl hrr))
omit hid hob in
theorem s_xcall{qs:List X}(m:o.op= .call c)(C:c.callee= .value (.func f))(hq:cXs c.args.toList=some qs)
 (h:ev (fC P J) (mG P) ρ ob id R (.zC f qs)):o.wp P a w K Q:=by
 simp only[ev]at h
 obtain⟨r,hfun,z⟩:=h
 obtain⟨hl,g⟩:=M_ hq
 obtain⟨v,hrun,hrep⟩:=hfun w H ov (c.args.toList.map a.eval) (by simpa using hl) (fun j v x y u=>by
  simp only[iU,jT]at y u;obtain⟨p,A,rfl⟩:=y;obtain⟨q,l,rfl⟩:=u;exact hρ _ _ (g j p q A l))
 have yJ:(c.args.toList.map a.eval).toArray=c.args.map a.eval:=by
  apply Array.ext';simp
 rw[yJ]at hrun
 refine fin_same hm hF (cv:=v) ?_ hrep z
 simp[execOp,m,resolve,C,Act.eval,Deferred.ofValue,invoke,hrun]
omit hm hρ hF hid hob in
theorem mQ{α:Type}{xs:Array α}{l:List α}(h:xs.toList=l):xs=l.toArray:=by subst h;simp
omit hm hρ hF hid hob in
theorem xQ(h:ML P t=some e):P.underlying t=some (.slice e):=by
 unfold ML at h;split at h
 ·cases h;assumption
 ·cases h
omit hid hob in
theorem s_cpy{t':TypeId}{d:Operand}{A:X}{f:TypeInfo}(U:o.op= .call {callee:= .builtin .copy,args:=#[d,x],argTypes:=#[t,t']})(ht:P.underlying t=some (.slice e))(hi:P.info? e=some f)(hpos:0<f.size)(hd:cX d=some A)(J:cX x=some x')
 (h:ev (fun _ _ _=>False) (fun _ _ _=>False) ρ ob id R (.Ug f.size A x')):o.wp P a w K Q:=by
 have h1:=hρ d A hd
 have h2:=hρ x x' J
 have G:Rep w H ov (a.eval d) (Dh (ρ A)):=by
  cases L:ρ A<;>rw[L]at h1<;>first|exact Ej h1|exact h1
 simp only[ev]at h
 have MZ:∀I w',(Builtin.copy_ #[t,t'] o.type #[a.eval d,a.eval x]).run P w= .ok I w'→(execOp a.eval o).run P w= .ok (.value I) w':=fun I w' hr=>by
  simp[execOp,U,resolve,invoke,builtin,hr]
 cases L:Dh (ρ A)<;>rw[L]at h G<;>(try simp only[]at h)
 case sl s1 j off m=>
  cases hu:rd ob f.size (ρ x')<;>rw[hu]at h<;>(try simp only[]at h);case l s2 xs=>
   cases g:ob j with
   |none=>rw[g]at h;exact h.elim
   |some oo=>
    rw[g]at h;obtain⟨⟨Y,rfl,rfl,Z,hfit,hcl⟩,hR⟩:=h;obtain⟨da,dcap,u,e0,hml,hcp,T,ha⟩:=G.sN;obtain⟨ba,k,c,us,e1,O,hlen,hcells,E⟩:=GZ hm hpos h2 Y hu;rw[hlen,Nat.mul_div_cancel _ O]at hR;have C:xs.take (m*f.size)=xs.take (min k m*f.size):=by
     rcases Nat.le_total k m with y|y
     ·rw[pR y,jB (by rw[hlen];exact kF _ y),jB (by rw[hlen];exact aY _)]
     ·rw[Nat.min_eq_right y]
    have hral:aB w H (us.take (min k m*f.size)) (xs.take (m*f.size)):=by
     rw[C];simpa using E.drop_take 0 (min k m*f.size)
    have husl:(us.take (min k m*f.size)).length=min k m*f.size:=by
     rw[jo,E.1,hlen,pR (kF _ (Nat.min_le_left _ _))]
    have hload:(Builtin.firstCells f.size (min k m) (.slice ba k c)).run P w= .ok (us.take (min k m*f.size)).toArray w:=by
     cases ba with
     |none=>
      have M:us=[]:=by
       rcases hcells with h|⟨a0,h,_⟩
       ·exact h
       ·cases h
      subst M;simp[Builtin.firstCells]
     |some a0=>
      have hc':∀j v,(us.take (min k m*f.size))[j]? =some v→w.cell? (a0.add j)=some v:=by
       intro j v F;rcases hcells with h|⟨a1,h,hh⟩
       ·subst h;simp at F
       ·cases h;rw[ou]at F;split at F
        ·exact hh j v F
        ·cases F
      have:=run_loadCells_list (P:=P) w a0 _ hc';rw[husl]at this;exact this
    have z:Nat.min k m=min k m:=rfl;generalize min k m=q at*
    by_cases hz:q=0
    ·subst hz;have hxnil:xs.take (m*f.size)=[]:=by rw[C,iT];rfl
     rw[iT,List.take_zero]at hload;have hrun:(Builtin.copy_ #[t,t'] o.type #[a.eval d,a.eval x]).run P w= .ok (goInt 0) w:=by
      rw[e0,e1];cases da<;>simp[Builtin.copy_,run_underlying ht,Builtin.lenOf,sizeOf,typeInfo,hi,z,hload,storeCells]
     unfold Oper.wp;rw[MZ _ _ hrun];refine hF _ _ _ w H ov hR (Ext.refl _ _ _) (fun _ _ h=>h) ?_ (.i _ _);have:upd ob [(j,some {oo with cs:=setAt oo.cs off (xs.take (m*f.size))})]=ob:=by
      funext i;rw[hxnil];simp only[upd,setAt];split
      ·rename_i e;subst e;exact g.symm
      ·rfl
     rw[this];exact hm
    ·rcases ha with h0|⟨b,hb,rfl⟩
     ·exact absurd (by rw[←z,h0];exact Nat.min_eq_right (aG _)) hz
     ·obtain⟨w',N,kJ,hm2⟩:=hm.store (P:=P) g Z T hb hral.cs (fun x J=> .inl (jl hcl _ (List.mem_of_mem_take J))) (bK (Nat.add_le_add_left (by rw[jo];exact Nat.min_le_left _ _) _) hfit);have hrun:(Builtin.copy_ #[t,t'] o.type #[a.eval d,a.eval x]).run P w= .ok (goInt q) w':=by
       rw[e0,e1];simp[Builtin.copy_,run_underlying ht,Builtin.lenOf,sizeOf,typeInfo,hi,z,hload,N]
      unfold Oper.wp;rw[MZ _ _ hrun];exact hF _ _ _ w' H ov hR kJ (fun _ _ h=>h) hm2 (.i _ _)
variable{ao:aK}
theorem s_cCall(hJ:J w)(A:o.op= .call c)(g:Wy P c=some ao)(h:ev (fC P J) (mG P) ρ ob id R ao):o.wp P a w K Q:=by
 unfold Wy at g;split at g
 ·rename_i Bq;split at g
  ·rename_i x t C ht;have e:c={callee:= .builtin .len,args:=#[x],argTypes:=#[t]}:=by
    obtain⟨c1,c2,c3⟩:=c;simp only at C ht Bq;rw[mQ C,mQ ht,Bq]
   split at g
   ·rename_i el x' N m;cases g;have M:=hρ x x' m;simp only[ev]at h;cases hv:ρ x'<;>rw[hv]at h M<;>(try simp only[]at h);case l s cs=>
     obtain⟨ba,n,cap,f,b,q,e1,G,hn,_⟩:=M.vV;rw[hn,Nat.mul_div_cancel _ G]at h;exact FZ hm hF (e▸A) N m e1 h
    case ow s j n=>
     obtain⟨ba,cap,e1,_⟩:=M.jK;exact FZ hm hF (e▸A) N m e1 h
    case sl s j off n=>
     obtain⟨ba,cap,u,e1,_⟩:=M.sN;exact FZ hm hF (e▸A) N m e1 h
    case nl=>exact FZ hm hF (e▸A) N m M.rq h
   ·cases g
  ·cases g
 ·rename_i Bq;split at g
  ·rename_i s x t t' C ht;split at g
   ·rename_i e0;subst e0;have e:c={callee:= .builtin .append,args:=#[s,x],argTypes:=#[t,t]}:=by
     obtain⟨c1,c2,c3⟩:=c;simp only at C ht Bq;rw[mQ C,mQ ht,Bq]
    split at g
    ·rename_i el s' x' H U m;split at g
     ·rename_i sz Y z O;cases g;have I:ev (fun _ _ _=>False) (fun _ _ _=>False) ρ ob id R (.app el sz Y s' x'):=by simpa only[ev]using h
      exact s_app hm hρ hF hid hob (e▸A) (xQ H) O U m I
     ·cases g
    ·cases g
   ·cases g
  ·cases g
 ·rename_i Bq;split at g
  ·rename_i x y C;split at g
   ·rename_i x' L m E;cases g;have I:ev (fun _ _ _=>False) (fun _ _ _=>False) ρ ob id R (.mm true x' L):=by simpa only[ev]using h
    exact s_mm (mx:=true) hm hρ hF A (by simpa using Bq) (mQ C) m E I
   ·cases g
  ·cases g
 ·rename_i Bq;split at g
  ·rename_i x y C;split at g
   ·rename_i x' L m E;cases g;have I:ev (fun _ _ _=>False) (fun _ _ _=>False) ρ ob id R (.mm false x' L):=by simpa only[ev]using h
    exact s_mm (mx:=false) hm hρ hF A (by simpa using Bq) (mQ C) m E I
   ·cases g
  ·cases g
 ·rename_i Bq;split at g
  ·rename_i x y t t' C ht;have e:c={callee:= .builtin .copy,args:=#[x,y],argTypes:=#[t,t']}:=by
    obtain⟨c1,c2,c3⟩:=c;simp only at C ht Bq;rw[mQ C,mQ ht,Bq]
   split at g
   ·rename_i el x' L H m E;split at g
    ·rename_i ti T;split at g
     ·rename_i hpos;cases g;have I:ev (fun _ _ _=>False) (fun _ _ _=>False) ρ ob id R (.Ug ti.size x' L):=by simpa only[ev]using h
      exact s_cpy hm hρ hF (e▸A) (xQ H) T hpos m E I
     ·cases g
    ·cases g
   ·cases g
  ·cases g
 ·rename_i f Bq;split at g
  ·rename_i fn Z;split at g
   ·cases g
   ·rename_i hname;split at g
    ·rename_i hbody;split at g
     ·rename_i G;split at g
      ·rename_i xs F;split at g
       ·cases g;exact s_mcall hm hρ hF hJ A Bq Z (by simpa using hname) hbody G F h
       ·cases g;exact s_call hm hρ hF hid hob hJ A Bq Z (by simpa using hname) hbody G F h
      ·cases g
     ·cases g
    ·split at g
     ·rename_i xs F;cases g;exact s_xcall hm hρ hF A Bq F h
     ·cases g
  ·cases g
 ·cases g
omit hm hρ hF hid hob in
theorem eqc_run{H':Nat→Prop}{k:Nat}(a:kindOf P e=some k){v u:Value}{x y:V}(f:Rep0 w H' v x)(g:Rep0 w H' u y){t:Bool}(ht:Ws k x y=some t)(d:Nat):
 (Op.equalIn (d+1) e v u).run P w= .ok t w:=by
 unfold kindOf at a
 split at a
 ·rename_i c;cases a;cases f<;>cases g<;>simp only[Ws]at ht<;>(try cases ht);exact run_equalIn_bool w d e _ _ c
 ·rename_i c;cases a;cases f<;>cases g<;>simp only[Ws]at ht<;>(try cases ht);split at ht
  ·rename_i j;cases ht;subst j;rw[run_equalIn_int w d e _ _ _ _ c];congr 1
  ·cases ht
 ·rename_i c;cases a;cases f<;>cases g<;>simp only[Ws]at ht<;>(try cases ht);rw[run_equalIn_string w d e _ _ c];congr 1;simp[ByteArray.toList_eq]
 ·cases a
omit hm hρ hF hid hob in
theorem Na{H':Nat→Prop}{vs us:List Value}(d:Nat):∀(G:List Field) (ks:List Nat) (k:Nat) (xs m:List V) (t:Bool),MN P k G=some ks→aB w H' (vs.drop k) xs→aB w H' (us.drop k) m→Eg ks xs m=some t→
 (Op.eqFields (d+1) vs.toArray us.toArray G).run P w= .ok t w
 |[],ks,k,xs,m,t,g,U,T,c=>by
  simp only[MN,fU]at g;subst g;cases xs<;>cases m<;>simp only[Eg]at c<;>cases c;simp[Op.eqFields]
 |f::G,ks,k,xs,m,t,g,U,T,c=>by
  simp only[MN]at g;split at g
  ·rename_i n l E hl;split at g
   ·rename_i C;cases g;simp only[dA,ku,ne_eq,beq_iff_eq]at C;obtain⟨hname,hoff⟩:=C;match xs,m,c with
    |x::r,y::q,c=>
     simp only[Eg]at c;cases F:Ws n x y with
     |none=>rw[F]at c;simp[both]at c
     |some Z=>
      cases Q:Eg l r q with
      |none=>rw[F,Q]at c;simp[both]at c
      |some t2=>
       rw[F,Q]at c;simp only[both,fU]at c;have step:∀{zs:List Value} {z:V} {zr:List V},aB w H' (zs.drop k) (z::zr)→∃v,zs[k]? =some v∧Rep0 w H' v z∧aB w H' (zs.drop (k+1)) zr:=fun {zs z zr} h=>by
        cases e:zs.drop k with
        |nil=>have:=h.1;rw[e]at this;simp at this
        |cons v rest=>
         have hk:zs[k]? =some v:=by have:=congrArg (·[0]?) e;simpa using this
         have hr:zs.drop (k+1)=rest:=by rw[←List.drop_drop,e];rfl
         rw[e]at h;refine⟨v,hk,h.2 0 v z rfl rfl,?_⟩;rw[hr];exact⟨by simpa using h.1,fun j Y x' a b=>h.2 (j+1) Y x' (by simpa using a) (by simpa using b)⟩
       obtain⟨v,J,I,H⟩:=step U;obtain⟨u,N,M,L⟩:=step T;have A:P.plainKey f.type=true:=by
        unfold kindOf at E;unfold Program.plainKey;split at E<;>first|(rename_i O;rw[O];done)|(rename_i O;simp[O];done)|(cases E)
       have p1:=run_part_plain (P:=P) w A (xs:=vs.toArray) (off:=f.offset) (v:=v) (by rw[hoff];simpa using J);have p2:=run_part_plain (P:=P) w A (xs:=us.toArray) (off:=f.offset) (v:=u) (by rw[hoff];simpa using N);have p3:=eqc_run (P:=P) E I M F d;have ih:=Na d G l (k+1) r q t2 hl H L Q;simp only[Op.eqFields,hname,ne_eq,kP,if_true,Sem.run_bind,p1,p2,p3,Result.andThen_ok];subst c;cases Z
       ·simp
       ·simpa using ih
    |[],_,c=>exact absurd c (by cases m<;>simp[Eg])
    |_::_,[],c=>simp[Eg]at c
   ·cases g
  ·cases g
omit hm hρ hF hid hob in
theorem Dq:∀{cs:List V} {l:List UInt8},bytesOf cs=some l→cs.length=l.length∧∀(j:Nat) (c:UInt8),l[j]? =some c→cs[j]? =some (.i .u8 (c.toNat:Int))
 |[],l,h=>by simp only[bytesOf,fU]at h;subst h;exact⟨rfl,fun j c h=>by cases h⟩
 |x::r,l,h=>by
  unfold bytesOf at h;split at h
  ·rename_i e;cases e
  ·rename_i n m e;cases e;split at h
   ·rename_i u hl;split at h
    ·rename_i y;cases h;obtain⟨g,f⟩:=Dq hl;refine⟨by simp[g],fun j c a=>?_⟩;cases j with
     |zero=>
      simp only[Jm,fU]at a ⊢;subst a;congr 1;simp only[UInt8.toNat_ofNat'];omega
     |succ j=>simpa using f j c (by simpa using a)
    ·cases h
   ·cases h
  ·cases h
omit hid hob in
theorem s_pur{p:PO}{qs:List X}
 (hcase:(∃neg ks op t x y t' x' H fs,p= .eqs neg ks∧o.op= .binOp op t x y t'∧op=(if neg=true then .neq else .eql)∧P.underlying t=some (.struct fs)∧flatS P t=some ks∧cX x=some x'∧cX y=some H∧qs=[x',H])∨
   (∃s d e x x',p= .s2b e∧o.op= .convert s d x∧P.underlying s=some .string∧P.underlying d=some (.slice e)∧P.underlying e=some (.int .u8)∧cX x=some x'∧qs=[x'])∨
   (∃s d e x x',p= .b2s∧o.op= .convert s d x∧P.underlying s=some (.slice e)∧P.underlying e=some (.int .u8)∧P.underlying d=some .string∧cX x=some x'∧qs=[x']))
 (h:ev (fun _ _ _=>False) (fun _ _ _=>False) ρ ob id R (.Uf p qs)):o.wp P a w K Q:=by
 obtain⟨m,h⟩:=h
 rcases hcase with ⟨neg,ks,op,t,x,y,t',x',H,fs,rfl,g,M,hu,A,I,Z,rfl⟩|⟨s,d,e,x,x',rfl,g,L,Y,F,I,rfl⟩|⟨s,d,e,x,x',rfl,g,L,F,Y,I,rfl⟩
 ·simp only[dI,fJ]at h m;have C:=hρ x x' I;have hyr:=hρ y H Z;cases E:rd ob 1 (ρ x')<;>cases h2:rd ob 1 (ρ H)<;>rw[E,h2]at h<;>simp only[qZ]at h<;>(try exact h.elim);rename_i xs ys;obtain⟨H1,kJ,O,z,_⟩:=hm.freeze ((jk (ob:=ob) (ρ x')).append (jk (ob:=ob) (ρ H)));have r1:=ry hm (sz:=1) dc C m.1 (.inl (by rw[E];rfl)) kJ.hH (fun k y u b a=>z k y u b (uC _ a));have r2:=ry hm (sz:=1) dc hyr m.2.1 (.inl (by rw[h2];rfl)) kJ.hH (fun k y u b a=>z k y u b (yI _ a));rw[E]at r1;rw[h2]at r2;cases F:Eg ks xs ys with
  |none=>rw[F]at h;exact h.elim
  |some tt=>
   rw[F]at h;simp only[kZ]at h;obtain⟨vs,e1,ra1⟩:=(Rep.up (ov:=ov) r1).GR;obtain⟨us,e2,ra2⟩:=(Rep.up (ov:=ov) r2).GR;unfold flatS at A;rw[hu]at A;simp only[]at A;split at A
   ·rename_i hg;simp only[dA,Bool.not_eq_true']at hg;have U:P.fieldsOf t=fs:=by simp[Program.fieldsOf,hu]
    have hrun:=Na (P:=P) (w:=w) (vs:=vs) (us:=us) 9998 fs.toList ks 0 xs ys tt A (by simpa using ra1) (by simpa using ra2) F;have G:=run_equalIn_struct (P:=P) w 9999 t vs.toArray us.toArray (by rw[U];exact hu) hg.1;rw[U,hrun]at G;refine fin_same hm hF (cv:= .bool (if neg=true then !tt else tt)) ?_ (.b _) h;cases neg
    ·simp only[aJ,if_false]at M ⊢;subst M;simp only[execOp,g,e1,e2,Sem.run_bind,run_eqGuard_agg w _ t x y _ _ hg.2,Result.andThen_ok,run_eql_struct,G,Sem.run_pure]
    ·simp only[if_true]at M ⊢;subst M;simp only[execOp,g,e1,e2,Sem.run_bind,run_eqGuard_agg w _ t x y _ _ hg.2,Result.andThen_ok,run_neq_struct,G,Sem.run_pure]
   ·cases A
 ·simp only[dI,fJ]at h m;have C:=hρ x x' I;cases E:rd ob 1 (ρ x')<;>rw[E]at h<;>simp only[qZ]at h<;>(try exact h.elim);rename_i l;split at h
  ·rename_i v hv;split at hv
   ·rename_i hl;cases hv;obtain⟨H1,kJ,O,z,_⟩:=hm.freeze (jk (ob:=ob) (ρ x'));have r1:=ry hm (sz:=1) dc C m.1 (.inl (by rw[E];rfl)) kJ.hH z;rw[E]at r1;have e1:=(Rep.up (ov:=ov) r1).BB;have J:(⟨l.toArray⟩:ByteArray).size=l.length:=WC l;have hrun:=Go.Lib.run_convert_string_bytes (P:=P) w s d e ⟨l.toArray⟩ L Y F;have hB:Below w.heap.size w (Go.Lib.bytesWorld w e ⟨l.toArray⟩):=⟨rfl,rfl,rfl,by rw[Go.Lib.bytesWorld_size];omega,fun k hk=>Go.Lib.bytesWorld_at_old w e _ k hk⟩;obtain⟨Dj,hm2⟩:=hm.grow hB (N:=fun b=>b=w.heap.size) fun b hb=>⟨om,by rw[hb,Go.Lib.bytesWorld_size];omega⟩
    unfold Oper.wp;have:(execOp a.eval o).run P w= .ok (.value (.slice (some ⟨w.heap.size,0,none⟩) (⟨l.toArray⟩:ByteArray).size (grownCap w (⟨l.toArray⟩:ByteArray).size 0 e))) (Go.Lib.bytesWorld w e ⟨l.toArray⟩):=by
     simp only[execOp,g,e1,Sem.run_bind,hrun,Result.andThen_ok,Sem.run_pure]
    rw[this];refine hF _ [] _ _ _ ov h Dj (fun _ _ h=>h) hm2 (.up ?_);rw[J];refine .l _ l.length _ 1 (Bt l) (fun j=> .int .u8 ((l.getD j 0).toNat:Int)) w.heap.size 0 Nat.zero_lt_one (by simp[Bt]) (by unfold maxLen;omega) (grownCap_ge w l.length 0 e) (.inr ⟨rfl,.inr rfl⟩) (fun j T=>?_) (fun j y Z=>?_)
    ·have:=Go.Lib.bytesWorld_cell w e ⟨l.toArray⟩ j (by rw[J];simpa[Bt]using T);rw[eY];exact this
    ·simp only[Bt,iU,jT]at Z;obtain⟨c,hc,rfl⟩:=Z;have:l.getD j 0=c:=by rw[dN,hc];rfl
     rw[this];exact .i _ _
   ·cases hv
  ·exact h.elim
 ·simp only[dI,fJ]at h m;have C:=hρ x x' I;cases E:rd ob 1 (ρ x')<;>rw[E]at h<;>simp only[qZ]at h<;>(try exact h.elim);rename_i sz cs;by_cases hz:sz=1
  ·subst hz;rw[au rfl]at h;cases hb:bytesOf cs with
   |none=>rw[hb]at h;exact h.elim
   |some l=>
    rw[hb]at h;simp only[kZ]at h;obtain⟨hlen,hget⟩:=Dq hb;obtain⟨H1,kJ,O,z,_⟩:=hm.freeze (jk (ob:=ob) (ρ x'));have r1:=ry hm (sz:=1) dc C m.1 (.inl (by rw[E];rfl)) kJ.hH z;rw[E]at r1;obtain⟨ba,n,cap,f,b,off,e1,_,M,hm',hcp,ha,hc,hr⟩:=r1.vV;have hnl:n=l.length:=om;subst hnl;refine fin_same hm hF (cv:= .string ⟨l.toArray⟩) ?_ (.s _) h;rcases ha with rfl|⟨rfl,_⟩
    ·have hl0:l=[]:=nz (by simpa using hlen.symm);subst hl0;cases ba with
     |none=>
      simp only[execOp,g,e1,Sem.run_bind,run_convert_bytes_string w s d e none _ _ L F Y,Conv.bytesToString,Sem.run_pure,Result.andThen_ok];rfl
     |some ad=>
      have:=run_convert_bytes_back (P:=P) w s d e ad cap [] L F Y (fun j T=>by simp at T);simp only[dJ]at this ⊢;simp only[execOp,g,e1,Sem.run_bind,dJ,this,Result.andThen_ok,Sem.run_pure]
    ·have:=run_convert_bytes_back (P:=P) w s d e ⟨b,off,none⟩ cap l L F Y (fun j T=>by
      rw[Go.WideShapes.add_plain,hc j om];have h3:=hget j l[j] (bC T);have h4:=hr j _ h3;generalize f j=u at h4;cases h4;rfl)
     simp only[execOp,g,e1,Sem.run_bind,this,Result.andThen_ok,Sem.run_pure]
  ·rw[ah hz]at h;exact h.elim
theorem WJ(M:J w)(g:cOp P o.op=some ao)(h:ev (fC P J) (mG P) ρ ob id R ao):o.wp P a w K Q:=by
 generalize j:o.op=op at g;have F:∀ao:aK,(∀f xs,ao≠ .call f xs)→((∀f xs,ao≠ .zC f xs)∧(∀f m xs,ao≠ .xN f m xs))→ev (fC P J) (mG P) ρ ob id R ao→ev (fun _ _ _=>False) (fun _ _ _=>False) ρ ob id R ao:=fun ao z u h=>by
  cases ao<;>first|exact h|exact absurd rfl (z _ _)|exact absurd rfl (u.1 _ _)|exact absurd rfl (u.2 _ _ _)
 cases op<;>simp only[cOp]at g;case move x=>
  obtain⟨y,E,rfl⟩:=jT.1 g;exact s_mv hm hρ hF (.inl j) E (by simpa only[ev]using h)
 case assign x=>
  obtain⟨y,E,rfl⟩:=jT.1 g;exact s_mv hm hρ hF (.inr j) E (by simpa only[ev]using h)
 case pick c x y=>
  split at g
  ·rename_i z u A;cases g;exact s_pick hm hρ hF j z u A (by simpa only[ev]using h)
  ·cases g
 case binOp bop t x y t'=>
  split at g
  ·rename_i z u A;cases g;exact s_bin hm hρ hF j z u (F _ sy sy h)
  ·rename_i z u A;cases g;exact s_bin hm hρ hF j z u (F _ sy sy h)
  ·rename_i z u A;split at g
   ·cases g;exact s_eqb hm hρ hF j sy A z u (F _ sy sy h)
   ·cases g;exact s_eqb hm hρ hF j sy A z u (F _ sy sy h)
   ·cases g
  ·rename_i z u A;split at g
   ·cases g;exact s_isn hm hρ hF j sy A z u (F _ sy sy h)
   ·cases g;exact s_isn hm hρ hF j sy A z u (F _ sy sy h)
   ·cases g
  ·cases g
 case unOp uop t x=>
  obtain⟨y,E,rfl⟩:=jT.1 g;exact s_un hm hρ hF j E (F _ sy sy h)
 case convert s d x=>
  split at g
  ·rename_i z u A;cases g;exact s_cvt hm hρ hF j z u A (F _ sy sy h)
  ·rename_i z u A;split at g
   ·rename_i C;cases g;exact s_pur hm hρ hF (.inr (.inr ⟨s,d,_,x,_,rfl,j,z,C,u,A,rfl⟩)) (F _ sy sy h)
   ·cases g
  ·cases g
 case index t x i=>
  split at g
  ·rename_i z u A;cases g;exact s_six hm hρ hF j z u A (F _ sy sy h)
  ·cases g
 case indexAddr t x i=>
  split at g
  ·rename_i z u A;split at g
   ·rename_i L G;split at g
    ·cases g;exact s_idx hm hρ hF j (xQ z) G u A (F _ sy sy h)
    ·cases g
   ·cases g
  ·rename_i z u A;split at g
   ·rename_i C;split at g
    ·rename_i L G;split at g
     ·cases g;exact s_aix hm hρ hF j C G u A (F _ sy sy h)
     ·cases g
    ·cases g
   ·cases g
  ·cases g
 case load t p=>
  split at g
  ·rename_i z u A;cases g;exact s_ld hm hρ hF j z u A (F _ sy sy h)
  ·cases g
 case store t p x=>
  split at g
  ·rename_i z u A;split at g
   ·rename_i C;cases g;simp only[dA,beq_iff_eq]at C;exact s_stk hm hρ hF j z u A C.2 (F _ sy sy h)
   ·cases g;exact s_st hm hρ hF j z u A (F _ sy sy h)
  ·cases g
 case fieldAddr t p f=>
  split at g
  ·rename_i z u;split at g
   ·rename_i A;split at g
    ·rename_i C;split at g
     ·rename_i H;cases g;exact s_fad hm hρ hF j z A C H u (F _ sy sy h)
     ·cases g
    ·cases g
   ·cases g
  ·cases g
 case field t p f=>
  split at g
  ·rename_i z u;split at g
   ·rename_i A;split at g
    ·rename_i C H;cases g;exact s_fld hm hρ hF j z A C H u (F _ sy sy h)
    ·cases g
   ·cases g
  ·cases g
 case build t ps=>
  split at g
  ·rename_i z u;split at g
   ·rename_i A;split at g
    ·rename_i C;cases g;exact s_bld hm hρ hF j z u A C (F _ sy sy h)
    ·cases g
   ·cases g
  ·cases g
 case buildSlice t n ps=>
  split at g
  ·rename_i z;split at g
   ·rename_i u A;split at g
    ·rename_i C;cases g;exact s_bsl hm hρ hF hid hob j (xQ z) u A C (F _ sy sy h)
    ·cases g
   ·cases g
  ·cases g
 case makeSlice t l c=>
  split at g
  ·rename_i z u A;split at g
   ·rename_i C;cases g;exact s_mk hm hρ hF hid hob j (xQ z) C u A (F _ sy sy h)
   ·cases g
  ·cases g
 case slice t x lo hi mx=>
  cases mx with
  |some m=>cases g
  |none=>
   simp only[]at g;split at g
   ·rename_i z u A C;split at g
    ·rename_i H;split at g
     ·cases g;exact s_sub hm hρ hF j z H u A C (F _ sy sy h)
     ·cases g
    ·cases g
   ·rename_i z u A C;split at g
    ·rename_i H;split at g
     ·rename_i I;cases g;exact s_asl hm hρ hF j z H I.1 I.2 u A C (F _ sy sy h)
     ·cases g
    ·cases g
   ·cases g
 case alloc t=>
  split at g
  ·rename_i z;cases g;exact s_al hm hF hid hob j z (F _ sy sy h)
  ·cases g
 case extract x i=>
  obtain⟨y,E,rfl⟩:=jT.1 g;exact s_ext hm hρ hF j E (F _ sy sy h)
 case box e x=>
  obtain⟨y,E,rfl⟩:=jT.1 g;exact s_bx hm hρ hF hid hob j E (F _ sy sy h)
 case nilCheck x=>
  obtain⟨y,E,rfl⟩:=jT.1 g;exact s_nc hm hρ hF j E (F _ sy sy h)
 case call c=>exact s_cCall hm hρ hF hid hob M j g h
 all_goals cases g
theorem Jo(f:J w)(c:WA P o.op=some ao)(h:ev (fC P J) (mG P) ρ ob id R ao):o.wp P a w K Q:=by
 unfold WA at c;cases e:cOp P o.op with
 |none=>rw[e]at c;cases c;exact h.elim
 |some b=>rw[e]at c;cases c;exact WJ hm hρ hF hid hob f e h
end ops
structure AO where
 dst:Option Nat
 gd:Option (Nat×Bool)
 op:aK
 deriving Inhabited
def St.zl(s:St)(d:Option Nat)(v:V)(up:List (Nat×Option Ob)):St:=
 {env:=match d with|some d=>(d,v)::s.env|none=>s.env,yx:=up++s.yx,nx:=s.nx+1}
theorem dK(k:Nat)(v:V)(r:List (Nat×V))(t:Nat):lk ((k,v)::r) t=if k=t then v else lk r t:=rfl
theorem WL(up a:List (Nat×Option Ob)):lo (up++a)=upd (lo a) up:=by
 funext i;induction up with
 |nil=>rfl
 |cons p r c=>obtain⟨k,v⟩:=p;simp only[tZ,lo,upd];split<;>first|rfl|exact c
def gv(g:Option (Nat×Bool))(s:St)(run skip:Prop):Prop:=
 match g with
 |none=>run
 |some (t,true)=>(match s.get t with| .b x=>cnd (.b x) run skip| .un=>skip|_=>False)
 |some (t,false)=>(match s.get t with| .b x=>cnd (.b x) skip run| .un=>skip|_=>False)
section
variable (F G:Nat→List V→V→Prop)
def rgv:List AO→St→(St→Prop)→Prop
 |[],s,K=>K s
 |o::r,s,K=>gv o.gd s (ev F G s.val s.ob s.nx (fun v up=>rgv r (s.zl o.dst v up) K) o.op) (rgv r (s.zl o.dst .un []) K)
end
def cG(ops:Array Oper):Option (Nat×Bool)→Option (Option (Nat×Bool))
 |none=>some none
 |some (j,want)=>match (ops[j]?).bind (·.dst)with
  |some t=>some (some (t,want))
  |none=>none
def dOk(N:Nat):Option Nat→Bool
 |none=>true
 |some d=>decide (d<N)
def cRg(P:Program)(N:Nat)(ops:Array Oper):List Oper→Option (List AO)
 |[]=>some []
 |o::r=>match WA P o.op,cG ops o.guard,cRg P N ops r with
  |some p,some g,some l=>if dOk N o.dst then some (⟨o.dst,g,p⟩::l)else none
  |_,_,_=>none
section
variable {P:Program} {J:World→Prop} {w0 w:World} {H0:HS} {H:Nat→Prop} {ov:Nat→Option Value} {N:Nat} {a:Act} {s:St} {ops:Array Oper} {Q:Exit→Act→World→Prop}
theorem Conc.val(j:Conc w0 H0 w H ov N a s):∀p x,cX p=some x→Rep w H ov (a.eval p) (s.val x):=by
 intro p x h;cases p with
 |tmp t=>simp only[cX,fU]at h;subst h;exact j.env t
 |const v=>
  simp only[cX,fU]at h;subst h;show Rep w H ov v (cV v);unfold cV;split
  ·exact .nl
  ·rename_i cs;have:=Eo (w:=w) (H:=H) cs.toList;have l:Rep0 w H (.agg cs.toList.toArray) (.g (cs.toList.map cS)):= .g _ _ this.1 this.2;simpa using Rep.up (ov:=ov) l
  ·exact .up (O1 v)
 |func f=>simp only[cX,fU]at h;subst h;exact .up (.c _)
 |global g=>
  simp only[cX,fU]at h;subst h;show Rep w H ov (.pointer (some ⟨g,0,none⟩)) (match tabs g with|some cs=>V.ip cs 0|none=> .any);cases ht:tabs g with
  |none=>exact .any _
  |some cs=>exact .up (j.mem.tj.rep ht)
variable{t:Nat}
theorem Dt{a:Act}{d:Nat}{v:Value}(hd:d<a.tmps.size):((a.put (some d) v).tmps.getD t undef)=if d=t then v else a.tmps.getD t undef:=by
 simp only[Act.put,lH,Array.getElem?_setIfInBounds];split
 ·rename_i e;subst e;simp[hd]
 ·rfl
def nkp(H0:HS)(d:Option Nat):Prop:=∀m v,(m,v)∈H0.kp→d≠some m
theorem Conc.zl(c:Conc w0 H0 w H ov N a s){d:Option Nat}(hd:dOk N d=true)(f:nkp H0 d){v:V}{up:List (Nat×Option Ob)}{cv:Value}{w':World}{H':Nat→Prop}{jZ:Nat→Option Value}(he:Ext w H ov w' H' jZ)
 (j:∀i,i≠s.nx→ov i=none→jZ i=none) (hm:Mem w0 H0 w' H' jZ (upd s.ob up)) (g:Rep w' H' jZ cv v):Conc w0 H0 w' H' jZ N (a.put d cv) (s.zl d v up):=by
 refine⟨?_,?_,?_,?_,?_,fun id hid=>j id (by simp only[St.zl]at hid;omega) (c.new id (by simp only[St.zl]at hid;omega))⟩
 ·have:(s.zl d v up).ob=upd s.ob up:=by funext i;simp[St.zl,St.ob,WL];rfl
  rw[this];exact hm
 ·cases d with
  |none=>exact c.MJ
  |some d=>simp[Act.put,c.MJ]
 ·cases d<;>exact c.I7
 ·intro m v hm;cases d with
  |none=>exact c.kp m v hm
  |some d=>
   have hdN:d<a.tmps.size:=by rw[c.MJ];simpa[dOk]using hd
   rw[Dt hdN,ah (fun e=>f m v hm (by rw[e]))];exact c.kp m v hm
 ·intro t;cases d with
  |none=>exact(c.env t).mono he
  |some d=>
   have hdN:d<a.tmps.size:=by rw[c.MJ];simpa[dOk]using hd
   rw[Dt hdN];simp only[St.zl,St.get,dK];split
   ·exact g
   ·exact(c.env t).mono he
theorem Conc.noOb(f:Conc w0 H0 w H ov N a s):s.ob s.nx=none:=by
 cases h:s.ob s.nx with
 |none=>rfl
 |some o=>
  obtain⟨v,c,_⟩:=f.mem.obj _ _ h;rw[f.new s.nx (aY _)]at c;cases c
theorem WM(m:Conc w0 H0 w H ov N a s){j:Nat}(l:(ops[j]?).bind (·.dst)=some t):(∀x,s.get t= .b x→yielded ops a.tmps j=some x)∧(s.get t= .un→yielded ops a.tmps j=none):=by
 have h:=m.env t;have e:yielded ops a.tmps j=match (a.tmps[t]? :Option Value)with|some (.bool b)=>some b|_=>none:=by
  unfold yielded;rw[l];rfl
 constructor
 ·intro x g;rw[g]at h;have c:=h.qH;rw[e];simp only[lH]at c;cases f:a.tmps[t]? with
  |none=>rw[f]at c;simp[undef]at c
  |some v=>rw[f]at c;simp at c;subst c;rfl
 ·intro g;rw[g]at h;have c:=h.WB;rw[e];simp only[lH]at c;cases f:a.tmps[t]? with
  |none=>rfl
  |some v=>rw[f]at c;simp at c;subst c;rfl
theorem WN(y:Conc w0 H0 w H ov N a s){o:Oper}{g:Option (Nat×Bool)}(c:cG ops o.guard=some g){run skip:Prop}(h:gv g s run skip):
 (Region.wanted o (yielded ops a.tmps)=true∧run)∨(Region.wanted o (yielded ops a.tmps)=false∧skip):=by
 unfold Region.wanted
 cases l:o.guard with
 |none=>rw[l]at c;simp only[cG,fU]at c;subst c;exact .inl ⟨rfl,h⟩
 |some u=>
  obtain⟨j,want⟩:=u;rw[l]at c;simp only[cG]at c;split at c
  ·rename_i t ht;simp only[fU]at c;subst c;obtain⟨y1,m⟩:=WM (ops:=ops) y ht;simp only[];cases want<;>simp only[gv]at h
   ·cases f:s.get t<;>rw[f]at h<;>simp only[]at h;case b x=>
     rw[y1 x f];cases x
     ·exact .inl ⟨rfl,h.2 rfl⟩
     ·exact .inr ⟨rfl,h.1 rfl⟩
    case un=>rw[m f];exact .inr ⟨rfl,h⟩
   ·cases f:s.get t<;>rw[f]at h<;>simp only[]at h;case b x=>
     rw[y1 x f];cases x
     ·exact .inr ⟨rfl,h.2 rfl⟩
     ·exact .inl ⟨rfl,h.1 rfl⟩
    case un=>rw[m f];exact .inr ⟨rfl,h⟩
  ·cases c
theorem G6(f:∀w',bT w0 H0.e w'→J w'){K:St→Prop}(hK:∀y w' H' jZ C,K y→Conc w0 H0 w' H' jZ N C y→Q .normal C w'):
 ∀(l:List Oper) (al:List AO),cRg P N ops l=some al→(∀o,o∈al→nkp H0 o.dst)→∀{w:World} {H:Nat→Prop} {ov:Nat→Option Value} {a:Act} {s:St},Conc w0 H0 w H ov N a s→rgv (fC P J) (mG P) al s K→wpList P ops Q l a w
 |[],al,h,j,w,H,ov,a,s,c,m=>by
  simp only[cRg,fU]at h;subst h;exact hK s w H ov a m c
 |o::r,al,h,j,w,H,ov,a,s,c,m=>by
  simp only[cRg]at h;split at h
  ·rename_i p g z F I hl;split at h
   ·rename_i A;cases h;simp only[rgv]at m;unfold wpList;rcases WN (ops:=ops) c I m with ⟨u,hrun⟩|⟨u,hskip⟩
    ·rw[au u];refine .inl ?_;refine Jo (J:=J) (w0:=w0) c.mem c.val (id:=s.nx) ?_ (c.new s.nx (aY _)) c.noOb (f w c.mem.bel) F hrun;intro v up O w' H' jZ M L G hm E;exact G6 f hK r z hl (fun q hq=>j q (jD _ hq)) (c.zl A (j _ jM) L G hm E) M
    ·rw[ah (by rw[u];decide)];refine G6 f hK r z hl (fun q hq=>j q (jD _ hq)) (c.zl A (j _ jM) (Ext.refl _ _ _) (fun _ _ h=>h) (up:=[]) ?_ ?_) hskip
     ·exact c.mem
     ·exact .un
   ·cases h
  ·cases h
end
def aK.xs:aK→List X
 | .mv x| .un _ x| .MK _ x| .ld _ _ x| .FK _ x| .Wx _ _ _ x| .len x| .ext x _| .nc x| .RP _ x| .bx _ x=>[x]
 | .pick c a b=>[c,a,b]
 | .bin _ x y| .Wu _ x y| .six x y| .idx _ x y| .st _ x y| .stk x y| .mk _ _ _ _ x y| .app _ _ _ x y| .mm _ x y| .Ug _ x y| .Uh _ _ x y=>[x,y]
 | .RJ _ ps=>ps.map (·.2.2)
 | .RN _ _ _ _ ps=>ps.map (·.2)
 | .sub _ x lo hi| .RQ _ _ x lo hi=>x::(lo.toList++hi.toList)
 | .al _ _| .bad=>[]
 | .call _ args| .xN _ _ args=>args.map (·.2)
 | .zC _ args=>args
 | .Uf _ xs=>xs
def aK.Si:aK→Bool
 | .ld .. | .st .. | .stk .. | .RJ .. | .RN .. | .mk .. | .app .. | .al .. | .call .. | .RP .. | .bx .. | .Uf .. | .Ug .. | .xN .. | .bad=>true
 |_=>false
def aK.det:aK→Bool
 | .RP .. =>false
 |_=>true
def aK.mut:aK→Bool
 | .st .. | .stk .. | .app .. | .Ug .. | .xN .. | .RJ .. =>true
 | .call f _=>aU f
 | .RN e _ _ _ _=>aU (1000000+e)
 |_=>false
def V.ref:V→Option Nat
 | .ow _ j _| .sl _ j _ _| .pt j _| .tw _ j _ _=>some j
 |_=>none
section congr
variable {ρ ρ':X→V} {ob ob':Nat→Option Ob}
theorem lS{v:V}(h:∀j,v.ref=some j→ob j=ob' j)(sz:Nat):rd ob sz v=rd ob' sz v:=by
 cases v<;>simp only[rd]<;>(rw[h _ rfl])
theorem Ul{v:V}(h:∀j,v.ref=some j→ob j=ob' j)(n:Bool)(sz:Nat):VV n ob sz v=VV n ob' sz v:=by
 unfold VV;split
 ·rfl
 ·exact lS h sz
theorem unk_ref{v:V}{Q:Nat→Prop}(h:∀j,v.ref=some j→Q j):∀j,(FM v).ref=some j→Q j:=by
 rcases unk_eq v with e|⟨s,cs,e⟩
 ·rw[e];exact h
 ·rw[e];intro j a;cases a
theorem Nc{v:V}{s j off n:Nat}(h:Dh v= .sl s j off n):v.ref=some j:=by
 cases v<;>simp only[Dh]at h<;>cases h<;>rfl
theorem xR{v:V}(h:∀j,v.ref=some j→ob j=ob' j):okR ob v=okR ob' v:=by
 cases v<;>simp only[okR]<;>(rw[h _ rfl])
theorem sS{v:V}(h:∀j,v.ref=some j→ob j=ob' j):jA ob v=jA ob' v:=by
 cases v<;>simp only[jA]<;>(rw[h _ rfl])
theorem sU:∀{vs:List V},(∀v,v∈vs→∀j,v.ref=some j→ob j=ob' j)→qN ob vs=qN ob' vs
 |[],_=>rfl
 |v::r,h=>by simp only[qN];rw[xR (h v jM),sU fun u a=>h u (jD _ a)]
variable{α:Type}{id:Nat}
theorem all_congr{l:List α}{p q:α→Bool}(h:∀x,x∈l→p x=q x):l.all p=l.all q:=by
 induction l with
 |nil=>rfl
 |cons x r a=>simp only[iI];rw[h x jM,a fun y c=>h y (jD _ c)]
theorem rD{β:Type}{l:List α}{p q:α→List β}(h:∀x,x∈l→p x=q x):l.flatMap p=l.flatMap q:=by
 induction l with
 |nil=>rfl
 |cons x r a=>simp only[sH];rw[h x jM,a fun y c=>h y (jD _ c)]
variable{F G:Nat→List V→V→Prop}{K:V→List (Nat×Option Ob)→Prop}{o:aK}
theorem WO(h:∀x,x∈o.xs→ρ x=ρ' x)(E:o.Si=true→∀x,x∈o.xs→∀j,(ρ x).ref=some j→ob j=ob' j)
 (g:ev F G ρ ob id K o):ev F G ρ' ob' id K o:=by
 have A:∀x y:X,(∀z,z∈[x,y]→ρ z=ρ' z)→ρ x=ρ' x∧ρ y=ρ' y:=fun x y h=>⟨h x sy,h y sy⟩
 cases o<;>simp only[aK.xs]at h E
 case mv x=>simp only[ev]at g ⊢;rw[←h x sy];exact g
 case un op x=>simp only[ev]at g ⊢;rw[←h x sy];exact g
 case MK k x=>simp only[ev]at g ⊢;rw[←h x sy];exact g
 case FK k x=>simp only[ev]at g ⊢;rw[←h x sy];exact g
 case Wx a b c x=>simp only[ev]at g ⊢;rw[←h x sy];exact g
 case len x=>simp only[ev]at g ⊢;rw[←h x sy];exact g
 case ext x i=>simp only[ev]at g ⊢;rw[←h x sy];exact g
 case nc x=>simp only[ev]at g ⊢;rw[←h x sy];exact g
 case RP n x=>simp only[ev]at g ⊢;rw[←h x sy];exact g
 case pick c x y=>simp only[ev]at g ⊢;rw[←h c sy,←h x sy,←h y sy];exact g
 case bin op x y=>simp only[ev]at g ⊢;rw[←(A x y h).1,←(A x y h).2];exact g
 case Wu n x y=>simp only[ev]at g ⊢;rw[←(A x y h).1,←(A x y h).2];exact g
 case six x y=>simp only[ev]at g ⊢;rw[←(A x y h).1,←(A x y h).2];exact g
 case idx n x y=>simp only[ev]at g ⊢;rw[←(A x y h).1,←(A x y h).2];exact g
 case mm n x y=>simp only[ev]at g ⊢;rw[←(A x y h).1,←(A x y h).2];exact g
 case Uh n sz x y=>simp only[ev]at g ⊢;rw[←(A x y h).1,←(A x y h).2];exact g
 case mk e sz b z x y=>simp only[ev]at g ⊢;rw[←(A x y h).1,←(A x y h).2];exact g
 case al e z=>exact g
 case bx e x=>
  simp only[ev]at g ⊢;have u:=E rfl x sy;rw[←h x sy,←lS u,←xR u,←sS u];exact g
 case Uf p xs=>
  simp only[ev]at g ⊢;have e:∀x,x∈xs→ρ' x=ρ x:=fun x u=>(h x u).symm
  have r:∀x,x∈xs→∀j,(ρ x).ref=some j→ob j=ob' j:=fun x u=>E rfl x u
  rw[show xs.map ρ'=xs.map ρ from vT e,
   show(xs.map fun x=>rd ob' 1 (ρ' x))=xs.map fun x=>rd ob 1 (ρ x)from vT fun x u=>by rw[e x u,lS (r x u)],
   ←sU (ob:=ob) (vs:=xs.map ρ) fun v g=>by obtain⟨x,u,rfl⟩:=eG.1 g;exact r x u]
  exact g
 case xN f m args=>
  simp only[ev]at g ⊢;have e:∀p,p∈args→ρ' p.2=ρ p.2:=fun p l=>(h _ (eG.2 ⟨p,l,rfl⟩)).symm
  have r:∀p,p∈args→∀j,(ρ p.2).ref=some j→ob j=ob' j:=fun p l=>E rfl _ (eG.2 ⟨p,l,rfl⟩)
  have em:(args[m]?).map (fun p=>ρ' p.2)=(args[m]?).map (fun p=>ρ p.2):=by
   cases u:args[m]? with
   |none=>rfl
   |some p=>simp only[kZ];rw[e p (dP u)]
  rw[em];cases u:(args[m]?).map (fun p=>ρ p.2)with
  |none=>rw[u]at g;exact g
  |some v=>
   rw[u]at g;cases v<;>simp only[]at g ⊢ <;>(try exact g);rename_i z j n;have M:ob j=ob' j:=by
    obtain⟨p,l,L⟩:=jT.1 u;exact r p (dP l) j (by rw[L];rfl)
   rw[←M];cases C:ob j with
   |none=>rw[C]at g;exact g
   |some o=>
    rw[C]at g;simp only[]at g ⊢;have sub:∀p,p∈args.eraseIdx m→p∈args:=fun p l=>List.mem_of_mem_eraseIdx l
    rw[show(args.map fun p=>ρ' p.2)=args.map fun p=>ρ p.2 from vT e,
     show(args.all fun p=>(rd ob' p.1 (ρ' p.2)).aP)=args.all fun p=>(rd ob p.1 (ρ p.2)).aP from all_congr fun p l=>by rw[e p l,lS (r p l)],
     show((args.eraseIdx m).all fun p=>(jA ob' (ρ' p.2)).all fun q=>q.1 != j)=(args.eraseIdx m).all fun p=>(jA ob (ρ p.2)).all fun q=>q.1 != j from all_congr fun p l=>by rw[e p (sub p l),sS (r p (sub p l))],
     show(args.map fun p=>rd ob' p.1 (ρ' p.2))=args.map fun p=>rd ob p.1 (ρ p.2)from vT fun p l=>by rw[e p l,lS (r p l)],
     show((args.eraseIdx m).flatMap fun p=>jA ob' (ρ' p.2))=(args.eraseIdx m).flatMap fun p=>jA ob (ρ p.2)from rD fun p l=>by rw[e p (sub p l),sS (r p (sub p l))],
     ←sU (ob:=ob) (vs:=args.map fun p=>ρ p.2) fun v g=>by obtain⟨x,u,rfl⟩:=eG.1 g;exact r x u]
    exact g
 case zC f args=>simp only[ev]at g ⊢;rw[←vT h];exact g
 case ld ag n p=>
  simp only[ev]at g ⊢;rw[←h p sy];have C:=E rfl p sy;cases l:ρ p<;>rw[l]at g C<;>(try simp only[]at g ⊢)<;>try exact g
  rw[←C _ rfl];exact g
 case st n p x=>
  simp only[ev]at g ⊢;rw[←(A p x h).1,←(A p x h).2];have C:=E rfl p sy;have u:=E rfl x sy;rw[←lS u,←xR u,←sS u];cases l:ρ p<;>rw[l]at g C<;>(try simp only[]at g ⊢)<;>try exact g
  rw[←C _ rfl];exact g
 case stk p x=>
  simp only[ev]at g ⊢;rw[←(A p x h).1,←(A p x h).2];have C:=E rfl p sy;cases l:ρ p<;>rw[l]at g C<;>(try simp only[]at g ⊢)<;>try exact g
  rw[←C _ rfl];exact g
 case RJ z ps=>
  simp only[ev]at g ⊢;have e:∀p,p∈ps→ρ' p.2.2=ρ p.2.2:=fun p l=>(h _ (eG.2 ⟨p,l,rfl⟩)).symm
  have r:∀p,p∈ps→∀j,(ρ p.2.2).ref=some j→ob j=ob' j:=fun p l=>E rfl _ (eG.2 ⟨p,l,rfl⟩)
  rw[show(ps.map fun p=>ρ' p.2.2)=ps.map fun p=>ρ p.2.2 from vT e,
   show(ps.map fun p=>(p.1,(rd ob' 1 (ρ' p.2.2)).cells))=ps.map fun p=>(p.1,(rd ob 1 (ρ p.2.2)).cells)from vT fun p l=>by rw[e p l,lS (r p l)],
   show(ps.all fun p=>(rd ob' 1 (ρ' p.2.2)).cells.length==p.2.1)=ps.all fun p=>(rd ob 1 (ρ p.2.2)).cells.length==p.2.1 from all_congr fun p l=>by rw[e p l,lS (r p l)],
   show(ps.flatMap fun p=>jA ob' (ρ' p.2.2))=ps.flatMap fun p=>jA ob (ρ p.2.2)from rD fun p l=>by rw[e p l,sS (r p l)],
   ←sU (ob:=ob) (vs:=ps.map fun p=>ρ p.2.2) fun v g=>by obtain⟨p,l,rfl⟩:=eG.1 g;exact r p l]
  exact g
 case RN e0 sz n z ps=>
  simp only[ev]at g ⊢;have e:∀p,p∈ps→ρ' p.2=ρ p.2:=fun p l=>(h _ (eG.2 ⟨p,l,rfl⟩)).symm
  have r:∀p,p∈ps→∀j,(ρ p.2).ref=some j→ob j=ob' j:=fun p l=>E rfl _ (eG.2 ⟨p,l,rfl⟩)
  rw[show(ps.map fun p=>ρ' p.2)=ps.map fun p=>ρ p.2 from vT e,
   show(ps.map fun p=>(p.1*sz,(rd ob' 1 (ρ' p.2)).cells))=ps.map fun p=>(p.1*sz,(rd ob 1 (ρ p.2)).cells)from vT fun p l=>by rw[e p l,lS (r p l)],
   show(ps.all fun p=>(rd ob' 1 (ρ' p.2)).cells.length==sz)=ps.all fun p=>(rd ob 1 (ρ p.2)).cells.length==sz from all_congr fun p l=>by rw[e p l,lS (r p l)],
   show(ps.flatMap fun p=>jA ob' (ρ' p.2))=ps.flatMap fun p=>jA ob (ρ p.2)from rD fun p l=>by rw[e p l,sS (r p l)],
   ←sU (ob:=ob) (vs:=ps.map fun p=>ρ p.2) fun v g=>by obtain⟨p,l,rfl⟩:=eG.1 g;exact r p l]
  exact g
 case call f ps=>
  simp only[ev]at g ⊢;have e:∀p,p∈ps→ρ' p.2=ρ p.2:=fun p l=>(h _ (eG.2 ⟨p,l,rfl⟩)).symm
  have r:∀p,p∈ps→∀j,(ρ p.2).ref=some j→ob j=ob' j:=fun p l=>E rfl _ (eG.2 ⟨p,l,rfl⟩)
  have key:∀n,(ps.map fun p=>VV n ob' p.1 (ρ' p.2))=ps.map fun p=>VV n ob p.1 (ρ p.2):=fun n=>vT fun p l=>by rw[e p l,Ul (r p l)]
  simp only[key];rw[show(ps.map fun p=>ρ' p.2)=ps.map fun p=>ρ p.2 from vT e,
   show(ps.all fun p=>(rd ob' p.1 (ρ' p.2)).aP)=ps.all fun p=>(rd ob p.1 (ρ p.2)).aP from all_congr fun p l=>by rw[e p l,lS (r p l)],
   show(ps.flatMap fun p=>jA ob' (ρ' p.2))=ps.flatMap fun p=>jA ob (ρ p.2)from rD fun p l=>by rw[e p l,sS (r p l)],
   ←sU (ob:=ob) (vs:=ps.map fun p=>ρ p.2) fun v g=>by obtain⟨p,l,rfl⟩:=eG.1 g;exact r p l]
  exact g
 case bad=>exact g
 case Ug sz s x=>
  simp only[ev]at g ⊢;rw[←(A s x h).1,←(A s x h).2];have C:=E rfl s sy;have u:=E rfl x sy;rw[←lS u,←xR u];cases l:Dh (ρ s)<;>rw[l]at g<;>(try exact g)<;>(cases J:rd ob sz (ρ x)<;>rw[J]at g<;>(try exact g));simp only[]at g ⊢;rw[←C _ (Nc l)];exact g
 case app e sz b s x=>
  simp only[ev]at g ⊢;rw[←(A s x h).1,←(A s x h).2];have C:=E rfl s sy;have u:=unk_ref (E rfl x sy);rw[←lS u,←xR u];cases l:ρ s<;>rw[l]at g C<;>(try exact g)<;>(cases J:rd ob sz (FM (ρ x))<;>rw[J]at g<;>(try exact g));simp only[]at g ⊢;rw[←C _ rfl];exact g
 case sub sz x lo H=>
  have e1:lo.map ρ'=lo.map ρ:=by cases lo<;>simp at h ⊢;exact(h.2.1).symm
  have N:H.map ρ'=H.map ρ:=by cases H<;>simp at h ⊢;exact(h.2 _ (.inr rfl)).symm
  simp only[ev]at g ⊢;rw[e1,N,←h x sy];exact g
 case RQ n sz x lo H=>
  have e1:lo.map ρ'=lo.map ρ:=by cases lo<;>simp at h ⊢;exact(h.2.1).symm
  have N:H.map ρ'=H.map ρ:=by cases H<;>simp at h ⊢;exact(h.2 _ (.inr rfl)).symm
  simp only[ev]at g ⊢;rw[e1,N,←h x sy];exact g
variable{op:BinOp}{R:V→Prop}
theorem WQ{k c:IntKind}{a b:Int}(h:bi op k a c b R):∃v,R v∧bi op k a c b (fun f=>f=v):=by
 cases op<;>simp only[bi]at h ⊢ <;>exact⟨_,h.2,h.1,rfl⟩
theorem WR{a b:List UInt8}(h:bs op a b R):∃v,R v∧bs op a b (fun c=>c=v):=by
 cases op<;>simp only[bs]at h ⊢ <;>first|exact⟨_,h.2,h.1,rfl⟩|exact⟨_,h,rfl⟩|exact h.elim
theorem Nh{ρ:X→V}{ob:Nat→Option Ob}(hd:o.det=true)(h:ev F G ρ ob id K o):
 ∃v up,K v up∧ev F G ρ ob id (fun C J=>C=v∧J=up) o:=by
 have c1:∀{p:Prop} {v:V} {up:List (Nat×Option Ob)},chk p (K v up)→∃C J,K C J∧chk p (v=C∧up=J):=fun h=>⟨_,_,h.2,h.1,rfl,rfl⟩
 cases o
 case RP n x=>cases hd
 case mv x=>exact⟨_,_,h,rfl,rfl⟩
 case al e z=>exact⟨_,_,h,rfl,rfl⟩
 case bx e x=>exact c1 h
 case Uf p xs=>
  simp only[ev]at h ⊢;obtain⟨L,E⟩:=h;cases P:qZ p (xs.map fun x=>rd ob 1 (ρ x))with
  |none=>rw[P]at E;exact E.elim
  |some v=>rw[P]at E;exact⟨v,[],E,L,rfl,rfl⟩
 case RJ z ps=>exact c1 h
 case RN e sz n z ps=>exact c1 h
 case zC f args=>obtain⟨r,E,I⟩:=h;exact⟨_,_,I,r,E,rfl,rfl⟩
 case pick c x y=>
  simp only[ev]at h ⊢;cases Q:ρ c<;>rw[Q]at h<;>(try exact h.elim);case b t=>
   cases t
   ·exact⟨_,_,h.2 rfl,zD (fun e=>by cases e) (fun _=>⟨rfl,rfl⟩)⟩
   ·exact⟨_,_,h.1 rfl,zD (fun _=>⟨rfl,rfl⟩) (fun e=>by cases e)⟩
 case bin op x y=>
  simp only[ev]at h ⊢;cases g:ρ x<;>rw[g]at h<;>(try exact h.elim);case i k n=>
   cases A:ρ y<;>rw[A]at h<;>(try exact h.elim);case i k' m=>
    obtain⟨v,E,I⟩:=WQ h;refine⟨v,[],E,?_⟩;have:(fun C=>C=v)=fun C=>C=v∧([]:List (Nat×Option Ob))=[]:=by funext C;simp
    show bi op k n k' m _;rw[←this];exact I
  case s l=>
   cases A:ρ y<;>rw[A]at h<;>(try exact h.elim);case s l'=>
    obtain⟨v,E,I⟩:=WR h;refine⟨v,[],E,?_⟩;have:(fun C=>C=v)=fun C=>C=v∧([]:List (Nat×Option Ob))=[]:=by funext C;simp
    show bs op l l' _;rw[←this];exact I
 case Wu neg x y=>
  simp only[ev]at h ⊢;cases g:ρ x<;>rw[g]at h<;>(try exact h.elim);cases A:ρ y<;>rw[A]at h<;>(try exact h.elim);exact⟨_,_,h,rfl,rfl⟩
 case un op x=>
  simp only[ev]at h ⊢;cases op<;>cases g:ρ x<;>rw[g]at h<;>first|exact h.elim|exact⟨_,_,h,rfl,rfl⟩
 case MK k x=>
  simp only[ev]at h ⊢;cases g:ρ x<;>rw[g]at h<;>first|exact h.elim|exact⟨_,_,h,rfl,rfl⟩
 case six x y=>
  simp only[ev]at h ⊢;cases g:ρ x<;>rw[g]at h<;>(try exact h.elim);cases A:ρ y<;>rw[A]at h<;>(try exact h.elim);exact c1 h
 case idx sz x y=>
  simp only[ev]at h ⊢;cases g:ρ x<;>rw[g]at h<;>(try exact h.elim);all_goals
   cases A:ρ y<;>rw[A]at h<;>(try exact h.elim)
   exact c1 h
 case Uh n sz x y=>
  simp only[ev]at h ⊢;cases g:ρ x<;>rw[g]at h<;>(try exact h.elim);all_goals
   cases A:ρ y<;>rw[A]at h<;>(try exact h.elim)
   exact c1 h
 case ld O n p=>
  simp only[ev]at h ⊢;cases g:ρ p<;>rw[g]at h<;>(try exact h.elim)
  ·cases O<;>exact c1 h
  ·rename_i j k;simp only[]at h ⊢;cases H:ob j<;>rw[H]at h<;>(try exact h.elim);cases O<;>exact c1 h
 case st n p x=>
  simp only[ev]at h ⊢;cases g:ρ p<;>rw[g]at h<;>(try exact h.elim);rename_i j k;simp only[]at h ⊢;cases H:ob j<;>rw[H]at h<;>(try exact h.elim);exact c1 h
 case stk p x=>
  simp only[ev]at h ⊢;cases g:ρ p<;>rw[g]at h<;>(try exact h.elim);rename_i j k;simp only[]at h ⊢;cases H:ob j<;>rw[H]at h<;>(try exact h.elim);exact c1 h
 case FK off p=>
  simp only[ev]at h ⊢;cases g:ρ p<;>rw[g]at h<;>first|exact h.elim|exact⟨_,_,h,rfl,rfl⟩
 case Wx O off n x=>
  simp only[ev]at h ⊢;cases g:ρ x<;>rw[g]at h<;>(try exact h.elim);cases O<;>exact c1 h
 case mk e sz b z x y=>
  simp only[ev]at h ⊢;cases g:ρ x<;>rw[g]at h<;>(try exact h.elim);cases A:ρ y<;>rw[A]at h<;>(try exact h.elim);exact c1 h
 case sub sz x lo N=>
  simp only[ev]at h ⊢;cases g:ρ x<;>rw[g]at h<;>(try exact h.elim);case kn u y=>
   cases u<;>(try exact h.elim);cases y<;>(try exact h.elim);cases hl:lo.map ρ<;>cases M:N.map ρ<;>rw[hl,M]at h<;>(try exact h.elim);rename_i v;cases v<;>first|exact h.elim|exact c1 h
  all_goals
   simp only[]at h ⊢
   cases hl:lo.map ρ<;>cases M:N.map ρ<;>rw[hl,M]at h<;>(try simp only[]at h ⊢)
   all_goals first
    |exact c1 h
    |exact⟨_,_,h,rfl,rfl⟩
    |(rename_i v;cases v<;>first|exact h.elim|exact c1 h)
    |(rename_i v C;cases v<;>cases C<;>first|exact h.elim|exact c1 h)
 case RQ n sz x lo N=>
  simp only[ev]at h ⊢;cases g:ρ x<;>rw[g]at h<;>(try exact h.elim);all_goals
   simp only[]at h ⊢
   cases hl:lo.map ρ<;>cases M:N.map ρ<;>rw[hl,M]at h<;>(try simp only[]at h ⊢)
   all_goals first
    |exact c1 h
    |(rename_i v;cases v<;>first|exact h.elim|exact c1 h)
    |(rename_i v C;cases v<;>cases C<;>first|exact h.elim|exact c1 h)
 case len x=>
  simp only[ev]at h ⊢;cases g:ρ x<;>rw[g]at h<;>first|exact h.elim|exact⟨_,_,h,rfl,rfl⟩
 case nc x=>
  simp only[ev]at h ⊢;cases g:ρ x<;>rw[g]at h<;>first|exact h.elim|exact⟨_,_,h,rfl,rfl⟩
 case ext x i=>
  simp only[ev]at h ⊢;cases g:ρ x<;>rw[g]at h<;>first|exact h.elim|exact c1 h|(cases i<;>first|exact⟨_,_,h,rfl,rfl⟩|exact c1 h)
 case mm m x y=>
  simp only[ev]at h ⊢;cases g:ρ x<;>rw[g]at h<;>(try exact h.elim);cases A:ρ y<;>rw[A]at h<;>(try exact h.elim);exact c1 h
 case app e sz b s x=>
  simp only[ev]at h ⊢;cases g:ρ s<;>rw[g]at h<;>(try exact h.elim)
  ·rename_i a j m;cases A:rd ob sz (FM (ρ x))<;>rw[A]at h<;>(try exact h.elim);simp only[]at h ⊢;cases H:ob j<;>rw[H]at h<;>(try exact h.elim);exact c1 h
  ·cases A:rd ob sz (FM (ρ x))<;>rw[A]at h<;>(try exact h.elim);exact c1 h
 case call f args=>
  simp only[ev]at h ⊢;obtain⟨L,n,r,E,I⟩:=h;cases r;case o e sz cs=>exact⟨_,_,I.2,L,n,.o e sz cs,E,I.1,rfl,rfl⟩
  case mu x cs=>exact I.elim
  all_goals exact⟨_,_,I,L,n,_,E,rfl,rfl⟩
 case bad=>exact h.elim
 case xN f m args=>
  simp only[ev]at h ⊢;cases g:(args[m]?).map (fun p=>ρ p.2)with
  |none=>rw[g]at h;exact h.elim
  |some v=>
   rw[g]at h;cases v<;>simp only[]at h<;>(try exact h.elim);rename_i z j n;cases H:ob j with
   |none=>rw[H]at h;exact h.elim
   |some o=>
    rw[H]at h;obtain⟨L,r,cs',E,I,T⟩:=h;refine⟨_,_,T,?_⟩;simp only[g,H];exact⟨L,r,cs',E,I,rfl,rfl⟩
 case Ug sz s x=>
  simp only[ev]at h ⊢;cases g:Dh (ρ s)<;>rw[g]at h<;>(try exact h.elim);rename_i a j off m;cases A:rd ob sz (ρ x)<;>rw[A]at h<;>(try exact h.elim);simp only[]at h ⊢;cases H:ob j<;>rw[H]at h<;>(try exact h.elim);exact c1 h
end congr
end Go.Proofs.YtpopphdnlhihdaaGreatDoor.Ab
namespace Go.Proofs.YtpopphdnlhihdaaGreatDoor.Ab
open Go Go.RowKit
def V.jE(nx:Nat):V→Bool
 | .ow _ j _| .sl _ j _ _| .pt j _| .tw _ j _ _=>decide (j≤nx)
 |_=>true
section
variable (F G:Nat→List V→V→Prop)
def OH:List AO→St→(St→Prop)→Prop
 |[],s,K=>K s
 |o::r,s,K=>gv o.gd s (ev F G s.val s.ob s.nx (fun v up=>chk (v.jE s.nx=true∧(o.op.mut||up.all (fun p=>p.1==s.nx))=true) (OH r (s.zl o.dst v up) K)) o.op) (OH r (s.zl o.dst .un []) K)
end
structure Rc where
 dst:Option Nat
 v:V
 up:List (Nat×Option Ob)
def Did(F G:Nat→List V→V→Prop)(o:AO)(s:St)(r:Rc):Prop:=
 r.dst=o.dst∧gv o.gd s (ev F G s.val s.ob s.nx (fun v up=>v=r.v∧up=r.up) o.op) (r.v= .un∧r.up=[])∧r.v.jE s.nx=true∧(o.op.mut||r.up.all (fun p=>p.1==s.nx))=true
def Trc(F G:Nat→List V→V→Prop):List AO→St→List Rc→Prop
 |[],_,rs=>rs=[]
 |o::l,s,rs=>∃r rs',rs=r::rs'∧Did F G o s r∧Trc F G l (s.zl r.dst r.v r.up) rs'
def lT:St→List Rc→St
 |s,[]=>s
 |s,r::rs=>lT (s.zl r.dst r.v r.up) rs
theorem WS{F G:Nat→List V→V→Prop}{g:Option (Nat×Bool)}{s:St}{op:aK}{nx:Nat}{dst:Option Nat}{K1:V→List (Nat×Option Ob)→Prop}{K2:Prop}(hd:op.det=true)
 (h:gv g s (ev F G s.val s.ob nx (fun v up=>chk (v.jE nx=true∧(op.mut||up.all (fun p=>p.1==nx))=true) (K1 v up)) op) K2):
 ∃v up,gv g s (ev F G s.val s.ob nx (fun m c=>m=v∧c=up) op) (v= .un∧up=[])∧v.jE nx=true∧(op.mut||up.all (fun p=>p.1==nx))=true∧(K1 v up∨(v= .un∧up=[]∧K2)):=by
 have run:ev F G s.val s.ob nx (fun v up=>chk (v.jE nx=true∧(op.mut||up.all (fun p=>p.1==nx))=true) (K1 v up)) op→∃v up,ev F G s.val s.ob nx (fun m c=>m=v∧c=up) op∧v.jE nx=true∧(op.mut||up.all (fun p=>p.1==nx))=true∧K1 v up:=fun h=>by
  obtain⟨v,up,a,f⟩:=Nh hd h;exact⟨v,up,f,a.1.1,a.1.2,a.2⟩
 have skip:K2→(V.un.jE nx=true∧(op.mut||([]:List (Nat×Option Ob)).all (fun p=>p.1==nx))=true):=fun _=>⟨rfl,sy⟩
 cases g with
 |none=>
  obtain⟨v,up,a,f,l,j⟩:=run h;exact⟨v,up,a,f,l,.inl j⟩
 |some tw=>
  obtain⟨t,want⟩:=tw;cases want<;>simp only[gv]at h ⊢;all_goals
   cases u:s.get t<;>rw[u]at h<;>(try exact h.elim)
  case false.b x=>
   cases x
   ·obtain⟨v,up,a,f,l,j⟩:=run (h.2 rfl);exact⟨v,up,zD (fun e=>by cases e) (fun _=>a),f,l,.inl j⟩
   ·have k:=h.1 rfl;exact⟨.un,[],zD (fun _=>⟨rfl,rfl⟩) (fun e=>by cases e),rfl,sy,.inr ⟨rfl,rfl,k⟩⟩
  case true.b x=>
   cases x
   ·have k:=h.2 rfl;exact⟨.un,[],zD (fun e=>by cases e) (fun _=>⟨rfl,rfl⟩),rfl,sy,.inr ⟨rfl,rfl,k⟩⟩
   ·obtain⟨v,up,a,f,l,j⟩:=run (h.1 rfl);exact⟨v,up,zD (fun _=>a) (fun e=>by cases e),f,l,.inl j⟩
  case false.un=>exact⟨.un,[],⟨rfl,rfl⟩,rfl,sy,.inr ⟨rfl,rfl,h⟩⟩
  case true.un=>exact⟨.un,[],⟨rfl,rfl⟩,rfl,sy,.inr ⟨rfl,rfl,h⟩⟩
theorem Jp{F G:Nat→List V→V→Prop}{K:St→Prop}:∀(l:List AO) (s:St),(l.all fun o=>o.op.det)=true→OH F G l s K→∃rs,Trc F G l s rs∧K (lT s rs)
 |[],s,_,h=>⟨[],rfl,h⟩
 |o::l,s,c,h=>by
  simp only[OH]at h;simp only[iI,dA]at c;obtain⟨v,up,j,g,f,a⟩:=WS c.1 (dst:=o.dst) (K1:=fun v up=>OH F G l (s.zl o.dst v up) K) (K2:=OH F G l (s.zl o.dst .un []) K) h;have k:OH F G l (s.zl o.dst v up) K:=by
   rcases a with a|⟨rfl,rfl,a⟩
   ·exact a
   ·exact a
  obtain⟨rs,k1,k2⟩:=Jp l _ c.2 k;exact⟨⟨o.dst,v,up⟩::rs,⟨_,rs,rfl,⟨rfl,j,g,f⟩,k1⟩,k2⟩
def Ep(e:Nat→V)(d:Option Nat)(v:V):Nat→V:=match d with|some d=>fun t=>if d=t then v else e t|none=>e
def eM(e:Nat→V):List Rc→List Bool→Nat→V
 |r::rs,m::ms=>eM (if m then Ep e r.dst r.v else e) rs ms
 |_,_=>e
def oM(ob:Nat→Option Ob):List Rc→List Bool→Nat→Option Ob
 |r::rs,m::ms=>oM (if m then upd ob r.up else ob) rs ms
 |_,_=>ob
theorem Sj{e:Nat→V}{d:Option Nat}{v:V}{t:Nat}(h:d≠some t):Ep e d v t=e t:=by
 cases d with
 |none=>rfl
 |some d=>simp only[Ep];rw[ah (fun e=>h (by rw[e]))]
theorem WT:∀(rs:List Rc) (ms:List Bool) (e:Nat→V) (d:Option Nat) (v:V),(∀(k:Nat) (r:Rc),rs[k]? =some r→ms[k]? =some true→∀t,r.dst=some t→d≠some t)→eM (Ep e d v) rs ms=Ep (eM e rs ms) d v
 |[],ms,e,d,v,_=>by cases ms<;>rfl
 |r::rs,[],e,d,v,_=>rfl
 |r::rs,m::ms,e,d,v,h=>by
  simp only[eM];rw[←WT rs ms _ d v fun k q l j=>h (k+1) q (by simpa using l) (by simpa using j)];cases m with
  |false=>rfl
  |true=>
   have f:=h 0 r rfl rfl;simp only[if_true];congr 1;funext t;cases g:r.dst with
   |none=>rfl
   |some c=>
    rw[g]at f;have a:=f c rfl;cases d with
    |none=>rfl
    |some d=>
     simp only[Ep];by_cases e1:c=t
     ·subst e1;rw[au rfl,ah (fun e=>a (by rw[e])),au rfl]
     ·rw[ah e1];split<;>simp[e1]
variable{j:Nat}
theorem uZ{ob:Nat→Option Ob}{up:List (Nat×Option Ob)}(h:∀x,(j,x) ∉ up):upd ob up j=ob j:=by
 rcases qI (ob:=ob) up j with ⟨a,_⟩|a
 ·exact a
 ·exact absurd a (h _)
theorem Du{ob ob':Nat→Option Ob}{up:List (Nat×Option Ob)}(h:ob j=ob' j):upd ob up j=upd ob' up j:=by
 induction up with
 |nil=>exact h
 |cons p r a=>obtain⟨k,v⟩:=p;simp only[upd];split<;>first|rfl|exact a
theorem WU:∀(rs:List Rc) (ms:List Bool) (ob:Nat→Option Ob) (up:List (Nat×Option Ob)),(∀(k:Nat) (r:Rc),rs[k]? =some r→ms[k]? =some true→∀j x y,(j,x)∈up→(j,y) ∉ r.up)→oM (upd ob up) rs ms=upd (oM ob rs ms) up
 |[],ms,ob,up,_=>by cases ms<;>rfl
 |r::rs,[],ob,up,_=>rfl
 |r::rs,m::ms,ob,up,h=>by
  simp only[oM];rw[←WU rs ms _ up fun k q g l=>h (k+1) q (by simpa using g) (by simpa using l)];cases m with
  |false=>rfl
  |true=>
   have u:=h 0 r rfl rfl;simp only[if_true];congr 1;funext j;rw[rC,rC];rcases qI (ob:=ob) (r.up++up) j with ⟨g,l⟩|g
   ·rw[g];symm;exact uZ fun x f=>l x (nC.2 ((nC.1 f).symm))
   ·rcases nC.1 g with c|c
    ·have a:∀x,(j,x) ∉ up:=fun x f=>u j x _ f c
     rw[←rC ob up r.up,uZ a,←rC ob r.up up];first|exact Du (uZ a)|exact(Du (uZ a)).symm
    ·have a:∀x,(j,x) ∉ r.up:=fun x f=>u j _ x c f
     rw[←rC ob r.up up,uZ a,←rC ob up r.up];first|exact Du (uZ a).symm|exact(Du (uZ a).symm).symm
theorem WV:∀(rs:List Rc) (ms:List Bool) (i:Nat) (e:Nat→V) (r:Rc),rs[i]? =some r→ms[i]? =some false→(∀(k:Nat) (q:Rc),i<k→rs[k]? =some q→ms[k]? =some true→∀t,q.dst=some t→r.dst≠some t)→
 eM e rs (ms.set i true)=Ep (eM e rs ms) r.dst r.v
 |[],ms,i,e,r,h,_,_=>by simp at h
 |q::rs,[],i,e,r,_,h,_=>by simp at h
 |q::rs,m::ms,0,e,r,c,a,f=>by
  simp at c a;subst c;subst a;simp only[List.set_cons_zero,eM,if_true,aJ,if_false];exact WT rs ms e q.dst q.v fun k p g hm t ht=>f (k+1) p om (by simpa using g) (by simpa using hm) t ht
 |q::rs,m::ms,i+1,e,r,c,a,f=>by
  simp only[List.set_cons_succ,eM];exact WV rs ms i _ r (by simpa using c) (by simpa using a) fun k p g j hm=>f (k+1) p om (by simpa using j) (by simpa using hm)
theorem WW:∀(rs:List Rc) (ms:List Bool) (i:Nat) (ob:Nat→Option Ob) (r:Rc),rs[i]? =some r→ms[i]? =some false→(∀(k:Nat) (q:Rc),i<k→rs[k]? =some q→ms[k]? =some true→∀j x y,(j,x)∈r.up→(j,y) ∉ q.up)→
 oM ob rs (ms.set i true)=upd (oM ob rs ms) r.up
 |[],ms,i,e,r,h,_,_=>by simp at h
 |q::rs,[],i,e,r,_,h,_=>by simp at h
 |q::rs,m::ms,0,e,r,c,a,f=>by
  simp at c a;subst c;subst a;simp only[List.set_cons_zero,oM,if_true,aJ,if_false];exact WU rs ms e q.up fun k p g hm=>f (k+1) p om (by simpa using g) (by simpa using hm)
 |q::rs,m::ms,i+1,e,r,c,a,f=>by
  simp only[List.set_cons_succ,oM];exact WW rs ms i _ r (by simpa using c) (by simpa using a) fun k p g l hm=>f (k+1) p om (by simpa using l) (by simpa using hm)
theorem Kq:∀(rs:List Rc) (ms:List Bool) (i:Nat) (e a:Nat→V) (t:Nat),ms.length=rs.length→e t=a t→(∀(k:Nat) (q:Rc),k<i→rs[k]? =some q→ms[k]? =some false→q.dst≠some t)→
 (∀(k:Nat) (q:Rc),i≤k→rs[k]? =some q→ms[k]? =some true→q.dst≠some t)→eM e rs ms t=eM a (rs.take i) ((List.replicate i true)) t
 |[],ms,i,e,a,t,_,h,_,_=>by cases ms<;>simp[eM,h]
 |q::rs,[],i,e,a,t,hl,_,_,_=>by simp at hl
 |q::rs,m::ms,0,e,a,t,hl,h,g,f=>by
  simp only[List.take_zero,List.replicate_zero];have:eM e (q::rs) (m::ms) t=e t:=by
   have gen:∀(rs:List Rc) (ms:List Bool) (e:Nat→V),(∀(k:Nat) (q:Rc),rs[k]? =some q→ms[k]? =some true→q.dst≠some t)→eM e rs ms t=e t:=fun rs=>by
    induction rs with
    |nil=>intro ms e _;cases ms<;>rfl
    |cons q rs u=>
     intro ms e h;cases ms with
     |nil=>rfl
     |cons m ms=>
      simp only[eM];rw[u ms _ fun k p g f=>h (k+1) p (by simpa using g) (by simpa using f)];cases m with
      |false=>rfl
      |true=>exact Sj (h 0 q rfl rfl)
   exact gen _ _ e fun k p l c=>f k p (aG _) l c
  rw[this];exact h
 |q::rs,m::ms,i+1,e,a,t,hl,h,g,f=>by
  simp only[List.take_succ_cons,nR,eM,if_true];refine Kq rs ms i _ _ t (by simpa using hl) ?_ (fun k p l c j=>g (k+1) p om (by simpa using c) (by simpa using j)) (fun k p l c j=>f (k+1) p om (by simpa using c) (by simpa using j));cases m with
  |true=>
   simp only[if_true];cases y:q.dst with
   |none=>exact h
   |some d=>simp only[Ep];split<;>first|rfl|exact h
  |false=>
   simp only[aJ,if_false];rw[Sj (g 0 q om rfl rfl)];exact h
theorem Sr:∀(rs:List Rc) (ms:List Bool) (i:Nat) (e a:Nat→Option Ob) (j:Nat),ms.length=rs.length→e j=a j→(∀(k:Nat) (q:Rc),k<i→rs[k]? =some q→ms[k]? =some false→∀x,(j,x) ∉ q.up)→
 (∀(k:Nat) (q:Rc),i≤k→rs[k]? =some q→ms[k]? =some true→∀x,(j,x) ∉ q.up)→oM e rs ms j=oM a (rs.take i) ((List.replicate i true)) j
 |[],ms,i,e,a,t,_,h,_,_=>by cases ms<;>simp[oM,h]
 |q::rs,[],i,e,a,t,hl,_,_,_=>by simp at hl
 |q::rs,m::ms,0,e,a,t,hl,h,g,f=>by
  simp only[List.take_zero,List.replicate_zero];have:oM e (q::rs) (m::ms) t=e t:=by
   have gen:∀(rs:List Rc) (ms:List Bool) (e:Nat→Option Ob),(∀(k:Nat) (q:Rc),rs[k]? =some q→ms[k]? =some true→∀x,(t,x) ∉ q.up)→oM e rs ms t=e t:=fun rs=>by
    induction rs with
    |nil=>intro ms e _;cases ms<;>rfl
    |cons q rs y=>
     intro ms e h;cases ms with
     |nil=>rfl
     |cons m ms=>
      simp only[oM];rw[y ms _ fun k p g f=>h (k+1) p (by simpa using g) (by simpa using f)];cases m with
      |false=>rfl
      |true=>exact uZ (h 0 q rfl rfl)
   exact gen _ _ e fun k p u c=>f k p (aG _) u c
  rw[this];exact h
 |q::rs,m::ms,i+1,e,a,t,hl,h,g,f=>by
  simp only[List.take_succ_cons,nR,oM,if_true];refine Sr rs ms i _ _ t (by simpa using hl) ?_ (fun k p u c l=>g (k+1) p om (by simpa using c) (by simpa using l)) (fun k p u c l=>f (k+1) p om (by simpa using c) (by simpa using l));cases m with
  |true=>simp only[if_true];exact Du h
  |false=>
   simp only[aJ,if_false];rw[uZ (g 0 q om rfl rfl)];exact h
end Go.Proofs.YtpopphdnlhihdaaGreatDoor.Ab
namespace Go.Proofs.YtpopphdnlhihdaaGreatDoor.Ab
open Go Go.RowKit
def jU:List X→List Nat
 |[]=>[]
 | .t n::r=>n::jU r
 | .k _::r=>jU r
def AO.looks(o:AO):List Nat:=(match o.gd with|some (t,_)=>[t]|none=>[])++jU o.op.xs
def Es(cf:List (Nat×Nat))(o p:AO):Bool:=
 (match o.dst with|none=>true|some d=>!(p.looks.contains d)&&p.dst != some d)&&
 (match p.dst with|none=>true|some d=>!(o.looks.contains d))&&
 ((!(o.op.mut&&p.op.Si)&&!(p.op.mut&&o.op.Si))||(jU o.op.xs).all fun x=>(jU p.op.xs).all fun y=>cf.contains (x,y))
def stable(cf:List (Nat×Nat))(al:List AO):Bool:=
 (List.range al.length).all fun k=>(List.range (k+1)).all fun i=>match al[i]?,al[k]? with
   |some o,some p=>(match p.dst with|none=>true|some d=>!((jU o.op.xs).contains d)||!(cf.any fun q=>q.1==d||q.2==d))
   |_,_=>false
def apr:Option Nat→Option Nat→Prop
 |some a,some b=>a≠b
 |_,_=>True
def p_(s:St):List (Nat×Nat)→Prop
 |[]=>True
 |(x,y)::r=>apr (s.get x).ref (s.get y).ref∧p_ s r
theorem G7{s:St}:∀{cf:List (Nat×Nat)},p_ s cf→∀{x y:Nat},(x,y)∈cf→∀{j:Nat},(s.get x).ref=some j→(s.get y).ref=some j→False
 |[],_,x,y,h,_,_,_=>by cases h
 |(a,b)::r,h,x,y,hm,j,f,c=>by
  rcases dZ.1 hm with e|hm
  ·cases e;have:=h.1;rw[f,c]at this;exact this rfl
  ·exact G7 h.2 hm f c
def Et(acc:List Nat):List Edge→Nat
 |[]=>0
 |e::r=>if Region.binds .any e then Et acc r|||(2^e.on|||acc.getD e.on 0)else Et acc r
def zn:List Oper→List Nat→List Nat
 |[],acc=>acc
 |o::r,acc=>zn r (acc++[Et acc o.after.toList])
def xy:List X→Bool
 |[]=>true
 | .t _::r=>xy r
 | .k v::r=>v.ref.isNone&&xy r
def Eu(cf:List (Nat×Nat))(ops:List Oper)(al:List AO):Bool:=
 al.all (fun o=>xy o.op.xs&&o.op.det)&&(cf.isEmpty||stable cf al)&&
 (List.range ops.length).all fun k=>(match ops[k]? with|some o=>o.after.toList.all fun e=>!Region.binds .any e||decide (e.on<k)|none=>true)&&
   (List.range k).all fun i=>((zn ops []).getD k 0).testBit i||(match al[i]?,al[k]? with|some o,some p=>Es cf o p|_,_=>false)
def confs(ops:List Oper)(al:List AO):List (Nat×Nat):=
 (List.range ops.length).flatMap fun k=>(List.range k).flatMap fun i=>if((zn ops []).getD k 0).testBit i then[]else match al[i]?,al[k]? with
   |some o,some p=>if(o.op.mut&&p.op.Si)||(p.op.mut&&o.op.Si)then(jU o.op.xs).flatMap fun x=>(jU p.op.xs).map fun y=>(x,y)else[]
   |_,_=>[]
theorem Az{acc:List Nat}{i:Nat}:∀{es:List Edge},(Et acc es).testBit i=true→∃e,e∈es∧Region.binds .any e=true∧(i=e.on∨(acc.getD e.on 0).testBit i=true)
 |[],h=>by simp[Et]at h
 |e::r,h=>by
  simp only[Et]at h;split at h
  ·rename_i hb;rw[Nat.testBit_or,Nat.testBit_or]at h;simp only[Bool.or_eq_true]at h;rcases h with h|h|h
   ·obtain⟨f,c,a⟩:=Az h;exact⟨f,jD _ c,a⟩
   ·refine⟨e,jM,hb,.inl ?_⟩;rw[Nat.testBit_two_pow]at h;have g:e.on=i:=by simpa using h
    exact g.symm
   ·exact⟨e,jM,hb,.inr h⟩
  ·obtain⟨f,c,a⟩:=Az h;exact⟨f,jD _ c,a⟩
theorem Ew:∀(l:List Oper) (acc:List Nat) (k:Nat),k<acc.length→(zn l acc).getD k 0=acc.getD k 0
 |[],acc,k,_=>rfl
 |o::r,acc,k,h=>by
  rw[zn,Ew r _ k (by simp;omega)];simp[List.getD,uO h]
theorem G8{acc a:List Nat}:∀{es:List Edge},(∀e,e∈es→Region.binds .any e=true→acc.getD e.on 0=a.getD e.on 0)→Et acc es=Et a es
 |[],_=>rfl
 |e::r,h=>by
  simp only[Et];split
  ·rename_i hb;rw[G8 fun g f c=>h g (jD _ f) c,h e jM hb]
  ·exact G8 fun g f c=>h g (jD _ f) c
theorem Nj:∀(l:List Oper) (acc:List Nat) (k:Nat) (o:Oper),l[k]? =some o→(∀e,e∈o.after.toList→Region.binds .any e=true→e.on<acc.length+k)→(zn l acc).getD (acc.length+k) 0=Et (zn l acc) o.after.toList
 |[],acc,k,o,h,_=>by simp at h
 |p::r,acc,0,o,h,a=>by
  simp at h;subst h;rw[zn,ik,Ew r _ acc.length sy];simp only[List.getD,rY (aY _),gW,Jm,jJ];refine G8 fun e f c=>?_
  have g:=a e f c;have:=Ew r (acc++[Et acc p.after.toList]) e.on (by simp;omega);rw[this];simp[List.getD,uO (show e.on<acc.length by omega)]
 |p::r,acc,k+1,o,h,a=>by
  have:=Nj r (acc++[Et acc p.after.toList]) k o (by simpa using h) (fun e f c=>by have:=a e f c;simp;omega);simp only[bZ,dX,dJ]at this;rw[zn,show acc.length+(k+1)=acc.length+(0+1)+k from om];exact this
section
variable {P:Program} {J:World→Prop} {w0:World} {H0:HS} {N:Nat} {ops:Array Oper} {al:List AO} {Q:Exit→Act→World→Prop}
theorem Kr:∀{l:List Oper} {al:List AO},cRg P N ops l=some al→l.length=al.length∧∀(k:Nat) (o:Oper),l[k]? =some o→∃p g,al[k]? =some ⟨o.dst,g,p⟩∧WA P o.op=some p∧cG ops o.guard=some g∧dOk N o.dst=true
 |[],al,h=>by simp[cRg]at h;subst h;exact⟨rfl,fun k o h=>by simp at h⟩
 |o::r,al,h=>by
  simp only[cRg]at h;split at h
  ·rename_i p g u a c hl;split at h
   ·rename_i f;cases h;obtain⟨m,j⟩:=Kr hl;refine⟨by simp[m],fun k q hq=>?_⟩;cases k with
    |zero=>simp at hq;subst hq;exact⟨p,g,rfl,a,c,f⟩
    |succ k=>exact j k q (by simpa using hq)
   ·cases h
  ·cases h
theorem sV:∀(rs:List Rc) (s:St),(lT s rs).get=eM s.get rs (List.replicate rs.length true)∧(lT s rs).ob=oM s.ob rs (List.replicate rs.length true)∧(lT s rs).nx=s.nx+rs.length
 |[],s=>⟨rfl,rfl,rfl⟩
 |r::rs,s=>by
  obtain⟨f,c,a⟩:=sV rs (s.zl r.dst r.v r.up);have e1:(s.zl r.dst r.v r.up).get=Ep s.get r.dst r.v:=by
   funext t;cases j:r.dst with
   |none=>rfl
   |some d=>simp[St.zl,St.get,dK,Ep]
  have g:(s.zl r.dst r.v r.up).ob=upd s.ob r.up:=by funext i;simp[St.zl,St.ob,WL];rfl
  refine⟨?_,?_,?_⟩
  ·simp only[lT,dX,nR,eM,if_true];rw[f,e1]
  ·simp only[lT,dX,nR,oM,if_true];rw[c,g]
  ·simp only[lT,dX];rw[a];simp[St.zl];omega
theorem Kt{F G:Nat→List V→V→Prop}:∀{al:List AO} {s:St} {rs:List Rc},Trc F G al s rs→rs.length=al.length∧∀(k:Nat) (o:AO),al[k]? =some o→∃r,rs[k]? =some r∧Did F G o (lT s (rs.take k)) r
 |[],s,rs,h=>by cases h;exact⟨rfl,fun k o h=>by simp at h⟩
 |o::l,s,rs,h=>by
  obtain⟨r,a,rfl,f,ht⟩:=h;obtain⟨u,m⟩:=Kt ht;refine⟨by simp[u],fun k q hq=>?_⟩;cases k with
  |zero=>simp at hq;subst hq;exact⟨r,rfl,f⟩
  |succ k=>
   obtain⟨c,j,g⟩:=m k q (by simpa using hq);exact⟨c,by simpa using j,g⟩
variable{F G:Nat→List V→V→Prop}{id:Nat}{ρ:X→V}{o:aK}
theorem Um{ob:Nat→Option Ob}(ht:o.Si=false){K K':V→List (Nat×Option Ob)→Prop}(hK:∀v,K v []→K' v [])(h:ev F G ρ ob id K o):ev F G ρ ob id K' o:=by
 have c:∀{p:Prop} {v:V},chk p (K v [])→chk p (K' v []):=fun h=>⟨h.1,hK _ h.2⟩
 cases o<;>simp[aK.Si]at ht;case mv x=>exact hK _ h
 case zC f a=>obtain⟨r,k1,k2⟩:=h;exact⟨r,k1,hK _ k2⟩
 case pick E a b=>
  simp only[ev]at h ⊢;cases C:ρ E<;>rw[C]at h<;>(try exact h.elim);exact zD (fun e=>hK _ (h.1 e)) (fun e=>hK _ (h.2 e))
 case bin op x y=>
  simp only[ev]at h ⊢;cases g:ρ x<;>rw[g]at h<;>(try exact h.elim);all_goals
   cases j:ρ y<;>rw[j]at h<;>(try exact h.elim)
  ·cases op<;>simp only[bi]at h ⊢ <;>exact c h
  ·cases op<;>simp only[bs]at h ⊢ <;>first|exact c h|exact hK _ h|exact h.elim
 case Wu n x y=>
  simp only[ev]at h ⊢;cases g:ρ x<;>rw[g]at h<;>(try exact h.elim);cases j:ρ y<;>rw[j]at h<;>(try exact h.elim);exact hK _ h
 case un op x=>simp only[ev]at h ⊢;cases op<;>cases g:ρ x<;>rw[g]at h<;>first|exact h.elim|exact hK _ h
 case MK k x=>simp only[ev]at h ⊢;cases g:ρ x<;>rw[g]at h<;>first|exact h.elim|exact hK _ h
 case six x y=>
  simp only[ev]at h ⊢;cases g:ρ x<;>rw[g]at h<;>(try exact h.elim);cases j:ρ y<;>rw[j]at h<;>(try exact h.elim);exact c h
 case idx sz x y=>
  simp only[ev]at h ⊢;cases g:ρ x<;>rw[g]at h<;>(try exact h.elim);all_goals
   cases j:ρ y<;>rw[j]at h<;>(try exact h.elim)
   exact c h
 case Uh n sz x y=>
  simp only[ev]at h ⊢;cases g:ρ x<;>rw[g]at h<;>(try exact h.elim);all_goals
   cases j:ρ y<;>rw[j]at h<;>(try exact h.elim)
   exact c h
 case FK off p=>simp only[ev]at h ⊢;cases g:ρ p<;>rw[g]at h<;>first|exact h.elim|exact hK _ h
 case Wx H off n x=>
  simp only[ev]at h ⊢;cases g:ρ x<;>rw[g]at h<;>(try exact h.elim);cases H<;>exact c h
 case sub sz x lo z=>
  simp only[ev]at h ⊢;cases g:ρ x<;>rw[g]at h<;>(try exact h.elim);case kn u y=>
   cases u<;>(try exact h.elim);cases y<;>(try exact h.elim);cases hl:lo.map ρ<;>cases l:z.map ρ<;>rw[hl,l]at h<;>(try exact h.elim);rename_i v;cases v<;>first|exact h.elim|exact c h
  all_goals
   simp only[]at h ⊢
   cases hl:lo.map ρ<;>cases l:z.map ρ<;>rw[hl,l]at h<;>(try simp only[]at h ⊢)
   all_goals first
    |exact c h
    |exact hK _ h
    |(rename_i v;cases v<;>first|exact h.elim|exact c h)
    |(rename_i v A;cases v<;>cases A<;>first|exact h.elim|exact c h)
 case RQ n sz x lo z=>
  simp only[ev]at h ⊢;cases g:ρ x<;>rw[g]at h<;>(try exact h.elim);all_goals
   simp only[]at h ⊢
   cases hl:lo.map ρ<;>cases l:z.map ρ<;>rw[hl,l]at h<;>(try simp only[]at h ⊢)
   all_goals first
    |exact c h
    |exact hK _ h
    |(rename_i v;cases v<;>first|exact h.elim|exact c h)
    |(rename_i v A;cases v<;>cases A<;>first|exact h.elim|exact c h)
 case len x=>simp only[ev]at h ⊢;cases g:ρ x<;>rw[g]at h<;>first|exact h.elim|exact hK _ h
 case nc x=>simp only[ev]at h ⊢;cases g:ρ x<;>rw[g]at h<;>first|exact h.elim|exact hK _ h
 case ext x i=>simp only[ev]at h ⊢;cases g:ρ x<;>rw[g]at h<;>first|exact h.elim|exact c h|(cases i<;>first|exact hK _ h|exact c h)
 case mm m x y=>
  simp only[ev]at h ⊢;cases g:ρ x<;>rw[g]at h<;>(try exact h.elim);cases j:ρ y<;>rw[j]at h<;>(try exact h.elim);exact c h
theorem WX{ob:Nat→Option Ob}{v:V}{up:List (Nat×Option Ob)}(ht:o.Si=false)(h:ev F G ρ ob id (fun c a=>c=v∧a=up) o):up=[]:=by
 obtain⟨c,a,f,g⟩:=Nh (by cases o<;>first|rfl|cases ht) (K:=fun c a=>a=up∧a=[]) (Um ht (fun c e=>⟨e.2,rfl⟩) h);rw[←f.1,f.2]
theorem Dv{ob:Nat→Option Ob}{v:V}{j:Nat}{x:Option Ob}(h:(j,x)∈jA ob v):v.ref=some j:=by
 cases v<;>simp only[jA]at h<;>(try cases h);all_goals
  split at h
  ·simp only[l_,Prod.mk.injEq]at h;rw[h.1];rfl
  ·cases h
theorem WY{ob:Nat→Option Ob}{v:V}{up:List (Nat×Option Ob)}(hm:o.mut=true)(h:ev F G ρ ob id (fun M u=>M=v∧u=up) o):
 ∀j x,(j,x)∈up→j=id∨∃y,y∈o.xs∧(ρ y).ref=some j:=by
 intro j x c
 cases o<;>simp[aK.mut]at hm
 case st n p q=>
  simp only[ev]at h;cases l:ρ p<;>rw[l]at h<;>(try exact h.elim);rename_i i k;simp only[]at h;cases g:ob i<;>rw[g]at h<;>(try exact h.elim);obtain⟨_,_,e⟩:=h;subst e;right;rcases dZ.1 c with e|c
  ·cases e;exact⟨p,by simp[aK.xs],by rw[l];rfl⟩
  ·exact⟨q,by simp[aK.xs],Dv c⟩
 case stk p q=>
  simp only[ev]at h;cases l:ρ p<;>rw[l]at h<;>(try exact h.elim);rename_i i k;simp only[]at h;cases g:ob i<;>rw[g]at h<;>(try exact h.elim);obtain⟨_,_,e⟩:=h;subst e;right;rcases dZ.1 c with e|c
  ·cases e;exact⟨p,by simp[aK.xs],by rw[l];rfl⟩
  ·cases c
 case app e sz b s q=>
  simp only[ev]at h;cases l:ρ s<;>rw[l]at h<;>(try exact h.elim)
  ·rename_i a i m;cases H:rd ob sz (FM (ρ q))<;>rw[H]at h<;>(try exact h.elim);simp only[]at h;cases g:ob i<;>rw[g]at h<;>(try exact h.elim);obtain⟨_,_,e⟩:=h;subst e;rcases dZ.1 c with e|c
   ·cases e;exact .inr ⟨s,by simp[aK.xs],by rw[l];rfl⟩
   ·rcases dZ.1 c with e|c
    ·cases e;exact .inl rfl
    ·cases c
  ·cases H:rd ob sz (FM (ρ q))<;>rw[H]at h<;>(try exact h.elim);obtain⟨_,_,e⟩:=h;subst e;rcases dZ.1 c with e|c
   ·cases e;exact .inl rfl
   ·cases c
 case RJ z ps=>
  simp only[ev]at h;obtain⟨_,_,e⟩:=h;subst e;obtain⟨p,E,A⟩:=nN.1 c;exact .inr ⟨p.2.2,eG.2 ⟨p,E,rfl⟩,Dv A⟩
 case RN e sz n z ps=>
  simp only[ev]at h;obtain⟨_,_,C⟩:=h;rw[←C]at c;rcases dZ.1 c with N|c
  ·cases N;exact .inl rfl
  ·obtain⟨p,E,A⟩:=nN.1 c;exact .inr ⟨p.2,eG.2 ⟨p,E,rfl⟩,Dv A⟩
 case call f args=>
  simp only[ev]at h;obtain⟨_,n,r,_,h⟩:=h;have key:∀(b:Bool) (u:List (Nat×Option Ob)),u=(if b then args.flatMap fun p=>jA ob (ρ p.2)else[])→(j,x)∈u→∃y,y∈(aK.call f args).xs∧(ρ y).ref=some j:=fun b u e I=>by
   subst e;cases b
   ·cases I
   ·obtain⟨p,E,A⟩:=nN.1 I;exact⟨p.2,eG.2 ⟨p,E,rfl⟩,Dv A⟩
  cases r;case o e sz cs=>
   obtain⟨_,_,C⟩:=h;rw[←C]at c;rcases dZ.1 c with e|c
   ·cases e;exact .inl rfl
   ·exact .inr (key _ _ rfl c)
  case mu y cs=>exact h.elim
  case fr y=>
   obtain⟨_,C⟩:=h;rw[←C]at c;cases c
  case to e sz cs rs=>
   obtain⟨_,C⟩:=h;rw[←C]at c;rcases dZ.1 c with e|c
   ·cases e;exact .inl rfl
   ·exact .inr (key _ _ rfl c)
  all_goals
   obtain⟨_,C⟩:=h
   exact .inr (key _ _ C.symm c)
 case xN f m args=>
  simp only[ev]at h;cases l:(args[m]?).map (fun p=>ρ p.2)with
  |none=>rw[l]at h;exact h.elim
  |some v=>
   rw[l]at h;cases v<;>simp only[]at h<;>(try exact h.elim);rename_i z i n;cases g:ob i with
   |none=>rw[g]at h;exact h.elim
   |some o=>
    rw[g]at h;obtain⟨_,r,cs',_,_,_,e⟩:=h;subst e;obtain⟨p,E,L⟩:=jT.1 l;right;rcases dZ.1 c with e|c
    ·cases e;exact⟨p.2,eG.2 ⟨p,dP E,rfl⟩,by rw[L];rfl⟩
    ·obtain⟨q,hq,J⟩:=nN.1 c;exact⟨q.2,eG.2 ⟨q,List.mem_of_mem_eraseIdx hq,rfl⟩,Dv J⟩
 case Ug sz s q=>
  simp only[ev]at h;cases l:Dh (ρ s)<;>rw[l]at h<;>(try exact h.elim);rename_i a i off m;cases H:rd ob sz (ρ q)<;>rw[H]at h<;>(try exact h.elim);simp only[]at h;cases g:ob i<;>rw[g]at h<;>(try exact h.elim);obtain⟨_,_,e⟩:=h;subst e;rcases dZ.1 c with e|c
  ·cases e;exact .inr ⟨s,by simp[aK.xs],Nc l⟩
  ·cases c
theorem yK{n:Nat}:∀{xs:List X},X.t n∈xs→n∈jU xs
 |[],h=>by cases h
 |x::r,h=>by
  rcases dZ.1 h with e|a
  ·subst e;exact jM
  ·cases x<;>simp only[jU]
   ·exact jD _ (yK a)
   ·exact yK a
theorem Dw{o:AO}{s:St}{r:Rc}(z:xy o.op.xs=true)(h:Did F G o s r):∀j x,(j,x)∈r.up→o.op.Si=true∧(j=s.nx∨(o.op.mut=true∧∃n,n∈jU o.op.xs∧(s.get n).ref=some j)):=by
 intro j x f;obtain⟨I,a,href,c⟩:=h;have run:ev F G s.val s.ob s.nx (fun v up=>v=r.v∧up=r.up) o.op→o.op.Si=true∧(j=s.nx∨(o.op.mut=true∧∃n,n∈jU o.op.xs∧(s.get n).ref=some j)):=fun l=>by
  refine⟨?_,?_⟩
  ·cases ht:o.op.Si with
   |true=>rfl
   |false=>rw[WX ht l]at f;cases f
  ·cases hm:o.op.mut with
   |false=>
    rw[hm]at c;simp only[Bool.false_or]at c;have:=dh.1 c _ f;left;simpa using this
   |true=>
    rcases WY hm l j x f with m|⟨y,m,H⟩
    ·exact .inl m
    ·refine .inr ⟨rfl,?_⟩;cases y with
     |t n=>exact⟨n,yK m,H⟩
     |k v=>
      exfalso;have gen:∀xs:List X,xy xs=true→X.k v∈xs→v.ref=none:=fun xs=>by
       induction xs with
       |nil=>intro _ h;cases h
       |cons x r A=>
        intro h u;rcases dZ.1 u with e|g
        ·subst e;simp only[xy,dA]at h;simpa using h.1
        ·cases x<;>simp only[xy,dA]at h
         ·exact A h g
         ·exact A h.2 g
      have E:v.ref=some j:=H;rw[gen _ z m]at E;cases E
 have skip:r.v= .un∧r.up=[]→o.op.Si=true∧(j=s.nx∨(o.op.mut=true∧∃n,n∈jU o.op.xs∧(s.get n).ref=some j)):=fun l=>by rw[l.2]at f;cases f
 cases C:o.gd with
 |none=>rw[C]at a;exact run a
 |some tw=>
  obtain⟨t,want⟩:=tw;rw[C]at a;cases want<;>simp only[gv]at a;all_goals
   cases u:s.get t<;>rw[u]at a<;>(try exact a.elim)
  case false.b x=>
   cases x
   ·exact run (a.2 rfl)
   ·exact skip (a.1 rfl)
  case true.b x=>
   cases x
   ·exact skip (a.2 rfl)
   ·exact run (a.1 rfl)
  case false.un=>exact skip a
  case true.un=>exact skip a
theorem WZ:∀(rs:List Rc) (e:Nat→V) (nx:Nat),(∀t j,(e t).ref=some j→j<nx)→(∀(k:Nat) (r:Rc),rs[k]? =some r→r.v.jE (nx+k)=true)→∀t j,(eM e rs (List.replicate rs.length true) t).ref=some j→j<nx+rs.length
 |[],e,nx,h,_,t,j,a=>h t j a
 |r::rs,e,nx,h,g,t,j,a=>by
  simp only[dX,nR,eM,if_true]at a;have:=WZ rs (Ep e r.dst r.v) (nx+1) (fun t j a=>?_) (fun k q hq=>by have:=g (k+1) q (by simpa using hq);rw[show nx+1+k=nx+(k+1)from om];exact this) t j a
  ·simp;omega
  ·have m:=g 0 r rfl;have e0:∀v:V,v.jE (nx+0)=true→v.ref=some j→j<nx+1:=fun v l f=>by
    cases v<;>simp[V.ref]at f<;>(subst f;simp[V.jE]at l;omega)
   cases c:r.dst with
   |none=>rw[c]at a;have:=h t j a;omega
   |some d=>
    rw[c]at a;simp only[Ep]at a;split at a
    ·exact e0 _ m a
    ·have:=h t j a;omega
end
end Go.Proofs.YtpopphdnlhihdaaGreatDoor.Ab
namespace Go.Proofs.YtpopphdnlhihdaaGreatDoor.Ab
open Go Go.RowKit
variable{o:AO}{cf:List (Nat×Nat)}
theorem Nl{n:Nat}(h:X.t n∈o.op.xs):n∈o.looks:=by
 have:∀xs:List X,X.t n∈xs→n∈jU xs:=fun xs=>by
  induction xs with
  |nil=>intro h;cases h
  |cons x r a=>
   intro h;rcases dZ.1 h with e|c
   ·subst e;exact jM
   ·cases x<;>simp only[jU]
    ·exact jD _ (a c)
    ·exact a c
 exact nC.2 (.inr (this _ h))
theorem W9{xs:List X}(h:xy xs=true){v:V}(f:X.k v∈xs):v.ref=none:=by
 induction xs with
 |nil=>cases f
 |cons x r c=>
  rcases dZ.1 f with e|a
  ·subst e;simp only[xy,dA]at h;simpa using h.1
  ·cases x<;>simp only[xy,dA]at h
   ·exact c h a
   ·exact c h.2 a
variable{p:AO}
theorem qJ(h:Es cf o p=true):
 (∀d,o.dst=some d→d ∉ p.looks∧p.dst≠some d)∧(∀d,p.dst=some d→d ∉ o.looks)∧
 (((o.op.mut=true∧p.op.Si=true)∨(p.op.mut=true∧o.op.Si=true))→∀x y,x∈jU o.op.xs→y∈jU p.op.xs→(x,y)∈cf):=by
 unfold Es at h
 simp only[dA]at h
 obtain⟨⟨l,j⟩,a⟩:=h
 refine⟨fun d c=>?_,fun d c=>?_,fun hm x y u m=>?_⟩
 ·rw[c]at l;simp at l;exact l
 ·rw[c]at j;simp at j;exact j
 ·simp only[Bool.or_eq_true]at a;rcases a with a|a
  ·simp only[dA,Bool.not_eq_true']at a;rcases hm with ⟨g,f⟩|⟨g,f⟩
   ·rw[g,f]at a;simp at a
   ·rw[g,f]at a;simp at a
  ·have:=dh.1 (dh.1 a x u) y m;simpa using this
theorem Np{al:List AO}(h:stable cf al=true){i k:Nat}(l:i≤k)(m:al[i]? =some o)(g:al[k]? =some p){n:Nat}(j:n∈jU o.op.xs){q:Nat×Nat}(hq:q∈cf)(c:q.1=n∨q.2=n):p.dst≠some n:=by
 intro u;unfold stable at h;have f:k<al.length:=(iR.1 g).1;have a:=dh.1 (dh.1 h k (gQ.2 f)) i (gQ.2 om);rw[m,g]at a;simp only[u]at a;have y:(cf.any fun q=>q.1==n||q.2==n)=true:=List.any_eq_true.2 ⟨q,hq,by simpa using c⟩;rw[y]at a;simp[j]at a
section
variable {P:Program} {J:World→Prop} {w0:World} {H0:HS} {N:Nat} {ops:Array Oper} {al:List AO} {Q:Exit→Act→World→Prop} {s:St} {rs:List Rc} {cf:List (Nat×Nat)}
structure Inv(P:Program)(w0:World)(H0:HS)(N:Nat)(ops:Array Oper)(al:List AO)(s:St)(rs:List Rc)(listed:Array Bool)(a:Act)(w:World)(H:Nat→Prop)(ov:Nat→Option Value):Prop where
 len:listed.size=ops.size
 down:∀(k:Nat) (o:Oper),listed[k]? =some true→ops[k]? =some o→∀e,e∈o.after.toList→Region.binds .any e=true→listed[e.on]? =some true
 mem:Mem w0 H0 w H ov (oM s.ob rs listed.toList)
 env:∀t,Rep w H ov (a.tmps.getD t undef) (eM s.get rs listed.toList t)
 MJ:a.tmps.size=N
 I7:a.defers=[]
 kp:∀m v,(m,v)∈H0.kp→a.tmps.getD m undef=v
 W_:∀i,i<ops.size→listed[i]? =some false→ov (s.nx+i)=none
 new2:∀id,s.nx+ops.size≤id→ov id=none
 refs:∀(k:Nat) (o:AO),listed[k]? =some true→al[k]? =some o→∀n,n∈jU o.op.xs→∀m,listed[m]? =some false→((lT s (rs.take k)).get n).ref≠some (s.nx+m)
variable{H:Nat→Prop}{ov:Nat→Option Value}{a:Act}{o:Oper}
theorem Un{w:World}{j t:Nat}{v:V}(l:(ops[j]?).bind (·.dst)=some t)(h:Rep w H ov (a.tmps.getD t undef) v):(∀x,v= .b x→yielded ops a.tmps j=some x)∧(v= .un→yielded ops a.tmps j=none):=by
 have e:yielded ops a.tmps j=match (a.tmps[t]? :Option Value)with|some (.bool b)=>some b|_=>none:=by
  unfold yielded;rw[l];rfl
 constructor
 ·intro x g;rw[g]at h;have c:=h.qH;rw[e];simp only[lH]at c;cases f:a.tmps[t]? with
  |none=>rw[f]at c;simp[undef]at c
  |some v=>rw[f]at c;simp at c;subst c;rfl
 ·intro g;rw[g]at h;have c:=h.WB;rw[e];simp only[lH]at c;cases f:a.tmps[t]? with
  |none=>rfl
  |some v=>rw[f]at c;simp at c;subst c;rfl
theorem Uo{w:World}{m:St}{g:Option (Nat×Bool)}(c:cG ops o.guard=some g)(z:∀t b,g=some (t,b)→Rep w H ov (a.tmps.getD t undef) (m.get t)){run skip:Prop}(h:gv g m run skip):
 (Region.wanted o (yielded ops a.tmps)=true∧run)∨(Region.wanted o (yielded ops a.tmps)=false∧skip):=by
 unfold Region.wanted
 cases l:o.guard with
 |none=>rw[l]at c;simp only[cG,fU]at c;subst c;exact .inl ⟨rfl,h⟩
 |some y=>
  obtain⟨j,want⟩:=y;rw[l]at c;simp only[cG]at c;split at c
  ·rename_i t ht;simp only[fU]at c;subst c;obtain⟨y1,u⟩:=Un (ops:=ops) ht (z t want rfl);simp only[];cases want<;>simp only[gv]at h
   ·cases f:m.get t<;>rw[f]at h<;>simp only[]at h;case b x=>
     rw[y1 x f];cases x
     ·exact .inl ⟨rfl,h.2 rfl⟩
     ·exact .inr ⟨rfl,h.1 rfl⟩
    case un=>rw[u f];exact .inr ⟨rfl,h⟩
   ·cases f:m.get t<;>rw[f]at h<;>simp only[]at h;case b x=>
     rw[y1 x f];cases x
     ·exact .inr ⟨rfl,h.2 rfl⟩
     ·exact .inl ⟨rfl,h.1 rfl⟩
    case un=>rw[u f];exact .inr ⟨rfl,h⟩
  ·cases c
theorem Nq(a:∀(k:Nat) (o:Oper),ops.toList[k]? =some o→∀e,e∈o.after.toList→Region.binds .any e=true→e.on<k){k:Nat}(c:ops.toList[k]? =some o):(zn ops.toList []).getD k 0=Et (zn ops.toList []) o.after.toList:=by
 have:=Nj ops.toList [] k o c (fun e g f=>by have:=a k o c e g f;simp;exact this);simpa using this
theorem Nr(f:∀(k:Nat) (o:Oper),ops.toList[k]? =some o→∀e,e∈o.after.toList→Region.binds .any e=true→e.on<k){listed:Array Bool}
 (down:∀(k:Nat) (o:Oper),listed[k]? =some true→ops[k]? =some o→∀e,e∈o.after.toList→Region.binds .any e=true→listed[e.on]? =some true) (hlen:listed.size=ops.size):
 ∀k i,listed[k]? =some true→((zn ops.toList []).getD k 0).testBit i=true→listed[i]? =some true:=by
 intro k
 induction k using Nat.strongRecOn with
 |_ k y=>
  intro i l hb;have c:k<ops.size:=by rw[←hlen];exact(pW.1 l).1
  have j:ops.toList[k]? =some ops[k]:=by simp[c]
  rw[Nq f j]at hb;obtain⟨e,u,m,g⟩:=Az hb;have a:=down k ops[k] l (by simp[c]) e u m;rcases g with g|g
  ·rw[g];exact a
  ·exact y e.on (f k _ j e u m) i a g
theorem Ur(hJs:∀w',bT w0 H0.e w'→J w')(hcR:cRg P N ops ops.toList=some al)(hdr:Eu cf ops.toList al=true)(hcf:p_ (lT s rs) cf)(hnk:∀o,o∈al→nkp H0 o.dst)(hT:Trc (fC P J) (mG P) al s rs)(Xb:∀t j,(s.get t).ref=some j→j<s.nx)
 (hQ:∀w' H' jZ a',Conc w0 H0 w' H' jZ N a' (lT s rs)→Q .normal a' w'):
 ∀(fuel:Nat) (listed:Array Bool) (a:Act) (w:World) (H:Nat→Prop) (ov:Nat→Option Value),(listed.toList.filter (· ==false)).length≤fuel→Inv P w0 H0 N ops al s rs listed a w H ov→wpAny P .any ops Q fuel listed a w:=by
 obtain⟨hlen,hget⟩:=Kr hcR
 obtain⟨hrl,hrs⟩:=Kt hT
 have yL:rs.length=ops.size:=by rw[hrl,←hlen];simp
 unfold Eu at hdr
 simp only[dA,dh,gQ,Array.length_toList]at hdr
 obtain⟨⟨hnr0,hst⟩,hdr⟩:=hdr
 have hnr:=fun x A=>(hnr0 x A).1
 have hed:∀(k:Nat) (o:Oper),ops.toList[k]? =some o→∀e,e∈o.after.toList→Region.binds .any e=true→e.on<k:=fun k o z e C E=>by
  have hlt:k<ops.size:=by simpa using(iR.1 z).1
  have:=(hdr k hlt).1;rw[z]at this;have:=dh.1 this e C;simpa[E]using this
 have hpair:∀k i,k<ops.size→i<k→((zn ops.toList []).getD k 0).testBit i=false→∃o p,al[i]? =some o∧al[k]? =some p∧Es cf o p=true:=fun k i z hi hb=>by
  have:=(hdr k z).2 i hi;rw[hb]at this;simp only[Bool.false_or]at this;split at this
  ·rename_i o p C E;exact⟨o,p,C,E,this⟩
  ·cases this
 have Xc:∀(k:Nat),k<ops.size→∃o p g r,ops[k]? =some o∧al[k]? =some ⟨o.dst,g,p⟩∧WA P o.op=some p∧cG ops o.guard=some g∧dOk N o.dst=true∧rs[k]? =some r∧Did (fC P J) (mG P) ⟨o.dst,g,p⟩ (lT s (rs.take k)) r:=fun k z=>by
  have ho:ops.toList[k]? =some ops[k]:=by simp[z]
  obtain⟨p,g,C,E,h3,Y⟩:=hget k _ ho;obtain⟨r,h5,h6⟩:=hrs k _ C;exact⟨ops[k],p,g,r,by simp[z],C,E,h3,Y,h5,h6⟩
 have hnx:∀k,k≤ops.size→(lT s (rs.take k)).nx=s.nx+k:=fun k z=>by
  rw[(sV (rs.take k) s).2.2,jo,yL];omega
 have F6:∀k,k≤ops.size→(rs.take k).length=k:=fun k z=>by rw[jo,yL];omega
 have Xd:∀{k:Nat} {o:AO} {n:Nat} {q:Nat×Nat},q∈cf→(q.1=n∨q.2=n)→al[k]? =some o→n∈jU o.op.xs→(lT s (rs.take k)).get n=(lT s rs).get n:=fun {k o n q} hq hqn z hn=>by
  have hst':stable cf al=true:=by
   cases cf with
   |nil=>cases hq
   |cons=>simpa using hst
  have Xe:k<ops.size:=by rw[←yL,hrl];exact(iR.1 z).1
  rw[(sV (rs.take k) s).1,(sV rs s).1,F6 k om];symm;refine Kq rs _ k _ _ n sy rfl (fun k' q _ C E=>?_) (fun k' q C E _ he=>?_)
  ·rw[List.getElem?_replicate]at E;split at E<;>cases E
  ·have hk':k'<ops.size:=by rw[←yL];exact(iR.1 E).1
   obtain⟨M,Z,g',r',_,c,_,_,_,L,G⟩:=Xc k' hk';rw[E]at L;cases L;exact Np hst' C z c hn hq hqn (by rw[←G.1];exact he)
 have clash:∀{i k:Nat} {o p:AO} {x y j:Nat},al[i]? =some o→al[k]? =some p→(x,y)∈cf→x∈jU o.op.xs→y∈jU p.op.xs→((lT s (rs.take i)).get x).ref=some j→((lT s (rs.take k)).get y).ref=some j→False:=fun {i k o p x y j} C E h3 Y h5 h6 h7=>by
  rw[Xd h3 (.inl rfl) C Y]at h6;rw[Xd h3 (.inr rfl) E h5]at h7;exact G7 hcf h3 h6 h7
 have refLt:∀{k:Nat} {n j:Nat},k≤ops.size→((lT s (rs.take k)).get n).ref=some j→j<s.nx+k:=fun {k n j} z hj=>by
  rw[(sV (rs.take k) s).1]at hj;have:=WZ (rs.take k) s.get s.nx Xb (fun k' r' L=>by
   have hk':k'<k:=by
    have:=(iR.1 L).1;rw[F6 k z]at this;exact this
   rw[ou,au hk']at L;obtain⟨_,_,_,r2,_,_,_,_,_,h5,h6⟩:=Xc k' om;rw[L]at h5;cases h5;have:=h6.2.2.1;rw[hnx k' om]at this;exact this) n j hj
  rwa[F6 k z]at this
 have fin:∀(listed:Array Bool) (a:Act) (w:World) (H:Nat→Prop) (ov:Nat→Option Value),Inv P w0 H0 N ops al s rs listed a w H ov→(∀i,i<ops.size→listed[i]? =some true)→Q .normal a w:=fun listed a w H ov inv hall=>by
  have e:listed.toList=List.replicate rs.length true:=by
   apply List.ext_getElem?;intro i;by_cases hi:i<ops.size
   ·have:=hall i hi;rw[pX,this,List.getElem?_replicate,au om]
   ·rw[ng (by simp[inv.len];omega),ng (by simp[yL];omega)]
  obtain⟨e1,e2,e3⟩:=sV rs s;refine hQ w H ov a ⟨?_,inv.MJ,inv.I7,inv.kp,fun t=>?_,fun id hid=>inv.new2 id (by rw[e3,yL]at hid;exact hid)⟩
  ·rw[e2,←e];exact inv.mem
  ·rw[e1,←e];exact inv.env t
 have Xf:∀(listed:Array Bool),listed.size=ops.size→∀i,i<ops.size→listed[i]? =some false→(∀j,j<i→listed[j]? =some true)→i∈Region.ready .any ops listed:=fun listed hl i hi hf hb=>by
  unfold Region.ready;refine List.mem_filter.2 ⟨gQ.2 hi,?_⟩;have C:listed.getD i true=false:=by simp[lH,hf]
  rw[C];simp only[Bool.not_false,jP];rw[sF hi];simp only[kZ,jJ];rw[Array.all_eq_true];intro q hq;have hm:ops[i].after[q]∈ops[i].after.toList:=sy;cases hbd:Region.binds .any ops[i].after[q]with
  |false=>simp
  |true=>
   have:=hed i ops[i] (by simp[hi]) _ hm hbd;simp[lH,hb _ this]
 have O4:∀(listed:Array Bool),listed.size=ops.size→Region.ready .any ops listed=[]→∀i,i<ops.size→listed[i]? =some true:=fun listed hl hr=>by
  intro i;induction i using Nat.strongRecOn with
  |_ i ih=>
   intro hi;have hlt:i<listed.size:=om;cases hv:listed[i]
   ·have:=Xf listed hl i hi (by rw[sF hlt,hv]) (fun j hj=>ih j hj om);rw[hr]at this;cases this
   ·rw[sF hlt,hv]
 intro fuel
 induction fuel with
 |zero=>
  intro listed a w H ov hf inv;have hall:∀i,i<ops.size→listed[i]? =some true:=fun i hi=>by
   have hlt:i<listed.size:=by rw[inv.len];exact hi
   cases hv:listed[i]
   ·exfalso;have:false∈listed.toList.filter (· ==false):=List.mem_filter.2 ⟨by rw[←hv];simp,rfl⟩;have h0:(listed.toList.filter (· ==false)).length=0:=om;rw[List.length_eq_zero_iff]at h0;rw[h0]at this;cases this
   ·rw[sF hlt,hv]
  refine⟨?_,fin listed a w H ov inv hall⟩;unfold Region.ready;rw[List.filter_eq_nil_iff];intro i hi;have:=hall i (gQ.1 hi);simp[lH,this]
 |succ fuel ih=>
  intro listed a w H ov hf inv;refine⟨fun hr=>fin listed a w H ov inv (O4 listed inv.len hr),fun i hi=>?_⟩;unfold Region.ready at hi;obtain⟨hi1,hi2⟩:=List.mem_filter.1 hi;have hilt:i<ops.size:=gQ.1 hi1;simp only[dA]at hi2;obtain⟨hnl,hpre⟩:=hi2;have hlt':i<listed.size:=by rw[inv.len];exact hilt
  have hif:listed[i]? =some false:=by
   rw[sF hlt'];simp only[lH,sF hlt',jJ]at hnl;simpa using hnl
  obtain⟨o,p,g,r,ho,U,hcp,hcg,hdd,hri,hdi⟩:=Xc i hilt;rw[ho]at hpre;simp only[kZ,jJ]at hpre;have hpre':∀e,e∈o.after.toList→Region.binds .any e=true→listed[e.on]? =some true:=fun e C E=>by
   obtain⟨q,hq,rfl⟩:=vU C;have:=Array.all_eq_true.1 hpre q (by simpa using hq);simp only[Array.getElem_toList]at E ⊢;rw[E]at this;simp only[Bool.not_true,Bool.false_or]at this;rw[lH]at this;cases A:listed[o.after[q].on]? with
   |none=>rw[A]at this;simp at this
   |some x=>rw[A]at this;simp at this;rw[this]
  have closed:=Nr hed inv.down inv.len;have Xg:∀k,((zn ops.toList []).getD i 0).testBit k=true→listed[k]? =some true:=fun k hb=>by
   rw[Nq hed (by rw[pX];exact ho)]at hb;obtain⟨e,C,E,h3⟩:=Az hb;rcases h3 with h3|h3
   ·rw[h3];exact hpre' e C E
   ·exact closed e.on k (hpre' e C E) h3
  have Su:∀k q,k<i→rs[k]? =some q→listed[k]? =some false→∃M Z g',al[k]? =some ⟨M,g',Z⟩∧q.dst=M∧Es cf ⟨M,g',Z⟩ ⟨o.dst,g,p⟩=true∧Did (fC P J) (mG P) ⟨M,g',Z⟩ (lT s (rs.take k)) q:=fun k q z hq hkf=>by
   obtain⟨M,Z,g',r',_,c,_,_,_,L,G⟩:=Xc k om;have hb:((zn ops.toList []).getD i 0).testBit k=false:=by
    cases A:((zn ops.toList []).getD i 0).testBit k
    ·rfl
    ·have:=Xg k A;rw[hkf]at this;cases this
   obtain⟨x,y,C,E,h3⟩:=hpair i k hilt z hb;rw[c]at C;rw[U]at E;cases C;cases E;rw[hq]at L;cases L;exact⟨M.dst,Z,g',c,G.1,h3,G⟩
  have F7:∀k q,i<k→rs[k]? =some q→listed[k]? =some true→∃M Z g',al[k]? =some ⟨M,g',Z⟩∧q.dst=M∧Es cf ⟨o.dst,g,p⟩ ⟨M,g',Z⟩=true∧Did (fC P J) (mG P) ⟨M,g',Z⟩ (lT s (rs.take k)) q:=fun k q z hq hkt=>by
   have Xe:k<ops.size:=by rw[←inv.len];exact(pW.1 hkt).1
   obtain⟨M,Z,g',r',_,c,_,_,_,L,G⟩:=Xc k Xe;have hb:((zn ops.toList []).getD k 0).testBit i=false:=by
    cases A:((zn ops.toList []).getD k 0).testBit i
    ·rfl
    ·have:=closed k i hkt A;rw[hif]at this;cases this
   obtain⟨x,y,C,E,h3⟩:=hpair k i Xe z hb;rw[U]at C;rw[c]at E;cases C;cases E;rw[hq]at L;cases L;exact⟨M.dst,Z,g',c,G.1,h3,G⟩
  obtain⟨hdst,hgv,href,hupd⟩:=hdi;simp only at hdst hgv hupd;have O5:listed.toList[i]? =some false:=by rw[pX];exact hif
  have hll:listed.toList.length=rs.length:=by simp[inv.len,yL]
  obtain⟨e1,e2,e3⟩:=sV (rs.take i) s;rw[F6 i om]at e1 e2;have slot:∀t,t∈(⟨o.dst,g,p⟩:AO).looks→eM s.get rs listed.toList t=(lT s (rs.take i)).get t:=fun t ht=>by
   rw[e1];refine Kq rs listed.toList i _ _ t hll rfl (fun k q z hq hm he=>?_) (fun k q z hq hm he=>?_)
   ·rw[pX]at hm;obtain⟨M,Z,g',_,hqd,O,_⟩:=Su k q z hq hm;have:=(qJ O).1 t (by rw[←hqd];exact he);exact this.1 ht
   ·rw[pX]at hm;rcases dW i k with T|T
    ·obtain⟨M,Z,g',_,hqd,O,_⟩:=F7 k q T hq hm;exact(qJ O).2.1 t (by rw[←hqd];exact he) ht
    ·have:k=i:=om;subst this;rw[hif]at hm;cases hm
  have hnxi:=hnx i om;have Xh:oM s.ob rs listed.toList (s.nx+i)=none:=by
   cases A:oM s.ob rs listed.toList (s.nx+i)with
   |none=>rfl
   |some ob=>
    obtain⟨v,hv,_⟩:=inv.mem.obj _ _ A;rw[inv.W_ i hilt hif]at hv;cases hv
  have ρdef:∃ρ:X→V,(∀n,ρ (.t n)=eM s.get rs listed.toList n)∧∀v,ρ (.k v)=v:=⟨fun x=>match x with| .t n=>eM s.get rs listed.toList n| .k v=>v,fun _=>rfl,fun _=>rfl⟩;obtain⟨ρ,hρt,hρk⟩:=ρdef;have hρ:∀q x,cX q=some x→Rep w H ov (a.eval q) (ρ x):=fun q x A=>by
   have hc0:Conc w0 H0 w H ov N a {env:=[],yx:=[],nx:=s.nx+ops.size}:=⟨⟨inv.mem.bel,inv.mem.tj,inv.mem.Bo,inv.mem.low,fun id o h=>(by cases h),fun i j oi oj vi vj b hij h=>(by cases h)⟩,inv.MJ,inv.I7,inv.kp,fun t=> .any _,inv.new2⟩;cases q with
   |tmp t=>simp only[cX,fU]at A;subst A;rw[hρt];exact inv.env t
   |const v=>have:=hc0.val (.const v) x A;simp only[cX,fU]at A;subst A;rw[hρk];exact this
   |func f=>have:=hc0.val (.func f) x A;simp only[cX,fU]at A;subst A;rw[hρk];exact this
   |global g=>have:=hc0.val (.global g) x A;simp only[cX,fU]at A;subst A;rw[hρk];exact this
  have vals:∀x,x∈p.xs→(lT s (rs.take i)).val x=ρ x:=fun x A=>by
   cases x with
   |t n=>rw[hρt,slot n (Nl (o:=⟨o.dst,g,p⟩) A)];rfl
   |k v=>rw[hρk];rfl
  have Sz:∀(cv:Value) (w':World) (H':Nat→Prop) (jZ:Nat→Option Value),Ext w H ov w' H' jZ→(∀j,j≠s.nx+i→ov j=none→jZ j=none)→Mem w0 H0 w' H' jZ (upd (oM s.ob rs listed.toList) r.up)→Rep w' H' jZ cv r.v→
   Inv P w0 H0 N ops al s rs (listed.setIfInBounds i true) (a.put o.dst cv) w' H' jZ:=fun cv w' H' jZ kJ hn hmem hrep=>by
   have et:(listed.setIfInBounds i true).toList=listed.toList.set i true:=sy
   refine⟨by simp[inv.len],fun k M z ho' e C E=>?_,?_,fun t=>?_,?_,?_,?_,fun j hj hjf=>?_,fun id hid=>hn id om (inv.new2 id hid),fun k M z c n hn' m hm=>?_⟩
   ·rw[Array.getElem?_setIfInBounds]at z ⊢;have keep:listed[e.on]? =some true→(if i=e.on then if i<listed.size then some true else none else listed[e.on]?)=some true:=fun h=>by
     by_cases C:i=e.on
     ·rw[au C,au hlt']
     ·rw[ah C];exact h
    by_cases T:i=k
    ·subst T;rw[ho]at ho';cases ho';exact keep (hpre' e C E)
    ·rw[ah T]at z;exact keep (inv.down k M z ho' e C E)
   ·rw[et,WW rs listed.toList i s.ob r hri O5]
    ·exact hmem
    ·intro k q z hq hm j x y A hy;rw[pX]at hm;obtain⟨M,Z,g',c,_,O,G⟩:=F7 k q z hq hm;have Xe:k<ops.size:=by rw[←inv.len];exact(pW.1 hm).1
     obtain⟨_,_,I⟩:=qJ O;simp only at I;obtain⟨t1,k1⟩:=Dw (hnr _ (dP U)) (⟨hdst,hgv,href,hupd⟩:Did (fC P J) (mG P) ⟨o.dst,g,p⟩ (lT s (rs.take i)) r) j x A;obtain⟨t2,k2⟩:=Dw (hnr _ (dP c)) G j y hy;rw[hnxi]at k1;rw[hnx k om]at k2;rcases k1 with k1|⟨m1,n1,l1,r1⟩
     ·rcases k2 with k2|⟨m2,n2,l2,r2⟩
      ·omega
      ·exact inv.refs k _ hm c n2 l2 i hif (by rw[r2,k1])
     ·rcases k2 with k2|⟨m2,n2,l2,r2⟩
      ·have:=refLt (show i≤ops.size by omega) r1;omega
      ·exact clash U c (I (.inl ⟨m1,t2⟩) n1 n2 l1 l2) l1 l2 r1 r2
   ·have hbase:Rep w' H' jZ (a.tmps.getD t undef) (eM s.get rs listed.toList t):=(inv.env t).mono kJ;rw[et,WV rs listed.toList i s.get r hri O5]
    ·rw[hdst];cases hod:o.dst with
     |none=>exact hbase
     |some d=>
      have hdN:d<a.tmps.size:=by rw[inv.MJ];rw[hod]at hdd;simpa[dOk]using hdd
      rw[Dt hdN];simp only[Ep];split
      ·exact hrep
      ·exact hbase
    ·intro k q z hq hm t' ht' he;rw[pX]at hm;obtain⟨M,Z,g',_,hqd,O,_⟩:=F7 k q z hq hm;rw[hdst]at he;have:=(qJ O).1 t' he;exact this.2 (by rw[←hqd];exact ht')
   ·cases hod:o.dst with
    |none=>exact inv.MJ
    |some d=>simp[Act.put,inv.MJ]
   ·cases hod:o.dst<;>exact inv.I7
   ·intro m v hm;have hkk:=hnk _ (dP U) m v hm;cases hod:o.dst with
    |none=>exact inv.kp m v hm
    |some d=>
     have hdN:d<a.tmps.size:=by rw[inv.MJ];rw[hod]at hdd;simpa[dOk]using hdd
     rw[Dt hdN,ah (fun e=>hkk (by show o.dst=_;rw[hod,e]))];exact inv.kp m v hm
   ·rw[Array.getElem?_setIfInBounds]at hjf;by_cases hij:i=j
    ·rw[au hij,au hlt']at hjf;cases hjf
    ·rw[ah hij]at hjf;exact hn _ om (inv.W_ j hj hjf)
   ·have hmf:listed[m]? =some false:=by
     rw[Array.getElem?_setIfInBounds]at hm;split at hm
     ·first|(cases hm;done)|(split at hm<;>cases hm)
     ·exact hm
    rw[Array.getElem?_setIfInBounds]at z;by_cases T:i=k
    ·subst T;rw[U]at c;cases c;intro u;have Uk:m<ops.size:=by rw[←inv.len];exact(pW.1 hmf).1
     have F:=inv.env n;rw[slot n (nC.2 (.inr hn'))]at F;have:ov (s.nx+m)≠none:=by
      cases hgn:(lT s (rs.take i)).get n<;>rw[hgn]at u F<;>simp[V.ref]at u
      ·obtain⟨_,_,_,Y,_⟩:=F.jK;subst u;rw[Y];simp
      ·obtain⟨_,_,_,_,_,_,Y,_⟩:=F.sN;subst u;rw[Y];simp
      ·obtain⟨_,_,_,Y,_⟩:=F.uD;subst u;rw[Y];simp
      ·obtain⟨_,_,_,_,Y,_⟩:=F.J9;subst u;rw[Y];simp
     exact this (inv.W_ m Uk hmf)
    ·rw[ah T]at z;exact inv.refs k M z c n hn' m hmf
  have count:((listed.setIfInBounds i true).toList.filter (· ==false)).length≤fuel:=by
   have et:(listed.setIfInBounds i true).toList=listed.toList.set i true:=sy;have gen:∀(l:List Bool) (i:Nat),l[i]? =some false→((l.set i true).filter (· ==false)).length+1=(l.filter (· ==false)).length:=fun l=>by
    induction l with
    |nil=>intro i h;simp at h
    |cons b l ihl=>
     intro i h;cases i with
     |zero=>simp at h;subst h;simp
     |succ i=>
      have:=ihl i (by simpa using h);cases b<;>simp[List.set_cons_succ,List.filter_cons]at this ⊢ <;>omega
   have:=gen listed.toList i O5;rw[et];omega
  unfold wpOp;rw[ho];simp only[];rcases Uo (ops:=ops) (a:=a) (w:=w) (H:=H) (ov:=ov) hcg (fun t b hgt=>by
   have:t∈(⟨o.dst,g,p⟩:AO).looks:=by unfold AO.looks;rw[hgt];exact nC.2 (.inl (l_.2 rfl))
   rw[←slot t this];exact inv.env t) hgv with ⟨hw,hrun⟩|⟨hw,hsk⟩
  ·rw[au hw];refine .inl ?_;have hev:ev (fC P J) (mG P) ρ (oM s.ob rs listed.toList) (s.nx+i) (fun v up=>v=r.v∧up=r.up) p:=by
    rw[hnxi]at hrun;refine WO vals (fun htou x A j hj=>?_) hrun;rw[e2];obtain⟨n,rfl⟩:∃n,x= .t n:=by
     cases x with
     |t n=>exact⟨n,rfl⟩
     |k v=>
      have:=W9 (hnr ⟨o.dst,g,p⟩ (dP U)) A;have u:v.ref=some j:=hj;rw[this]at u;cases u
    have u:((lT s (rs.take i)).get n).ref=some j:=hj;have hns:n∈jU p.xs:=yK A;symm;refine Sr rs listed.toList i _ _ j hll rfl (fun k q z hq hm x' hx'=>?_) (fun k q z hq hm x' hx'=>?_)
    ·rw[pX]at hm;obtain⟨M,Z,g',c,_,O,G⟩:=Su k q z hq hm;obtain⟨_,_,I⟩:=qJ O;simp only at I;obtain⟨t2,k2⟩:=Dw (hnr _ (dP c)) G j x' hx';rw[hnx k om]at k2;rcases k2 with k2|⟨m2,n2,l2,r2⟩
     ·have F:=inv.env n;rw[slot n (Nl (o:=⟨o.dst,g,p⟩) A)]at F;have:ov j≠none:=by
       cases hgn:(lT s (rs.take i)).get n<;>rw[hgn]at u F<;>simp[V.ref]at u
       ·obtain⟨_,_,_,Y,_⟩:=F.jK;subst u;rw[Y];simp
       ·obtain⟨_,_,_,_,_,_,Y,_⟩:=F.sN;subst u;rw[Y];simp
       ·obtain⟨_,_,_,Y,_⟩:=F.uD;subst u;rw[Y];simp
       ·obtain⟨_,_,_,_,Y,_⟩:=F.J9;subst u;rw[Y];simp
      apply this;rw[k2];exact inv.W_ k om hm
     ·exact clash c U (I (.inl ⟨m2,htou⟩) n2 n l2 hns) l2 hns r2 u
    ·rw[pX]at hm;have T:i<k:=by
      rcases dW i k with h|h
      ·exact h
      ·have:k=i:=om;subst this;rw[hif]at hm;cases hm
     obtain⟨M,Z,g',c,_,O,G⟩:=F7 k q T hq hm;obtain⟨_,_,I⟩:=qJ O;simp only at I;have Xe:k<ops.size:=by rw[←inv.len];exact(pW.1 hm).1
     obtain⟨t2,k2⟩:=Dw (hnr _ (dP c)) G j x' hx';rw[hnx k om]at k2;rcases k2 with k2|⟨m2,n2,l2,r2⟩
     ·have:=refLt (show i≤ops.size by omega) u;omega
     ·exact clash U c (I (.inr ⟨m2,htou⟩) n n2 hns l2) hns l2 u r2
   refine Jo (J:=J) (w0:=w0) inv.mem hρ (id:=s.nx+i) ?_ (inv.W_ i hilt hif) Xh (hJs w inv.mem.bel) hcp hev;rintro v up cv w' H' jZ ⟨rfl,rfl⟩ kJ hn hmem hrep;exact ih _ _ w' H' jZ count (Sz cv w' H' jZ kJ hn hmem hrep)
  ·rw[ah (by rw[hw];decide)];refine ih _ _ w H ov count (Sz undef w H ov (Ext.refl _ _ _) (fun _ _ h=>h) ?_ ?_)
   ·rw[hsk.2];exact inv.mem
   ·rw[hsk.1];exact .un
theorem SA(tN:P.follows .mixedOrders=true)(O:∀w',bT w0 H0.e w'→J w'){A:Nat}{w:World}(c:Conc w0 H0 w H ov N a s)(hcR:cRg P N ops ops.toList=some al)(f:Eu cf ops.toList al=true)(G:∀o,o∈al→nkp H0 o.dst)
 {K:St→Prop} (Y:OH (fC P J) (mG P) al s (fun u=>chk (p_ u cf) (K u))) (hK:∀u w' H' jZ z,K u→Conc w0 H0 w' H' jZ N z u→Q .normal z w'):(Code.region A ops true).wp P Q a w:=by
 obtain⟨rs,U,hend⟩:=Jp al s (by unfold Eu at f;simp only[dA,dh]at f;exact dh.2 fun o Z=>(f.1.1 o Z).2) Y
 obtain⟨F,_⟩:=Kt U
 obtain⟨hlen,_⟩:=Kr hcR
 have hn:rs.length=ops.size:=by rw[F,←hlen];simp
 refine wp_region_any tN ?_
 have Xb:∀t j,(s.get t).ref=some j→j<s.nx:=fun t j m=>by
  have y:=c.env t;have:ov j≠none:=by
   cases L:s.get t<;>rw[L]at m y<;>simp[V.ref]at m
   ·obtain⟨_,_,_,l,_⟩:=y.jK;subst m;rw[l];simp
   ·obtain⟨_,_,_,_,_,_,l,_⟩:=y.sN;subst m;rw[l];simp
   ·obtain⟨_,_,_,l,_⟩:=y.uD;subst m;rw[l];simp
   ·obtain⟨_,_,_,_,l,_⟩:=y.J9;subst m;rw[l];simp
  rcases dW j s.nx with h|h
  ·exact h
  ·exact absurd (c.new j h) this
 have T:∀(rs:List Rc) (n:Nat) (e:Nat→V),eM e rs (List.replicate n false)=e:=fun rs=>by
  induction rs with
  |nil=>intro n e;cases n<;>rfl
  |cons r rs E=>intro n e;cases n with
   |zero=>rfl
   |succ n=>simp only[nR,eM,aJ,if_false];exact E n e
 have C:∀(rs:List Rc) (n:Nat) (e:Nat→Option Ob),oM e rs (List.replicate n false)=e:=fun rs=>by
  induction rs with
  |nil=>intro n e;cases n<;>rfl
  |cons r rs E=>intro n e;cases n with
   |zero=>rfl
   |succ n=>simp only[nR,oM,aJ,if_false];exact E n e
 have I:Mem w0 H0 {w with drawn:=w.drawn+1} H ov s.ob:=by
  have:=c.mem.step (w':={w with drawn:=w.drawn+1}) (row:=none) c.mem.bel.drew (aY _) (fun _ _ _=>rfl) (fun _ _=>sy) (fun _ _ h=>h) (ob':=s.ob) (jZ:=ov) (fun i o h=> .inl ⟨h,fun _ _ _ _=>sy⟩);exact this.2
 have kJ:Ext w H ov {w with drawn:=w.drawn+1} H ov:=⟨fun _ h=>h,fun _ _=>rfl,fun _ _ h=>h⟩
 have erep:(Array.replicate ops.size false).toList=List.replicate ops.size false:=sy
 refine Ur O hcR f hend.1 G U Xb (fun w' H' jZ z M=>hK _ w' H' jZ z hend.2 M) ops.size _ a _ H ov ?_ ⟨sy,fun k o g=>?_,?_,fun t=>?_,c.MJ,c.I7,c.kp,fun i _ _=>c.new _ om,fun id hid=>c.new _ om,fun k o g=>?_⟩
 ·rw[erep];simp
 ·rw[Array.getElem?_replicate]at g;split at g<;>cases g
 ·rw[erep,C];exact I
 ·rw[erep,T];exact(c.env t).mono kJ
 ·rw[Array.getElem?_replicate]at g;split at g<;>cases g
end
