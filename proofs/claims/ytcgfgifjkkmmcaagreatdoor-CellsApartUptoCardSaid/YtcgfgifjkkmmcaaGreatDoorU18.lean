import Derived.Great.BuildSlice
import Derived.Test.YtcgfgifjkkmmcaaGreatDoorU17
set_option linter.all false
set_option maxHeartbeats 10000000
set_option maxRecDepth 2000000
namespace Go.Proofs.YtcgfgifjkkmmcaaGreatDoor
open Go Go.RowKit Go.Proofs Ab
section
structure Gh where
 β:Nat→Option Nat
 κ:Nat→Option (Option Nat)
structure St(γ:Gh)(w:World)(γ':Gh)(w':World):Prop where
 sz:w.heap.size≤w'.heap.size
 np:∀q,q<w.heap.size→(∀i,γ.β i≠some q)→w'.heap[q]? =w.heap[q]?
 eb:∀i b,γ.β i=some b→γ'.β i=some b
 ek:∀t x,γ.κ t=some x→γ'.κ t=some x
 nb:∀i b,γ'.β i=some b→γ.β i=some b∨w.heap.size≤b
structure Fx where
 φ:Gh→World→Value→Prop
 one:Bool
 up:∀{γ w γ' w' x},St γ w γ' w'→φ γ w x→φ γ' w' x
 h1:one=true→∀{γ w x},φ γ w x→x.oneCell'=true
inductive Δ where
 |k (v:Value)
 |ow (A:List Nat) (t:Nat)
 |rd (A:List Nat)
 |rz (Z:Nat→Prop) (A:List Nat)
 |p (i o:Nat)
 |sl (i n c:Nat)
 |f (Φ:Fx)
 |g (ds:List Δ)
 |t (ds:List Δ)
def Jw(w:World):Prop:=Tb w∧0<w.heap.size∧∀k:Nat,k<10→w.cell? ⟨0,k,none⟩=some (.int .u8 ((k:Int)+48))
theorem Jw.up{w0 w:World}(h:Jw w0)(hb:Below w0.heap.size w0 w):Jw w:=⟨h.1.up hb,Nat.lt_of_lt_of_le h.2.1 hb.size,fun k hk=>(aN (hb.block _ h.2.1)).trans (h.2.2 k hk)⟩
section
variable (w0:World) (γ:Gh) (w:World)
def s0:Δ→Value→Prop
 | .k v,x=>x=v
 | .ow A t,x=>Own w0 A x w∧γ.κ t=some x.ownBlock
 | .rd A,x=>∃H:Nat→Prop,(∀q,H q→q<w.heap.size∧∀i,γ.β i≠some q)∧Rep0 w H x (.l 1 (W A))
 | .rz Z A,x=>∃H:Nat→Prop,(∀q,H q→(q<w.heap.size∧∀i,γ.β i≠some q)∧¬Z q)∧Rep0 w H x (.l 1 (W A))
 | .p i o,x=>∃b,γ.β i=some b∧x= .pointer (some ⟨b,o,none⟩)
 | .sl i n c,x=>∃b,γ.β i=some b∧x= .slice (some ⟨b,0,none⟩) n c
 | .f Φ,x=>Φ.φ γ w x
 |_,_=>False
def l0:List Δ→List Value→Prop
 |[],[]=>True
 |d::ds,x::xs=>s0 w0 γ w d x∧l0 ds xs
 |_,_=>False
def s1:Δ→Value→Prop
 | .g ds,x=>∃xs:List Value,x= .agg xs.toArray∧l0 w0 γ w ds xs
 |d,x=>s0 w0 γ w d x
def l1:List Δ→List Value→Prop
 |[],[]=>True
 |d::ds,x::xs=>s1 w0 γ w d x∧l1 ds xs
 |_,_=>False
def s2:Δ→Value→Prop
 | .t ds,x=>∃xs:List Value,x= .tuple xs.toArray∧l1 w0 γ w ds xs
 |d,x=>s1 w0 γ w d x
def bx(i:Nat)(b:TypeId×List Δ):Prop:=∃q xs,γ.β i=some q∧w.heap[q]? =some (.cells xs.toArray b.1 (0,0))∧l0 w0 γ w b.2 xs
structure Wi(F:Nat→Prop):Prop where
 j:Jw w0
 bel:Below w0.heap.size w0 w
 bn:∀i b,γ.β i=some b→w0.heap.size≤b∧b<w.heap.size
 bi:∀i j b,γ.β i=some b→γ.β j=some b→i=j
 kn:∀t q,γ.κ t=some (some q)→w0.heap.size≤q∧q<w.heap.size∧∀i,γ.β i≠some q
 ki:∀t u q,γ.κ t=some (some q)→γ.κ u=some (some q)→t=u
 fr:∀i,F i→γ.β i=none∧∀r,r<4→γ.κ (4*i+r)=none
end
variable {w0 w w':World} {γ γ':Gh} {F:Nat→Prop}
theorem St.rf(γ:Gh)(w:World):St γ w γ w:=⟨Nat.le_refl _,fun _ _ _=>rfl,fun _ _ h=>h,fun _ _ h=>h,fun _ _ h=> .inl h⟩
theorem St.of(hb:Below w.heap.size w w'):St γ w γ w':=⟨hb.size,fun q h _=>hb.block q h,fun _ _ h=>h,fun _ _ h=>h,fun _ _ h=> .inl h⟩
theorem s0.up(hW:Wi w0 γ w F)(hs:St γ w γ' w'):∀{d:Δ} {x:Value},s0 w0 γ w d x→s0 w0 γ' w' d x
 | .k v,x,h=>h
 | .ow A t,x,⟨⟨m,hm,ho⟩,hk⟩=>⟨⟨m,hm,aP ho fun q hq=>by
    have:=hW.kn t q (by rw[hk,hq]);exact hs.np q this.2.1 this.2.2⟩,hs.ek _ _ hk⟩
 | .rd A,x,⟨H,h1,h2⟩=>⟨H,fun q hq=>⟨Nat.lt_of_lt_of_le (h1 q hq).1 hs.sz,fun i hi=>(hs.nb i q hi).elim ((h1 q hq).2 i) fun h=>by have:=(h1 q hq).1;omega⟩,h2.mono (fun _ h=>h) fun q hq=>hs.np q (h1 q hq).1 (h1 q hq).2⟩
 | .rz Z A,x,⟨H,h1,h2⟩=>⟨H,fun q hq=>⟨⟨Nat.lt_of_lt_of_le (h1 q hq).1.1 hs.sz,fun i hi=>(hs.nb i q hi).elim ((h1 q hq).1.2 i) fun h=>by have:=(h1 q hq).1.1;omega⟩,(h1 q hq).2⟩,h2.mono (fun _ h=>h) fun q hq=>hs.np q (h1 q hq).1.1 (h1 q hq).1.2⟩
 | .p i o,x,⟨b,h1,h2⟩=>⟨b,hs.eb _ _ h1,h2⟩
 | .sl i n c,x,⟨b,h1,h2⟩=>⟨b,hs.eb _ _ h1,h2⟩
 | .f Φ,x,h=>Φ.up hs h
 | .g _,_,h=>h.elim
 | .t _,_,h=>h.elim
theorem l0.up(hW:Wi w0 γ w F)(hs:St γ w γ' w'):∀{ds:List Δ} {xs:List Value},l0 w0 γ w ds xs→l0 w0 γ' w' ds xs
 |[],[],h=>h
 |_::_,_::_,h=>⟨s0.up hW hs h.1,l0.up hW hs h.2⟩
 |[],_::_,h=>h.elim
 |_::_,[],h=>h.elim
theorem s1.up(hW:Wi w0 γ w F)(hs:St γ w γ' w'):∀{d:Δ} {x:Value},s1 w0 γ w d x→s1 w0 γ' w' d x
 | .g _,_,⟨xs,e,h⟩=>⟨xs,e,l0.up hW hs h⟩
 | .k _,_,h=>s0.up (d:= .k _) hW hs h
 | .ow _ _,_,h=>s0.up (d:= .ow _ _) hW hs h
 | .rd _,_,h=>s0.up (d:= .rd _) hW hs h
 | .rz _ _,_,h=>s0.up (d:= .rz _ _) hW hs h
 | .p _ _,_,h=>s0.up (d:= .p _ _) hW hs h
 | .sl _ _ _,_,h=>s0.up (d:= .sl _ _ _) hW hs h
 | .f _,_,h=>s0.up (d:= .f _) hW hs h
 | .t _,_,h=>h.elim
theorem l1.up(hW:Wi w0 γ w F)(hs:St γ w γ' w'):∀{ds:List Δ} {xs:List Value},l1 w0 γ w ds xs→l1 w0 γ' w' ds xs
 |[],[],h=>h
 |_::_,_::_,h=>⟨s1.up hW hs h.1,l1.up hW hs h.2⟩
 |[],_::_,h=>h.elim
 |_::_,[],h=>h.elim
theorem s2.up(hW:Wi w0 γ w F)(hs:St γ w γ' w'):∀{d:Δ} {x:Value},s2 w0 γ w d x→s2 w0 γ' w' d x
 | .t _,_,⟨xs,e,h⟩=>⟨xs,e,l1.up hW hs h⟩
 | .g _,_,h=>s1.up (d:= .g _) hW hs h
 | .k _,_,h=>s0.up (d:= .k _) hW hs h
 | .ow _ _,_,h=>s0.up (d:= .ow _ _) hW hs h
 | .rd _,_,h=>s0.up (d:= .rd _) hW hs h
 | .rz _ _,_,h=>s0.up (d:= .rz _ _) hW hs h
 | .p _ _,_,h=>s0.up (d:= .p _ _) hW hs h
 | .sl _ _ _,_,h=>s0.up (d:= .sl _ _ _) hW hs h
 | .f _,_,h=>s0.up (d:= .f _) hW hs h
theorem bx.up(hW:Wi w0 γ w F)(hs:St γ w γ' w'){i:Nat}{b:TypeId×List Δ}(h:bx w0 γ w i b)(hb:∀q,γ.β i=some q→w'.heap[q]? =w.heap[q]?):bx w0 γ' w' i b:=by
 obtain⟨q,xs,h1,h2,h3⟩:=h;exact⟨q,xs,hs.eb _ _ h1,(hb q h1).trans h2,l0.up hW hs h3⟩
theorem Wi.sub{G:Nat→Prop}(h:Wi w0 γ w F)(hG:∀i,G i→F i):Wi w0 γ w G:=⟨h.j,h.bel,h.bn,h.bi,h.kn,h.ki,fun i hi=>h.fr i (hG i hi)⟩
theorem Wi.Ep(h:Wi w0 γ w F)(hb:Below w0.heap.size w w'):Wi w0 γ w' F:=
 ⟨h.j,⟨hb.os.trans h.bel.os,hb.tape.trans h.bel.tape,hb.output.trans h.bel.output,Nat.le_trans h.bel.size hb.size,fun q hq=>(hb.block q hq).trans (h.bel.block q hq)⟩,fun i b hi=>⟨(h.bn i b hi).1,Nat.lt_of_lt_of_le (h.bn i b hi).2 hb.size⟩,h.bi,fun t q ht=>⟨(h.kn t q ht).1,Nat.lt_of_lt_of_le (h.kn t q ht).2.1 hb.size,(h.kn t q ht).2.2⟩,h.ki,h.fr⟩
theorem below_le(h:Wi w0 γ w F)(hb:Below w.heap.size w w'):Below w0.heap.size w w':=⟨hb.os,hb.tape,hb.output,hb.size,fun q hq=>hb.block q (Nat.lt_of_lt_of_le hq h.bel.size)⟩
def lk{α:Type}:List (Nat×α)→Nat→Option α
 |[],_=>none
 |(i,x)::r,t=>bif Nat.beq i t then some x else lk r t
theorem aG{α:Type}{i t:Nat}{x y:α}{r:List (Nat×α)}(h:lk ((i,x)::r) t=some y):(i=t∧x=y)∨(i≠t∧lk r t=some y):=by
 unfold lk at h;by_cases e:i=t
 ·subst e;rw[Nat.beq_refl]at h;exact .inl ⟨rfl,Option.some.inj h⟩
 ·rw[show Nat.beq i t=false from by rw[Bool.eq_false_iff];intro h2;exact e (Nat.eq_of_beq_eq_true h2)]at h;exact .inr ⟨e,h⟩
def Gh.box(γ:Gh)(i b:Nat):Gh:=⟨fun j=>bif Nat.beq j i then some b else γ.β j,γ.κ⟩
theorem Ba{i j:Nat}(h:i≠j):Nat.beq i j=false:=by rw[Bool.eq_false_iff];intro h2;exact h (Nat.eq_of_beq_eq_true h2)
theorem kG(γ:Gh)(i b:Nat):(γ.box i b).β i=some b:=by show(bif Nat.beq i i then some b else γ.β i)=some b;rw[Nat.beq_refl];rfl
theorem sN(γ:Gh){i j:Nat}(b:Nat)(h:j≠i):(γ.box i b).β j=γ.β j:=by show(bif Nat.beq j i then _ else _)=_;rw[Ba h];rfl
theorem dY{γ:Gh}{i j b c:Nat}(h:(γ.box i b).β j=some c):(j=i∧c=b)∨(j≠i∧γ.β j=some c):=by
 by_cases e:j=i
 ·subst e;rw[kG]at h;exact .inl ⟨rfl,(Option.some.inj h).symm⟩
 ·rw[sN γ b e]at h;exact .inr ⟨e,h⟩
theorem Es{i:Nat}(hW:Wi w0 γ w F)(hF:F i)(o:Obj):St γ w (γ.box i w.heap.size) (w.alloc o)∧Below w.heap.size w (w.alloc o)∧Wi w0 (γ.box i w.heap.size) (w.alloc o) (fun k=>F k∧k≠i):=by
 have hb:=jG w o;have hn:=(hW.fr i hF).1;have hW':=hW.Ep (below_le hW hb);have hsz:(w.alloc o).heap.size=w.heap.size+1:=World.size_alloc _ _;refine⟨⟨hb.size,fun q h _=>hb.block q h,fun j b h=>?_,fun _ _ h=>h,fun j b h=>?_⟩,hb,hW'.j,hW'.bel,fun j b h=>?_,fun j k b h1 h2=>?_,fun t q h=>⟨(hW'.kn t q h).1,(hW'.kn t q h).2.1,fun j hj=>?_⟩,hW'.ki,fun j hj=>⟨?_,(hW.fr j hj.1).2⟩⟩
 ·rw[sN γ _ (fun e=>by subst e;rw[hn]at h;cases h)];exact h
 ·rcases dY h with ⟨_,e⟩|⟨_,h⟩
  ·exact .inr om
  ·exact .inl h
 ·rcases dY h with ⟨_,e⟩|⟨_,h⟩
  ·have:=hW.bel.size;omega
  ·exact hW'.bn j b h
 ·rcases dY h1 with ⟨e1,e2⟩|⟨_,h1⟩<;>rcases dY h2 with ⟨e3,e4⟩|⟨_,h2⟩
  ·omega
  ·have:=(hW.bn k b h2).2;omega
  ·have:=(hW.bn j b h1).2;omega
  ·exact hW.bi j k b h1 h2
 ·rcases dY hj with ⟨_,e⟩|⟨_,hj⟩
  ·have:=(hW.kn t q h).2.1;omega
  ·exact(hW.kn t q h).2.2 j hj
 ·rw[sN γ _ hj.2];exact(hW.fr j hj.1).1
end
section
abbrev En:=List (Nat×Δ)
abbrev Bs:=List (Nat×TypeId×List Δ)
structure PS(w0:World)(N c:Nat)(E:En)(Bx:Bs)(γ:Gh)(a:Act)(w:World):Prop where
 W:Wi w0 γ w (fun i=>c≤i)
 sz:a.tmps.size=N
 df:a.defers=[]
 env:∀t d,lk E t=some d→s2 w0 γ w d (a.tmps.getD t undef)
 box:∀i b,lk Bx i=some b→bx w0 γ w i b
structure Ok(P:Program)(w0:World)(N:Nat)(o:Oper)(i:Nat)(R:Nat→Option Δ)(Bx:Bs)(d:Δ)(nb:Option (TypeId×List Δ)):Prop where
 ok:∀(Q:Exit→Act→World→Prop) (γ:Gh) (a:Act) (w:World) (F:Nat→Prop) (K:Act→World→Prop),a.tmps.size=N→Wi w0 γ w F→F i→(∀t d,R t=some d→s2 w0 γ w d (a.tmps.getD t undef))→(∀j b,lk Bx j=some b→bx w0 γ w j b)→
  (∀γ' v w',St γ w γ' w'→Below w.heap.size w w'→Wi w0 γ' w' (fun k=>F k∧k≠i)→s2 w0 γ' w' d v→(∀b,nb=some b→bx w0 γ' w' i b)→K (a.put o.dst v) w')→o.wp P a w K Q
def bI(R:Nat→Option Δ)(x:Operand)(d:Δ):Prop:=match x with| .tmp s=>R s=some d| .const v=>d= .k v|_=>False
variable {P:Program} {w0:World} {N i:Nat} {R:Nat→Option Δ} {Bx:Bs}
theorem bI.ev{γ:Gh}{w:World}{a:Act}{x:Operand}{d:Δ}(h:bI R x d)(hR:∀t d,R t=some d→s2 w0 γ w d (a.tmps.getD t undef)):s2 w0 γ w d (a.eval x):=by
 unfold bI at h;split at h
 ·rw[ak];exact hR _ _ h
 ·subst h;exact rfl
 ·exact h.elim
theorem mD{o:Oper}{d:Δ}(h:∀(γ:Gh) (w:World) (a:Act),(∀t d,R t=some d→s2 w0 γ w d (a.tmps.getD t undef))→(∀j b,lk Bx j=some b→bx w0 γ w j b)→∃v,(execOp a.eval o).run P w= .ok (.value v) w∧s2 w0 γ w d v):Ok P w0 N o i R Bx d none:=⟨fun Q γ a w F K hz hW hF hR hB hK=>by
 obtain⟨v,h1,h2⟩:=h γ w a hR hB;unfold Oper.wp;rw[h1];exact hK γ v w (.rf _ _) (dE w) (hW.sub fun _ h=>h.1) h2 fun b hb=>by cases hb⟩
theorem kU{dst:Option Tmp}{x:Operand}{t:TypeId}{p:String}{e:Array Edge}{gd:Option (Nat×Bool)}{d:Δ}(h:bI R x d):Ok P w0 N ⟨dst,.move x,t,p,e,gd⟩ i R Bx d none:=
 mD fun γ w a hR _=>⟨_,by simp[execOp],h.ev hR⟩
theorem GI{dst:Option Tmp}{x:Operand}{t:TypeId}{p:String}{e:Array Edge}{gd:Option (Nat×Bool)}{d:Δ}(h:bI R x d):Ok P w0 N ⟨dst,.assign x,t,p,e,gd⟩ i R Bx d none:=
 mD fun γ w a hR _=>⟨_,by simp[execOp],h.ev hR⟩
def XI(P:Program)(t:TypeId)(f:Nat):Option Nat:=match P.underlying t with
 |some (.struct fs)=>match fs[f]? with
  |some fd=>match P.info? fd.type with
   |some ti=>bif Nat.beq ti.size 0 then none else some fd.offset
   |none=>none
  |none=>none
 |_=>none
theorem uC{dst:Option Tmp}{x:Operand}{ty t:TypeId}{f j k:Nat}{p:String}{e:Array Edge}{gd:Option (Nat×Bool)}{off:Nat}(h:bI R x (.p j k))(hf:XI P ty f=some off):Ok P w0 N ⟨dst,.fieldAddr ty x f,t,p,e,gd⟩ i R Bx (.p j (k+off)) none:=
 mD fun γ w a hR _=>by
  obtain⟨b,h1,h2⟩:=h.ev hR;unfold XI at hf;split at hf
  ·rename_i fs hs;split at hf
   ·rename_i fd hfd;split at hf
    ·rename_i ti hti;cases hz:Nat.beq ti.size 0 with
     |true=>rw[hz]at hf;cases hf
     |false=>
      rw[hz]at hf;have hz':¬ti.size=0:=fun e=>by rw[e]at hz;cases hz
      obtain rfl:=Option.some.inj hf;exact⟨.pointer (some ⟨b,k+fd.offset,none⟩),by simp[execOp,h2,Instr.fieldAt,run_underlying hs,hfd,Instr.sureAddr,fieldPlace,sizeOf,typeInfo,hti,hz',Addr.add_lit],b,h1,rfl⟩
    ·cases hf
   ·cases hf
  ·cases hf
theorem l0.get{γ:Gh}{w:World}:∀{ds:List Δ} {xs:List Value} {k:Nat} {d:Δ},l0 w0 γ w ds xs→ds[k]? =some d→∃x,xs[k]? =some x∧s0 w0 γ w d x
 |d::ds,x::xs,0,e,h,he=>by simp at he;subst he;exact⟨x,rfl,h.1⟩
 |d::ds,x::xs,k+1,e,h,he=>by simpa using l0.get h.2 (by simpa using he)
 |[],[],_,_,_,he=>by simp at he
 |[],_::_,_,_,h,_=>h.elim
 |_::_,[],_,_,h,_=>h.elim
theorem l0.len{γ:Gh}{w:World}:∀{ds:List Δ} {xs:List Value},l0 w0 γ w ds xs→xs.length=ds.length
 |[],[],_=>rfl
 |_::_,_::_,h=>by simp[l0.len h.2]
 |[],_::_,h=>h.elim
 |_::_,[],h=>h.elim
theorem l0.cut{γ:Gh}{w:World}:∀{ds:List Δ} {xs:List Value} (k n:Nat),l0 w0 γ w ds xs→l0 w0 γ w ((ds.drop k).take n) ((xs.drop k).take n)
 |[],[],k,n,_=>by simp[l0]
 |_::_,_::_,k+1,n,h=>by simpa using l0.cut k n h.2
 |_::_,_::_,0,0,_=>trivial
 |d::ds,x::xs,0,n+1,h=>⟨h.1,by simpa using l0.cut 0 n h.2⟩
 |[],_::_,_,_,h=>h.elim
 |_::_,[],_,_,h=>h.elim
theorem jM{w:World}{q:Nat}{xs:List Value}{t:TypeId}(h:w.heap[q]? =some (.cells xs.toArray t (0,0))){k:Nat}{x:Value}(hk:xs[k]? =some x):w.cell? ⟨q,k,none⟩=some x:=cell_of_row w q k xs.toArray t (0,0) h|>.trans (by simpa using hk)
theorem Ti{dst:Option Tmp}{x:Operand}{ty t:TypeId}{j k n:Nat}{p:String}{e:Array Edge}{gd:Option (Nat×Bool)}{bt:TypeId}{ds:List Δ}(h:bI R x (.p j k))(hb:lk Bx j=some (bt,ds))(hi:(P.info? ty).map (·.size)=some n)(hag:j_ P ty=true)(hn:k+n≤ds.length):Ok P w0 N ⟨dst,.load ty x,t,p,e,gd⟩ i R Bx (.g ((ds.drop k).take n)) none:=
 mD fun γ w a hR hB=>by
  obtain⟨b,h1,h2⟩:=h.ev hR;obtain⟨q,xs,h3,h4,h5⟩:=hB j _ hb;obtain rfl:b=q:=Option.some.inj (h1.symm.trans h3);have hl:xs.length=ds.length:=h5.len;obtain⟨ti,hti,hs⟩:=Option.map_eq_some_iff.1 hi;obtain⟨dd,hd⟩:∃dd,P.underlying ty=some dd:=by
   unfold j_ at hag;cases hu:P.underlying ty with
   |some dd=>exact⟨dd,rfl⟩
   |none=>rw[hu]at hag;cases hag
  have:=(rX (P:=P) (w:=w) ty b k n ((xs.drop k).take n) (by simp;omega) (fun m u hu=>jM h4 (by
   rw[List.getElem?_take]at hu;split at hu
   ·rwa[List.getElem?_drop]at hu
   ·cases hu)) hti hs hd).1 hag
  exact⟨_,by simp[execOp,h2,this],_,rfl,h5.cut k n⟩
theorem yE{dst:Option Tmp}{x:Operand}{ty t:TypeId}{j k:Nat}{p:String}{e:Array Edge}{gd:Option (Nat×Bool)}{bt:TypeId}{ds:List Δ}{d:Δ}(h:bI R x (.p j k))(hb:lk Bx j=some (bt,ds))(hag:j_ P ty=false)(hu:(P.underlying ty).isSome=true)(hd:ds[k]? =some d):Ok P w0 N ⟨dst,.load ty x,t,p,e,gd⟩ i R Bx d none:=
 mD fun γ w a hR hB=>by
  obtain⟨b,h1,h2⟩:=h.ev hR;obtain⟨q,xs,h3,h4,h5⟩:=hB j _ hb;obtain rfl:b=q:=Option.some.inj (h1.symm.trans h3);obtain⟨u,hk,hs⟩:=h5.get hd;obtain⟨dd,hdd⟩:=Option.isSome_iff_exists.1 hu;have hc:=jM h4 hk;have hag':(isAgg ty).run P w= .ok false w:=by
   rw[←hag];simp only[isAgg,j_,Sem.run_bind,run_underlying hdd,Result.andThen_ok,hdd];cases dd<;>rfl
  refine⟨u,by simp[execOp,h2,Instr.loadAt,Instr.sureAddr,loadVar,hag',hc],?_⟩;cases d<;>first|exact hs|exact hs.elim
def biV(op:BinOp)(k:IntKind)(x y:Int):Value:=match op with
 | .add=> .int k (k.wrap (x+y))
 | .sub=> .int k (k.wrap (x-y))
 | .eql=> .bool (decide (x=y))
 | .neq=> .bool (decide (¬x=y))
 | .lss=> .bool (decide (x<y))
 | .leq=> .bool (decide (x≤y))
 | .gtr=> .bool (decide (y<x))
 | .geq=> .bool (decide (y≤x))
 |_=>undef
def biO(op:BinOp):Bool:=match op with| .add| .sub| .eql| .neq| .lss| .leq| .gtr| .geq=>true|_=>false
theorem uD{dst:Option Tmp}{op:BinOp}{x y:Operand}{tx t ty:TypeId}{p:String}{e:Array Edge}{gd:Option (Nat×Bool)}{k:IntKind}{u v:Int}{r:Value}(hx:bI R x (.k (.int k u)))(hy:bI R y (.k (.int k v)))(ho:biO op=true)(hr:biV op k u v=r):Ok P w0 N ⟨dst,.binOp op tx x y ty,t,p,e,gd⟩ i R Bx (.k r) none:=
 mD fun γ w a hR _=>by
  have e1:a.eval x= .int k u:=hx.ev hR;have e2:a.eval y= .int k v:=hy.ev hR;have:(binOp op tx (.int k u) (.int k v)).run P w= .ok r w:=by
   subst hr;cases op<;>first|cases ho|skip
   all_goals first
    |(simp[binOp,biV,Op.intArith,Op.intCmp];done)
    |(simp[binOp,biV,Op.intArith,Op.intCmp,bne];done)
    |(simp only[biV,binOp_eql,binOp_neq,Sem.run_pure,show(u==v)=decide (u=v)from Bool.eq_iff_iff.2 sy,bne,decide_not])
  exact⟨r,by simp[execOp,e1,e2,eqGuard_at_int,this],rfl⟩
theorem Tj{dst:Option Tmp}{x:Operand}{tx t:TypeId}{p:String}{e:Array Edge}{gd:Option (Nat×Bool)}{k:IntKind}{u:Int}{r:Value}(hx:bI R x (.k (.int k u)))(hr:Value.int k (k.wrap (0-u))=r):Ok P w0 N ⟨dst,.unOp .neg tx x,t,p,e,gd⟩ i R Bx (.k r) none:=
 mD fun γ w a hR _=>by
  have e1:a.eval x= .int k u:=hx.ev hR;exact⟨r,by subst hr;simp[execOp,e1,Op.unary,Op.intArith],rfl⟩
theorem sO{dst:Option Tmp}{x:Operand}{tx t:TypeId}{p:String}{e:Array Edge}{gd:Option (Nat×Bool)}{u:Bool}(hx:bI R x (.k (.bool u))):Ok P w0 N ⟨dst,.unOp .not tx x,t,p,e,gd⟩ i R Bx (.k (.bool (!u))) none:=
 mD fun γ w a hR _=>by
  have e1:a.eval x= .bool u:=hx.ev hR;exact⟨.bool (!u),by simp[execOp,e1,Op.unary],rfl⟩
theorem ok_sa{dst:Option Tmp}{x y:Operand}{tx t ty:TypeId}{p:String}{e:Array Edge}{gd:Option (Nat×Bool)}{u v:ByteArray}(hx:bI R x (.k (.string u)))(hy:bI R y (.k (.string v)))(hs:Nat.ble (u.size+v.size) 100000=true):Ok P w0 N ⟨dst,.binOp .add tx x y ty,t,p,e,gd⟩ i R Bx (.k (.string (u++v))) none:=
 mD fun γ w a hR _=>by
  have e1:a.eval x= .string u:=hx.ev hR;have e2:a.eval y= .string v:=hy.ev hR;have h:=Nat.le_of_ble_eq_true hs;refine⟨.string (u++v),?_,rfl⟩;have hsz:¬((9223372036854775807:Int)<(u.size+v.size:Nat)):=om;simp only[execOp,e1,e2,eqGuard_at_string,binOp,Op.stringOp,Sem.run_bind,Sem.run_pure,Result.andThen_ok,IntKind.max_i64,gt_iff_lt];rw[if_neg hsz];simp
theorem YZ{dst:Option Tmp}{x y:Operand}{tx t ty:TypeId}{p:String}{e:Array Edge}{gd:Option (Nat×Bool)}{u v:ByteArray}{b:Bool}(hx:bI R x (.k (.string u)))(hy:bI R y (.k (.string v)))(hb:(u.toList==v.toList)=b):Ok P w0 N ⟨dst,.binOp .eql tx x y ty,t,p,e,gd⟩ i R Bx (.k (.bool b)) none:=
 mD fun γ w a hR _=>by
  have e1:a.eval x= .string u:=hx.ev hR;have e2:a.eval y= .string v:=hy.ev hR;exact⟨.bool b,by subst hb;simp[execOp,e1,e2,eqGuard_at_string,binOp,Op.stringOp],rfl⟩
theorem ok_be{dst:Option Tmp}{x y:Operand}{tx t ty:TypeId}{p:String}{e:Array Edge}{gd:Option (Nat×Bool)}{u v:Bool}(hx:bI R x (.k (.bool u)))(hy:bI R y (.k (.bool v)))(ht:P.underlying tx=some .bool):Ok P w0 N ⟨dst,.binOp .eql tx x y ty,t,p,e,gd⟩ i R Bx (.k (.bool (u==v))) none:=
 mD fun γ w a hR _=>by
  have e1:a.eval x= .bool u:=hx.ev hR;have e2:a.eval y= .bool v:=hy.ev hR;exact⟨.bool (u==v),by simp only[execOp,e1,e2,eqGuard_at_bool,Sem.run_bind,Sem.run_pure,Result.andThen_ok,run_eql_bool w tx u v ht],rfl⟩
theorem ok_bn{dst:Option Tmp}{x y:Operand}{tx t ty:TypeId}{p:String}{e:Array Edge}{gd:Option (Nat×Bool)}{u v:Bool}(hx:bI R x (.k (.bool u)))(hy:bI R y (.k (.bool v)))(ht:P.underlying tx=some .bool):Ok P w0 N ⟨dst,.binOp .neq tx x y ty,t,p,e,gd⟩ i R Bx (.k (.bool (u != v))) none:=
 mD fun γ w a hR _=>by
  have e1:a.eval x= .bool u:=hx.ev hR;have e2:a.eval y= .bool v:=hy.ev hR;exact⟨.bool (u != v),by simp only[execOp,e1,e2,eqGuard_at_bool,Sem.run_bind,Sem.run_pure,Result.andThen_ok,run_neq_bool w tx u v ht];rfl,rfl⟩
theorem l1.get{γ:Gh}{w:World}:∀{ds:List Δ} {xs:List Value} {k:Nat} {d:Δ},l1 w0 γ w ds xs→ds[k]? =some d→∃x,xs[k]? =some x∧s1 w0 γ w d x
 |d::ds,x::xs,0,e,h,he=>by simp at he;subst he;exact⟨x,rfl,h.1⟩
 |d::ds,x::xs,k+1,e,h,he=>by simpa using l1.get h.2 (by simpa using he)
 |[],[],_,_,_,he=>by simp at he
 |[],_::_,_,_,h,_=>h.elim
 |_::_,[],_,_,h,_=>h.elim
theorem s1.s2{γ:Gh}{w:World}{d:Δ}{x:Value}(h:s1 w0 γ w d x):s2 w0 γ w d x:=by cases d<;>first|exact h|exact h.elim
theorem s0.s1{γ:Gh}{w:World}{d:Δ}{x:Value}(h:s0 w0 γ w d x):s1 w0 γ w d x:=by cases d<;>first|exact h|exact h.elim
theorem Tm{dst:Option Tmp}{x:Operand}{t:TypeId}{m:Nat}{p:String}{e:Array Edge}{gd:Option (Nat×Bool)}{ds:List Δ}{d:Δ}(h:bI R x (.t ds))(hd:ds[m]? =some d):Ok P w0 N ⟨dst,.extract x m,t,p,e,gd⟩ i R Bx d none:=
 mD fun γ w a hR _=>by
  obtain⟨xs,h1,h2⟩:=h.ev hR;obtain⟨u,hu,hs⟩:=h2.get hd;have hl:m<xs.length:=(List.getElem?_eq_some_iff.1 hu).1;have e0:xs[m]=u:=(List.getElem?_eq_some_iff.1 hu).2;exact⟨u,by simp[execOp,h1,Instr.extract,hl,e0],hs.s2⟩
theorem ok_bx{dst:Option Tmp}{x:Operand}{ty t:TypeId}{p:String}{e:Array Edge}{gd:Option (Nat×Bool)}{ds:List Δ}(h:bI R x (.g ds)):Ok P w0 N ⟨dst,.box ty x,t,p,e,gd⟩ i R Bx (.p i 0) (some (ty,ds)):=⟨fun Q γ a w F K hz hW hF hR hB hK=>by
 obtain⟨xs,h1,h2⟩:=h.ev hR;obtain⟨hs,hb,hW'⟩:=Es hW hF (.cells xs.toArray ty);unfold Oper.wp;have:(execOp a.eval (⟨dst,.box ty x,t,p,e,gd⟩:Oper)).run P w= .ok (.value (.pointer (some ⟨w.heap.size,0,none⟩))) (w.alloc (.cells xs.toArray ty)):=by
  simp[execOp,h1,Instr.box,newVar,newRow,Value.cells]
 rw[this];exact hK _ _ _ hs hb hW' ⟨_,kG _ _ _,rfl⟩ fun b hb'=>by
  cases hb';exact⟨_,xs,kG _ _ _,heap_alloc_new w _,l0.up hW hs h2⟩⟩
theorem l0_k{γ:Gh}{w:World}:∀(xs:List Value),l0 w0 γ w (xs.map .k) xs
 |[]=>trivial
 |_::r=>⟨rfl,l0_k r⟩
theorem Tn{dst:Option Tmp}{ty t:TypeId}{p:String}{e:Array Edge}{gd:Option (Nat×Bool)}{z:Value}(hz:((P.info? ty).bind (·.zero))=some z):Ok P w0 N ⟨dst,.alloc ty,t,p,e,gd⟩ i R Bx (.p i 0) (some (ty,z.cells.toList.map .k)):=⟨fun Q γ a w F K _ hW hF hR hB hK=>by
 obtain⟨ti,hi,hz'⟩:=Option.bind_eq_some_iff.1 hz;obtain⟨hs,hb,hW'⟩:=Es hW hF (.cells z.cells ty);unfold Oper.wp;have:(execOp a.eval (⟨dst,.alloc ty,t,p,e,gd⟩:Oper)).run P w= .ok (.value (.pointer (some ⟨w.heap.size,0,none⟩))) (w.alloc (.cells z.cells ty)):=by
  simp[execOp,Instr.alloc,zeroValue,typeInfo,hi,hz',newVar,newRow]
 rw[this];exact hK _ _ _ hs hb hW' ⟨_,kG _ _ _,rfl⟩ fun b hb'=>by
  cases hb';exact⟨_,z.cells.toList,kG _ _ _,by rw[Array.toArray_toList];exact heap_alloc_new w _,l0_k _⟩⟩
end
section
def Δ.w:Δ→Bool
 | .ow _ _| .rd _| .rz _ _=>true
 | .k (.slice _ _ _)=>true
 |_=>false
variable {w0 w:World} {γ:Gh} {N i:Nat} {R:Nat→Option Δ} {Bx:Bs}
theorem s0.Tq{d:Δ}{x:Value}(h:s0 w0 γ w d x)(hw:d.w=true):∃a n c,x= .slice a n c:=by
 unfold Δ.w at hw;split at hw
 ·obtain⟨⟨m,_,ho⟩,_⟩:=h;obtain⟨a,c,e⟩:=aT ho;exact⟨a,m,c,e⟩
 ·obtain⟨H,_,hr⟩:=h;exact mP hr
 ·obtain⟨H,_,hr⟩:=h;exact mP hr
 ·exact⟨_,_,_,h⟩
 ·cases hw
theorem Et{s:Bool}{d:Δ}{x:Value}(h:s2 w0 γ w (.g [.k (.bool s),d]) x)(hw:d.w=true):∃a n c,x= .agg #[.bool s,.slice a n c]∧s0 w0 γ w d (.slice a n c):=by
 obtain⟨xs,e,h⟩:=h;match xs,h with
 |[u,v],h=>
  obtain⟨a,n,c,rfl⟩:=h.2.1.Tq hw;have:=h.1;subst this;exact⟨a,n,c,e,h.2.1⟩
theorem w_s0{d:Δ}{x:Value}(h:s2 w0 γ w d x)(hw:d.w=true):s0 w0 γ w d x:=by
 unfold Δ.w at hw;split at hw<;>first|exact h|cases hw
section
variable {dst:Option Tmp} {x y z:Operand} {t:TypeId} {p:String} {e:Array Edge} {gd:Option (Nat×Bool)} {s b:Bool} {n:Int} {d d1 d2:Δ}
theorem yF{ty:TypeId}{ps:Array (Nat×Operand)}(h:∀(γ:Gh) (w:World) (a:Act),(∀t d,R t=some d→s2 w0 γ w d (a.tmps.getD t undef))→∃cs,Tryz.prog.built ty (ps.map fun(i,x)=>(i,a.eval x)).toList=some cs∧s2 w0 γ w d (.agg cs)):Ok Tryz.prog w0 N ⟨dst,.build ty ps,t,p,e,gd⟩ i R Bx d none:=
 mD fun γ w a hR _=>by
  obtain⟨cs,h1,h2⟩:=h γ w a hR;exact⟨.agg cs,by simp only[execOp,Sem.run_bind,run_build w ty _ cs h1,Result.andThen_ok,Sem.run_pure],h2⟩
theorem ok_bq(hx:bI R x (.g [.k (.bool s),d1]))(h1:d1.w=true)(hy:bI R y d2)(h2:d2.w=true):Ok Tryz.prog w0 N ⟨dst,.build 29 #[(0,x),(1,y)],t,p,e,gd⟩ i R Bx (.g [.k (.bool s),d1,d2]) none:=
 yF fun γ w a hR=>by
  obtain⟨a1,n1,c1,e1,q1⟩:=Et (hx.ev hR) h1;have q2:=w_s0 (hy.ev hR) h2;obtain⟨a2,n2,c2,e2⟩:=q2.Tq h2;refine⟨#[.bool s,.slice a1 n1 c1,.slice a2 n2 c2],?_,[.bool s,.slice a1 n1 c1,.slice a2 n2 c2],rfl,rfl,q1,e2▸q2,trivial⟩;simp only[List.map_toArray,List.map_cons,List.map_nil,e1,e2];kernel_rfl
theorem ok_bc(hx:bI R x (.g [.k (.bool s),d1]))(h1:d1.w=true)(hy:bI R y (.k (.int .i64 n)))(hz:bI R z (.k (.bool b))):Ok Tryz.prog w0 N ⟨dst,.build 27 #[(0,x),(1,y),(2,z)],t,p,e,gd⟩ i R Bx (.g [.k (.bool s),d1,.k (.int .i64 n),.k (.bool b)]) none:=
 yF fun γ w a hR=>by
  obtain⟨a1,n1,c1,e1,q1⟩:=Et (hx.ev hR) h1;have e2:a.eval y= .int .i64 n:=hy.ev hR;have e3:a.eval z= .bool b:=hz.ev hR;refine⟨#[.bool s,.slice a1 n1 c1,.int .i64 n,.bool b],?_,[.bool s,.slice a1 n1 c1,.int .i64 n,.bool b],rfl,rfl,q1,rfl,rfl,trivial⟩;simp only[List.map_toArray,List.map_cons,List.map_nil,e1,e2,e3];kernel_rfl
theorem ok_bc2(hx:bI R x (.g [.k (.bool s),d1]))(h1:d1.w=true)(hy:bI R y (.k (.int .i64 n))):Ok Tryz.prog w0 N ⟨dst,.build 27 #[(0,x),(1,y)],t,p,e,gd⟩ i R Bx (.g [.k (.bool s),d1,.k (.int .i64 n),.k (.bool false)]) none:=
 yF fun γ w a hR=>by
  obtain⟨a1,n1,c1,e1,q1⟩:=Et (hx.ev hR) h1;have e2:a.eval y= .int .i64 n:=hy.ev hR;refine⟨#[.bool s,.slice a1 n1 c1,.int .i64 n,.bool false],?_,[.bool s,.slice a1 n1 c1,.int .i64 n,.bool false],rfl,rfl,q1,rfl,rfl,trivial⟩;simp only[List.map_toArray,List.map_cons,List.map_nil,e1,e2];kernel_rfl
theorem ok_bc1(hy:bI R y (.k (.int .i64 n))):Ok Tryz.prog w0 N ⟨dst,.build 27 #[(1,y)],t,p,e,gd⟩ i R Bx (.g [.k (.bool false),.k (.slice none 0 0),.k (.int .i64 n),.k (.bool false)]) none:=
 yF fun γ w a hR=>by
  have e2:a.eval y= .int .i64 n:=hy.ev hR;refine⟨#[.bool false,.slice none 0 0,.int .i64 n,.bool false],?_,[.bool false,.slice none 0 0,.int .i64 n,.bool false],rfl,rfl,rfl,rfl,rfl,trivial⟩;simp only[List.map_toArray,List.map_cons,List.map_nil,e2];kernel_rfl
theorem ok_bi2(hx:bI R x (.k (.bool s)))(hy:bI R y d2)(h2:d2.w=true):Ok Tryz.prog w0 N ⟨dst,.build 25 #[(0,x),(1,y)],t,p,e,gd⟩ i R Bx (.g [.k (.bool s),d2]) none:=
 yF fun γ w a hR=>by
  have e1:a.eval x= .bool s:=hx.ev hR;have q2:=w_s0 (hy.ev hR) h2;obtain⟨a2,n2,c2,e2⟩:=q2.Tq h2;refine⟨#[.bool s,.slice a2 n2 c2],?_,[.bool s,.slice a2 n2 c2],rfl,rfl,e2▸q2,trivial⟩;simp only[List.map_toArray,List.map_cons,List.map_nil,e1,e2];kernel_rfl
end
def g0:Gh:=⟨fun _=>none,fun _=>none⟩
def gO(w:World)(κ:Nat→Option (Option Nat)):Gh:=⟨fun i=>if i<w.heap.size then some i else none,κ⟩
def Ans(w:World)(d:Δ)(e:Ending)(w':World):Prop:=∃κ v,e= .returned v∧Below w.heap.size w w'∧(∀t q,κ t=some (some q)→w.heap.size≤q∧q<w'.heap.size)∧(∀t u q,κ t=some (some q)→κ u=some (some q)→t=u)∧s2 w (gO w κ) w' d v
structure Fn(f:FuncId)(ds:List Δ)(d:Δ):Prop where
 fn:∀w vs,Jw w→l1 w g0 w ds vs→Calls Tryz.prog f vs.toArray w (Ans w d)
def Δ.wk0:Δ→Δ
 | .ow A _=> .rd A
 | .rz _ A=> .rd A
 |d=>d
def Δ.wk:Δ→Δ
 | .g ds=> .g (ds.map Δ.wk0)
 |d=>d.wk0
def Δ.a0:Δ→Bool
 | .k _| .ow _ _| .rd _| .rz _ _=>true
 |_=>false
def Δ.a1:Δ→Bool
 | .g ds=>ds.all Δ.a0
 |d=>d.a0
theorem s0.wk{F:Nat→Prop}(hW:Wi w0 γ w F):∀{d:Δ} {x:Value},s0 w0 γ w d x→d.a0=true→s0 w g0 w d.wk0 x
 | .k _,_,h,_=>h
 | .ow _ _,_,⟨h,_⟩,_=>⟨_,fun q hq=>⟨hq,fun _ h=>by cases h⟩,h.rep⟩
 | .rd _,_,⟨H,h1,h2⟩,_=>⟨H,fun q hq=>⟨(h1 q hq).1,fun _ h=>by cases h⟩,h2⟩
 | .rz _ _,_,⟨H,h1,h2⟩,_=>⟨H,fun q hq=>⟨(h1 q hq).1.1,fun _ h=>by cases h⟩,h2⟩
 | .p _ _,_,_,h=>by cases h
 | .sl _ _ _,_,_,h=>by cases h
 | .f _,_,_,h=>by cases h
 | .g _,_,h,_=>h.elim
 | .t _,_,h,_=>h.elim
theorem l0.wk{F:Nat→Prop}(hW:Wi w0 γ w F):∀{ds:List Δ} {xs:List Value},l0 w0 γ w ds xs→ds.all Δ.a0=true→l0 w g0 w (ds.map Δ.wk0) xs
 |[],[],_,_=>trivial
 |d::ds,x::xs,h,ha=>by
  simp only[List.all_cons,Bool.and_eq_true]at ha;exact⟨s0.wk hW h.1 ha.1,l0.wk hW h.2 ha.2⟩
 |[],_::_,h,_=>h.elim
 |_::_,[],h,_=>h.elim
theorem s2.wk{F:Nat→Prop}(hW:Wi w0 γ w F):∀{d:Δ} {x:Value},s2 w0 γ w d x→d.a1=true→s1 w g0 w d.wk x
 | .g _,_,⟨xs,e,h⟩,ha=>⟨xs,e,l0.wk hW h ha⟩
 | .k _,_,h,_=>h
 | .ow _ _,_,h,ha=>s0.wk hW (d:= .ow _ _) h ha
 | .rd _,_,h,ha=>s0.wk hW (d:= .rd _) h ha
 | .rz _ _,_,h,ha=>s0.wk hW (d:= .rz _ _) h ha
 | .p _ _,_,_,h=>by cases h
 | .sl _ _ _,_,_,h=>by cases h
 | .f _,_,_,h=>by cases h
 | .t _,_,_,h=>by cases h
def Δ.rn0(i:Nat):Δ→Δ
 | .ow A u=> .ow A (4*i+u)
 |d=>d
def Δ.rn1(i:Nat):Δ→Δ
 | .g ds=> .g (ds.map (Δ.rn0 i))
 |d=>d.rn0 i
def Δ.rn(i:Nat):Δ→Δ
 | .t ds=> .t (ds.map (Δ.rn1 i))
 |d=>d.rn1 i
def Δ.r0:Δ→Bool
 | .k _| .rd _=>true
 | .ow _ u=>decide (u<4)
 |_=>false
def Δ.r1:Δ→Bool
 | .g ds=>ds.all Δ.r0
 |d=>d.r0
def Δ.r2:Δ→Bool
 | .t ds=>ds.all Δ.r1
 |d=>d.r1
def Gh.cal(γ:Gh)(i:Nat)(κ:Nat→Option (Option Nat)):Gh:=⟨γ.β,fun t=>if 4*i≤t∧t<4*i+4 then κ (t-4*i)else γ.κ t⟩
theorem s0.rn{w1:World}{κ:Nat→Option (Option Nat)}(hs:w0.heap.size≤w.heap.size)(hb:∀i b,γ.β i=some b→b<w.heap.size):∀{d:Δ} {x:Value},s0 w (gO w κ) w1 d x→d.r0=true→s0 w0 (γ.cal i κ) w1 (d.rn0 i) x
 | .k _,_,h,_=>h
 | .ow A t,_,⟨h,hk⟩,ht=>⟨h.base hs,by
    have ht':t<4:=of_decide_eq_true ht;show(if 4*i≤4*i+t∧4*i+t<4*i+4 then κ (4*i+t-4*i)else γ.κ _)=_;rw[if_pos ⟨om,om⟩,show 4*i+t-4*i=t from om];exact hk⟩
 | .rd _,_,⟨H,h1,h2⟩,_=>⟨H,fun q hq=>⟨(h1 q hq).1,fun j hj=>(h1 q hq).2 q (by
    show(if q<w.heap.size then some q else none)=some q;rw[if_pos (hb j q hj)])⟩,h2⟩
 | .p _ _,_,_,h=>by cases h
 | .rz _ _,_,_,h=>by cases h
 | .sl _ _ _,_,_,h=>by cases h
 | .f _,_,_,h=>by cases h
 | .g _,_,h,_=>h.elim
 | .t _,_,h,_=>h.elim
theorem l0.rn{w1:World}{κ:Nat→Option (Option Nat)}(hs:w0.heap.size≤w.heap.size)(hb:∀i b,γ.β i=some b→b<w.heap.size):∀{ds:List Δ} {xs:List Value},l0 w (gO w κ) w1 ds xs→ds.all Δ.r0=true→l0 w0 (γ.cal i κ) w1 (ds.map (Δ.rn0 i)) xs
 |[],[],_,_=>trivial
 |d::ds,x::xs,h,ha=>by
  simp only[List.all_cons,Bool.and_eq_true]at ha;exact⟨s0.rn hs hb h.1 ha.1,l0.rn hs hb h.2 ha.2⟩
 |[],_::_,h,_=>h.elim
 |_::_,[],h,_=>h.elim
theorem s1.rn{w1:World}{κ:Nat→Option (Option Nat)}(hs:w0.heap.size≤w.heap.size)(hb:∀i b,γ.β i=some b→b<w.heap.size):∀{d:Δ} {x:Value},s1 w (gO w κ) w1 d x→d.r1=true→s1 w0 (γ.cal i κ) w1 (d.rn1 i) x
 | .g _,_,⟨xs,e,h⟩,ha=>⟨xs,e,l0.rn hs hb h ha⟩
 | .k _,_,h,_=>h
 | .ow _ _,_,h,ha=>s0.rn (d:= .ow _ _) hs hb h ha
 | .rd _,_,h,ha=>s0.rn (d:= .rd _) hs hb h ha
 | .p _ _,_,_,h=>by cases h
 | .rz _ _,_,_,h=>by cases h
 | .sl _ _ _,_,_,h=>by cases h
 | .f _,_,_,h=>by cases h
 | .t _,_,_,h=>by cases h
theorem l1.rn{w1:World}{κ:Nat→Option (Option Nat)}(hs:w0.heap.size≤w.heap.size)(hb:∀i b,γ.β i=some b→b<w.heap.size):∀{ds:List Δ} {xs:List Value},l1 w (gO w κ) w1 ds xs→ds.all Δ.r1=true→l1 w0 (γ.cal i κ) w1 (ds.map (Δ.rn1 i)) xs
 |[],[],_,_=>trivial
 |d::ds,x::xs,h,ha=>by
  simp only[List.all_cons,Bool.and_eq_true]at ha;exact⟨s1.rn hs hb h.1 ha.1,l1.rn hs hb h.2 ha.2⟩
 |[],_::_,h,_=>h.elim
 |_::_,[],h,_=>h.elim
theorem s2.rn{w1:World}{κ:Nat→Option (Option Nat)}(hs:w0.heap.size≤w.heap.size)(hb:∀i b,γ.β i=some b→b<w.heap.size):∀{d:Δ} {x:Value},s2 w (gO w κ) w1 d x→d.r2=true→s2 w0 (γ.cal i κ) w1 (d.rn i) x
 | .t _,_,⟨xs,e,h⟩,ha=>⟨xs,e,l1.rn hs hb h ha⟩
 | .g _,_,h,ha=>s1.rn (d:= .g _) hs hb h ha
 | .k _,_,h,_=>h
 | .ow _ _,_,h,ha=>s0.rn (d:= .ow _ _) hs hb h ha
 | .rd _,_,h,ha=>s0.rn (d:= .rd _) hs hb h ha
 | .p _ _,_,_,h=>by cases h
 | .rz _ _,_,_,h=>by cases h
 | .sl _ _ _,_,_,h=>by cases h
 | .f _,_,_,h=>by cases h
def Oz(P:Program)(f:FuncId):Bool:=match P.funcs[f]? with|some fn=>!(fn.name== "runtime.NumGoroutine")&&fn.body.isSome|none=>false
def rd1(R:Nat→Option Δ):Operand→Option Δ
 | .tmp s=>R s
 | .const v=>some (.k v)
 |_=>none
def KX(R:Nat→Option Δ):List Operand→Option (List Δ)
 |[]=>some []
 |x::xs=>match rd1 R x,KX R xs with
  |some d,some ds=>some (d::ds)
  |_,_=>none
theorem rd1.bI{x:Operand}{d:Δ}(h:rd1 R x=some d):bI R x d:=by
 unfold rd1 at h;split at h
 ·exact h
 ·exact(Option.some.inj h).symm
 ·cases h
theorem KX.ev{a:Act}{F:Nat→Prop}(hW:Wi w0 γ w F)(hR:∀t d,R t=some d→s2 w0 γ w d (a.tmps.getD t undef)):∀{xs:List Operand} {ds:List Δ},KX R xs=some ds→ds.all Δ.a1=true→l1 w g0 w (ds.map Δ.wk) (xs.map a.eval)
 |[],ds,h,_=>by cases h;trivial
 |x::xs,ds,h,ha=>by
  unfold KX at h;split at h
  ·rename_i d ds' h1 h2;cases h;simp only[List.all_cons,Bool.and_eq_true]at ha;exact⟨s2.wk hW ((rd1.bI h1).ev hR) ha.1,KX.ev hW hR h2 ha.2⟩
  ·cases h
theorem ok_ca{dst:Option Tmp}{f:FuncId}{args:Array Operand}{BC:Array TypeId}{t:TypeId}{p:String}{e:Array Edge}{gd:Option (Nat×Bool)}{ds:List Δ}{d:Δ}(hf:Oz Tryz.prog f=true)(hx:KX R args.toList=some ds)(ha:ds.all Δ.a1=true)(hF:Fn f (ds.map Δ.wk) d)(hd:d.r2=true):Ok Tryz.prog w0 N ⟨dst,.call ⟨.value (.func f),args,BC⟩,t,p,e,gd⟩ i R Bx (d.rn i) none:=⟨fun Q γ a w F K hz hW Tt hR hB hK=>by
 have hc:=hF.fn w _ (hW.j.up hW.bel) (KX.ev hW hR hx ha);have hrun:(execOp a.eval (⟨dst,.call ⟨.value (.func f),args,BC⟩,t,p,e,gd⟩:Oper)).run Tryz.prog w= .ok (.enter f (args.toList.map a.eval).toArray) w:=by
  unfold Oz at hf;split at hf
  ·rename_i fn hfn;simp only[Bool.and_eq_true,Bool.not_eq_true']at hf;have hn:fn.name≠ "runtime.NumGoroutine" :=by simpa using hf.1
   have hb:¬(fn.body=none):=by intro e;rw[e]at hf;cases hf.2
   have qo:(args.toList.map a.eval).toArray=args.map a.eval:=by apply Array.ext';simp
   rw[qo];simp[execOp,resolve,Deferred.ofValue,invoke,callFunc,hfn,hn,hb,show a.eval (.func f)= .func (.func f) #[] #[]from rfl]
  ·cases hf
 unfold Oper.wp;rw[hrun,Oper.upon_enter];refine hc.mono ?_;rintro e w' ⟨κ,v,rfl,hb,k1,k2,hv⟩;have hs:=hW.bel.size;have hW':=hW.Ep (below_le hW hb);have fr:=(hW.fr i Tt).2;refine hK (γ.cal i κ) v w' ⟨hb.size,fun q h _=>hb.block q h,fun _ _ h=>h,fun t x h=>?_,fun _ _ h=> .inl h⟩ hb ⟨hW'.j,hW'.bel,hW'.bn,hW'.bi,fun t q h=>?_,fun t u q h1 h2=>?_,fun j hj=>⟨(hW.fr j hj.1).1,fun r hr=>?_⟩⟩ (s2.rn hs (fun j b h=>(hW.bn j b h).2) hv hd) fun b h=>by cases h
 ·show(if 4*i≤t∧t<4*i+4 then κ (t-4*i)else γ.κ t)=_;rw[if_neg fun hh=>by
   have:=fr (t-4*i) om;rw[show 4*i+(t-4*i)=t from om,h]at this;cases this]
  exact h
 ·replace h:(if 4*i≤t∧t<4*i+4 then κ (t-4*i)else γ.κ t)=some (some q):=h;split at h
  ·have:=k1 _ _ h;exact⟨om,this.2,fun j hj=>by have:=(hW.bn j q hj).2;omega⟩
  ·exact hW'.kn t q h
 ·replace h1:(if 4*i≤t∧t<4*i+4 then κ (t-4*i)else γ.κ t)=some (some q):=h1;replace h2:(if 4*i≤u∧u<4*i+4 then κ (u-4*i)else γ.κ u)=some (some q):=h2;split at h1<;>split at h2
  ·have:=k2 _ _ _ h1 h2;omega
  ·have:=(k1 _ _ h1).1;have:=(hW.kn u q h2).2.1;omega
  ·have:=(k1 _ _ h2).1;have:=(hW.kn t q h1).2.1;omega
  ·exact hW.ki t u q h1 h2
 ·show(if 4*i≤4*j+r∧4*j+r<4*i+4 then κ (4*j+r-4*i)else γ.κ _)=none;rw[if_neg fun hh=>hj.2 om];exact(hW.fr j hj.1).2 r hr⟩
end
section
variable {w0 w w':World} {γ:Gh} {N c:Nat} {E:En} {Bx:Bs} {a:Act} {P:Program}
def nbx(c:Nat)(Bx:Bs):Option (TypeId×List Δ)→Bs
 |some b=>(c,b)::Bx
 |none=>Bx
theorem bx.st(hW:Wi w0 γ w (fun i=>c≤i)){γ':Gh}(hs:St γ w γ' w')(hb:Below w.heap.size w w')(h:∀i b,lk Bx i=some b→bx w0 γ w i b){nb:Option (TypeId×List Δ)}(hn:∀b,nb=some b→bx w0 γ' w' c b):∀i b,lk (nbx c Bx nb) i=some b→bx w0 γ' w' i b:=fun i b hi=>by
 cases nb with
 |none=>exact(h i b hi).up hW hs fun q hq=>hb.block q (hW.bn i q hq).2
 |some b1=>
  rcases aG hi with ⟨rfl,rfl⟩|⟨_,hi⟩
  ·exact hn _ rfl
  ·exact(h i b hi).up hW hs fun q hq=>hb.block q (hW.bn i q hq).2
theorem put_eq{a:Act}{k:Nat}{v:Value}(h:k<a.tmps.size):(a.put (some k) v).tmps.getD k undef=v:=aA h
theorem gG{a:Act}{k t:Nat}{v:Value}(h:k≠t):(a.put (some k) v).tmps.getD t undef=a.tmps.getD t undef:=ae h
theorem ax{ops:Array Oper}{rest:List Oper}{o:Oper}{Q:Exit→Act→World→Prop}{k:Nat}{d:Δ}{nb:Option (TypeId×List Δ)}(S:PS w0 N c E Bx γ a w)(h:Ok P w0 N o c (lk E) Bx d nb)
 (next:∀γ' a' w',PS w0 N (c+1) ((k,d)::E) (nbx c Bx nb) γ' a' w'→wpList P ops Q rest a' w') (hg:o.guard=none:=by rfl) (hd:o.dst=some k:=by rfl) (hk:Nat.blt k N=true:=by rfl):wpList P ops Q (o::rest) a w:=by
 have hk':k<a.tmps.size:=by rw[S.sz];exact Nat.blt_eq▸hk
 refine BigFrame.wpList_want (by unfold Region.wanted;rw[hg]) fun K hK=>?_
 refine h.ok Q γ a w _ K S.sz S.W (Nat.le_refl c) S.env S.box fun γ' v w' hs hb hW hv hn=>hK _ _ (next γ' _ w' ?_)
 rw[hd]
 refine⟨hW.sub fun i hi=>⟨om,om⟩,by show(a.tmps.setIfInBounds k v).size=N;simp[S.sz],S.df,fun t d1 ht=>?_,bx.st S.W hs hb S.box hn⟩
 rcases aG ht with ⟨rfl,rfl⟩|⟨hne,ht⟩
 ·rw[put_eq hk'];exact hv
 ·rw[gG hne];exact s2.up S.W hs (S.env t d1 ht)
def Δ.c1:Δ→Bool
 | .k v=>v.oneCell'
 | .ow _ _| .rd _| .rz _ _| .p _ _| .sl _ _ _=>true
 | .f Φ=>Φ.one
 |_=>false
theorem s0.one{d:Δ}{x:Value}(h:s0 w0 γ w d x)(hc:d.c1=true):x.oneCell'=true:=by
 cases d with
 |k v=>have e:x=v:=h;subst e;exact hc
 |ow A t=>obtain⟨a,n,c,rfl⟩:=h.Tq rfl;rfl
 |rd A=>obtain⟨a,n,c,rfl⟩:=h.Tq rfl;rfl
 |rz Z A=>obtain⟨a,n,c,rfl⟩:=h.Tq rfl;rfl
 |p i o=>obtain⟨b,_,rfl⟩:=h;rfl
 |sl i n c=>obtain⟨b,_,rfl⟩:=h;rfl
 |f Φ=>exact Φ.h1 hc h
 |g _=>exact h.elim
 |t _=>exact h.elim
theorem l0.one:∀{ds:List Δ} {xs:List Value},l0 w0 γ w ds xs→ds.all Δ.c1=true→xs.all (·.oneCell')=true
 |[],[],_,_=>rfl
 |d::ds,x::xs,h,hc=>by
  simp only[List.all_cons,Bool.and_eq_true]at hc ⊢;exact⟨h.1.one hc.1,l0.one h.2 hc.2⟩
 |[],_::_,h,_=>h.elim
 |_::_,[],h,_=>h.elim
theorem Dc{ops:Array Oper}{rest:List Oper}{Q:Exit→Act→World→Prop}{dst:Option Tmp}{ty t:TypeId}{x y:Operand}{p:String}{e:Array Edge}{j:Nat}{bt:TypeId}{ds es:List Δ}(S:PS w0 N c E Bx γ a w)(hx:bI (lk E) x (.p j 0))(hb:lk Bx j=some (bt,ds))(hy:bI (lk E) y (.g es))(hi:(P.info? ty).map (·.size)=some es.length)(hl:ds.length=es.length)(h1:es.all Δ.c1=true)(hd:dst=none)
 (next:∀a' w',PS w0 N c E ((j,bt,es)::Bx) γ a' w'→wpList P ops Q rest a' w'):wpList P ops Q (⟨dst,.store ty x y,t,p,e,none⟩::rest) a w:=by
 obtain⟨q,hq,ex⟩:=hx.ev S.env
 obtain⟨q',xs,hq',hg,hds⟩:=S.box j _ hb
 obtain rfl:q=q':=Option.some.inj (hq.symm.trans hq')
 obtain⟨ys,ey,hys⟩:=hy.ev S.env
 have hlx:xs.length=ds.length:=hds.len
 have Hg:=hys.len
 refine wpList_store_row rfl ty x y rfl q ys.toArray ex ey bt xs.toArray hg (by rw[hi];simp[Hg]) (by simp;omega) (by
  have:=hys.one h1;simpa using this) (next _ _ ?_)
 have hnq:=S.W.bn j q hq
 have hst:aI w (fun k=>k=q) (w.setRow q ys.toArray):=⟨rfl,rfl,rfl,sy,fun k _ hne=>setRow_other w q k _ hne⟩
 have hs:St γ w γ (w.setRow q ys.toArray):=⟨hst.size,fun k hk hn=>hst.block k hk fun e=>hn j (e▸hq),fun _ _ h=>h,fun _ _ h=>h,fun _ _ h=> .inl h⟩
 have hW:=S.W.Ep (w':=w.setRow q ys.toArray) ⟨rfl,rfl,rfl,hst.size,fun k hk=>hst.block k (Nat.lt_of_lt_of_le hk S.W.bel.size) om⟩
 subst hd
 refine⟨hW,S.sz,S.df,fun t d h=>s2.up S.W hs (S.env t d h),fun i b h=>?_⟩
 rcases aG h with ⟨rfl,rfl⟩|⟨hne,h⟩
 ·exact⟨q,ys,hq,setRow_heap w q xs.toArray _ _ _ hg,l0.up S.W hs hys⟩
 ·exact(S.box i b h).up S.W hs fun k hk=>hst.block k (S.W.bn i k hk).2 fun e=>hne (S.W.bi i j q (e▸hk) hq).symm
theorem b_{ops:Array Oper}{Q:Exit→Act→World→Prop}(h:Q .normal a w):wpList P ops Q [] a w:=h
theorem Tu{E:En}{a:Act}{w:World}:∀{ds:List Δ} {vs:List Value} {k:Nat},l1 w g0 w ds vs→(∀j,j<vs.length→a.tmps.getD (k+j) undef=vs.getD j undef)→(∀t d,lk E t=some d→s2 w g0 w d (a.tmps.getD t undef))→∀t d,lk ((ds.zipIdx k).map (fun p=>(p.2,p.1))++E) t=some d→s2 w g0 w d (a.tmps.getD t undef)
 |[],[],_,_,_,hE,t,d,h=>hE t d h
 |d::ds,x::xs,k,h,hv,hE,t,d1,ht=>by
  simp only[List.zipIdx_cons,List.map_cons,List.cons_append]at ht;rcases aG ht with ⟨rfl,rfl⟩|⟨_,ht⟩
  ·have:=hv 0 sy;simp only[Nat.add_zero,List.getD_cons_zero]at this;rw[this];exact h.1.s2
  ·exact Tu (k:=k+1) h.2 (fun j hj=>by have:=hv (j+1) (by simpa using hj);rw[show k+1+j=k+(j+1)from om];simpa using this) hE t d1 ht
 |[],_::_,_,h,_,_,_,_,_=>h.elim
 |_::_,[],_,h,_,_,_,_,_=>h.elim
theorem l1.len:∀{ds:List Δ} {vs:List Value},l1 w0 γ w ds vs→vs.length=ds.length
 |[],[],_=>rfl
 |_::_,_::_,h=>by simp[l1.len h.2]
 |[],_::_,h=>h.elim
 |_::_,[],h=>h.elim
theorem wi_0{w:World}(j:Jw w):Wi w g0 w (fun i=>0≤i):=⟨j,⟨rfl,rfl,rfl,Nat.le_refl _,fun _ _=>rfl⟩,fun _ _ h=>(by cases h),fun _ _ _ h=>(by cases h),fun _ _ h=>(by cases h),fun _ _ _ h=>(by cases h),fun _ _=>⟨rfl,fun _ _=>rfl⟩⟩
theorem dI{f:FuncId}{fn:Func}{code:Code}{ds:List Δ}{d:Δ}(hf:Tryz.prog.funcs[f]? =some fn)(hb:fn.body=some code)(hn:Nat.ble ds.length fn.ntmps=true)(k:∀(w:World) (a:Act),PS w fn.ntmps 0 ((ds.zipIdx).map (fun p=>(p.2,p.1))) [] g0 a w→code.wp Tryz.prog (bodyPost Tryz.prog fn (Ans w d)) a w):Fn f ds d:=⟨fun w vs hj h=>by
 have hl:=h.len;refine dm hf hb (by rw[hl];exact Nat.le_of_ble_eq_true hn) fun a z e dd=>?_
 refine k w a ⟨wi_0 hj,z,dd,fun t d ht=>?_,fun i b h=>by cases h⟩;have:=Tu (E:=[]) (k:=0) h (fun j hj=>by rw[Nat.zero_add];exact e j hj) (fun t d h=>by cases h) t d (by rw[List.append_nil];exact ht);exact this⟩
def Δ.tg0(ts:List Nat):Δ→Δ
 | .ow A u=> .ow A (ts.getD u 0)
 |d=>d
def Δ.tg1(ts:List Nat):Δ→Δ
 | .g ds=> .g (ds.map (Δ.tg0 ts))
 |d=>d.tg0 ts
def Δ.tg(ts:List Nat):Δ→Δ
 | .t ds=> .t (ds.map (Δ.tg1 ts))
 |d=>d.tg1 ts
def Δ.n0(n:Nat):Δ→Bool
 | .k _=>true
 | .ow _ u=>decide (u<n)
 |_=>false
def Δ.n1(n:Nat):Δ→Bool
 | .g ds=>ds.all (Δ.n0 n)
 |d=>d.n0 n
def Δ.n2(n:Nat):Δ→Bool
 | .t ds=>ds.all (Δ.n1 n)
 |d=>d.n1 n
theorem s0.tg{ts:List Nat}{γ':Gh}(hk:∀u,u<ts.length→γ'.κ u=γ.κ (ts.getD u 0)):∀{d:Δ} {x:Value},s0 w0 γ w (d.tg0 ts) x→d.n0 ts.length=true→s0 w0 γ' w d x
 | .k _,_,h,_=>h
 | .ow A u,_,⟨h,h2⟩,hn=>⟨h,(hk u (of_decide_eq_true hn)).trans h2⟩
 | .rd _,_,_,h=>by cases h
 | .rz _ _,_,_,h=>by cases h
 | .p _ _,_,_,h=>by cases h
 | .sl _ _ _,_,_,h=>by cases h
 | .f _,_,_,h=>by cases h
 | .g _,_,_,h=>by cases h
 | .t _,_,_,h=>by cases h
theorem l0.tg{ts:List Nat}{γ':Gh}(hk:∀u,u<ts.length→γ'.κ u=γ.κ (ts.getD u 0)):∀{ds:List Δ} {xs:List Value},l0 w0 γ w (ds.map (Δ.tg0 ts)) xs→ds.all (Δ.n0 ts.length)=true→l0 w0 γ' w ds xs
 |[],[],_,_=>trivial
 |d::ds,x::xs,h,ha=>by
  simp only[List.all_cons,Bool.and_eq_true]at ha;exact⟨s0.tg hk h.1 ha.1,l0.tg hk h.2 ha.2⟩
 |[],_::_,h,_=>h.elim
 |_::_,[],h,_=>h.elim
theorem s1.tg{ts:List Nat}{γ':Gh}(hk:∀u,u<ts.length→γ'.κ u=γ.κ (ts.getD u 0)):∀{d:Δ} {x:Value},s1 w0 γ w (d.tg1 ts) x→d.n1 ts.length=true→s1 w0 γ' w d x
 | .g _,_,⟨xs,e,h⟩,ha=>⟨xs,e,l0.tg hk h ha⟩
 | .k _,_,h,_=>h
 | .ow _ _,_,h,ha=>s0.tg (d:= .ow _ _) hk h ha
 | .rd _,_,_,h=>by cases h
 | .rz _ _,_,_,h=>by cases h
 | .p _ _,_,_,h=>by cases h
 | .sl _ _ _,_,_,h=>by cases h
 | .f _,_,_,h=>by cases h
 | .t _,_,_,h=>by cases h
theorem l1.tg{ts:List Nat}{γ':Gh}(hk:∀u,u<ts.length→γ'.κ u=γ.κ (ts.getD u 0)):∀{ds:List Δ} {xs:List Value},l1 w0 γ w (ds.map (Δ.tg1 ts)) xs→ds.all (Δ.n1 ts.length)=true→l1 w0 γ' w ds xs
 |[],[],_,_=>trivial
 |d::ds,x::xs,h,ha=>by
  simp only[List.all_cons,Bool.and_eq_true]at ha;exact⟨s1.tg hk h.1 ha.1,l1.tg hk h.2 ha.2⟩
 |[],_::_,h,_=>h.elim
 |_::_,[],h,_=>h.elim
theorem s2.tg{ts:List Nat}{γ':Gh}(hk:∀u,u<ts.length→γ'.κ u=γ.κ (ts.getD u 0)):∀{d:Δ} {x:Value},s2 w0 γ w (d.tg ts) x→d.n2 ts.length=true→s2 w0 γ' w d x
 | .t _,_,⟨xs,e,h⟩,ha=>⟨xs,e,l1.tg hk h ha⟩
 | .g _,_,h,ha=>s1.tg (d:= .g _) hk h ha
 | .k _,_,h,_=>h
 | .ow _ _,_,h,ha=>s0.tg (d:= .ow _ _) hk h ha
 | .rd _,_,_,h=>by cases h
 | .rz _ _,_,_,h=>by cases h
 | .p _ _,_,_,h=>by cases h
 | .sl _ _ _,_,_,h=>by cases h
 | .f _,_,_,h=>by cases h
def FO:List Nat→Bool
 |[]=>true
 |x::r=>!(r.contains x)&&FO r
theorem Tv{r:List Nat}{k:Nat}(hk:k<r.length):r.getD k 0∈r:=by
 simp only[List.getD,List.getElem?_eq_getElem hk,Option.getD_some];exact List.getElem_mem hk
theorem Eu:∀{ts:List Nat},FO ts=true→∀u v,u<ts.length→v<ts.length→ts.getD u 0=ts.getD v 0→u=v
 |[],_,_,_,h,_,_=>by simp at h
 |x::r,hn,u,v,hu,hv,he=>by
  simp only[FO,Bool.and_eq_true,Bool.not_eq_true',List.contains_eq_mem,decide_eq_false_iff_not]at hn;cases u with
  |zero=>
   cases v with
   |zero=>rfl
   |succ v=>
    have e:x=r.getD v 0:=he;exact absurd (e▸Tv (r:=r) (k:=v) (by simpa using hv)) hn.1
  |succ u=>
   cases v with
   |zero=>
    have e:r.getD u 0=x:=he;exact absurd (e▸Tv (r:=r) (k:=u) (by simpa using hu)) hn.1
   |succ v=>rw[Eu hn.2 u v (by simpa using hu) (by simpa using hv) he]
theorem Ans.mk'{F:Nat→Prop}{v:Value}{d:Δ}(ts:List Nat)(hW:Wi w0 γ w F)(hv:s2 w0 γ w (d.tg ts) v)(hn:d.n2 ts.length=true)(hd:FO ts=true):Ans w0 d (.returned v) w:=by
 refine⟨fun u=>if u<ts.length then γ.κ (ts.getD u 0)else none,v,rfl,hW.bel,fun t q h=>?_,fun t u q h1 h2=>?_,s2.tg (fun u hu=>if_pos hu) hv hn⟩
 ·dsimp only at h;split at h
  ·exact⟨(hW.kn _ q h).1,(hW.kn _ q h).2.1⟩
  ·cases h
 ·dsimp only at h1 h2;split at h1
  ·split at h2
   ·exact Eu hd t u ‹_› ‹_› (hW.ki _ _ q h1 h2)
   ·cases h2
  ·cases h1
end
section
variable {w0 w w':World} {γ:Gh} {N c:Nat} {E:En} {Bx:Bs} {a:Act} {P:Program}
abbrev Rl:=List (Nat×Option Nat)
abbrev UJ:=List (Option (TypeId×List Δ))
def dep(E:En)(Ds:List Δ)(r:Rl)(t:Nat):Option Δ:=match lk r t with
 |some (some k)=>Ds[k]?
 |some none=>lk E t
 |none=>none
def rB(l:List Oper)(n:Nat)(rs:List Rl):Bool:=(List.range n).all fun j=>(rs.getD j []).all fun p=>match p.2 with
 |some k=>decide (k<n)&&ig l k==p.1&&(match l[j]? with|some o=>o.after.any fun e=>Region.binds .any e&&e.on==k|none=>false)
 |none=>(List.range n).all fun m=>ig l m != p.1
def nM(P:Program)(w0:World)(N c:Nat)(E:En)(Bx:Bs)(D0:List Δ):Nat→List Oper→List Rl→List Δ→UJ→Prop
 |j,o::os,r::rs,d::ds,b::bs=>Ok P w0 N o (c+j) (dep E D0 r) Bx d b∧nM P w0 N c E Bx D0 (j+1) os rs ds bs
 |_,_,[],[],[]=>True
 |_,_,_,_,_=>False
theorem nM.get{D0:List Δ}:∀{m:Nat} {l:List Oper} {rs:List Rl} {ds:List Δ} {bs:UJ} {j:Nat} {o:Oper},nM P w0 N c E Bx D0 m l rs ds bs→j<ds.length→l[j]? =some o→∃d b,ds[j]? =some d∧bs[j]? =some b∧Ok P w0 N o (c+(m+j)) (dep E D0 (rs.getD j [])) Bx d b
 |m,o1::os,r::rs,d::ds,b::bs,0,o,h,_,ho=>by
  simp at ho;subst ho;exact⟨d,b,rfl,rfl,h.1⟩
 |m,o1::os,r::rs,d::ds,b::bs,j+1,o,h,hj,ho=>by
  obtain⟨d',b',h1,h2,h3⟩:=nM.get (j:=j) h.2 (by simpa using hj) (by simpa using ho);refine⟨d',b',by simpa using h1,by simpa using h2,?_⟩;rw[show c+(m+(j+1))=c+(m+1+j)from om];exact h3
 |_,_,[],[],[],_,_,_,hj,_=>by simp at hj
 |_,[],_::_,_,_,_,_,h,_,_=>by simp[nM]at h
 |_,[],[],_::_,_,_,_,h,_,_=>by simp[nM]at h
 |_,[],[],[],_::_,_,_,h,_,_=>by simp[nM]at h
 |_,_::_,[],_::_,_,_,_,h,_,_=>by simp[nM]at h
 |_,_::_,[],[],_::_,_,_,h,_,_=>by simp[nM]at h
 |_,_::_,_::_,[],_,_,_,h,_,_=>by simp[nM]at h
 |_,_::_,_::_,_::_,[],_,_,h,_,_=>by simp[nM]at h
def dL(l:List Oper):Nat→List Δ→En
 |_,[]=>[]
 |j,d::ds=>(ig l j,d)::dL l (j+1) ds
def bL(c:Nat):Nat→UJ→Bs
 |_,[]=>[]
 |j,some b::bs=>(c+j,b)::bL c (j+1) bs
 |j,none::bs=>bL c (j+1) bs
theorem sQ{α:Type}:∀{r s:List (Nat×α)} {t:Nat} {x:α},lk (r++s) t=some x→lk r t=some x∨((∀p,p∈r→p.1≠t)∧lk s t=some x)
 |[],s,t,x,h=> .inr ⟨fun p hp=>by simp at hp,h⟩
 |(i,y)::r,s,t,x,h=>by
  rcases aG (r:=r++s) h with ⟨rfl,rfl⟩|⟨hne,h⟩
  ·exact .inl (by unfold lk;rw[Nat.beq_refl];rfl)
  ·rcases sQ h with h|⟨h1,h2⟩
   ·exact .inl (by unfold lk;rw[Ba hne];exact h)
   ·exact .inr ⟨fun p hp=>(List.mem_cons.1 hp).elim (fun e=>by rw[e];exact hne) (h1 p),h2⟩
theorem JB{l:List Oper}:∀{ds:List Δ} {m t:Nat} {d:Δ},lk (dL l m ds) t=some d→∃j,ds[j]? =some d∧ig l (m+j)=t
 |[],_,_,_,h=>by cases h
 |d1::ds,m,t,d,h=>by
  rcases aG h with ⟨e,rfl⟩|⟨_,h⟩
  ·exact⟨0,rfl,e⟩
  ·obtain⟨j,h1,h2⟩:=JB h;exact⟨j+1,by simpa using h1,by rw[←h2];congr 1;omega⟩
theorem JC{l:List Oper}:∀{ds:List Δ} {m j:Nat},j<ds.length→∃d,(ig l (m+j),d)∈dL l m ds
 |d::ds,m,0,_=>⟨d,by simp[dL]⟩
 |d::ds,m,j+1,h=>by
  obtain⟨d',hd⟩:=JC (m:=m+1) (j:=j) (by simpa using h);exact⟨d',by rw[show m+(j+1)=m+1+j from om];exact List.mem_cons_of_mem _ hd⟩
 |[],_,_,h=>by simp at h
theorem Bc{c:Nat}:∀{bs:UJ} {m i:Nat} {b:TypeId×List Δ},lk (bL c m bs) i=some b→∃j,bs[j]? =some (some b)∧c+(m+j)=i
 |[],_,_,_,h=>by cases h
 |some b1::bs,m,i,b,h=>by
  rcases aG h with ⟨e,rfl⟩|⟨_,h⟩
  ·exact⟨0,rfl,om⟩
  ·obtain⟨j,h1,h2⟩:=Bc h;exact⟨j+1,by simpa using h1,om⟩
 |none::bs,m,i,b,h=>by
  obtain⟨j,h1,h2⟩:=Bc (bs:=bs) (m:=m+1) h;exact⟨j+1,by simpa using h1,om⟩
theorem bQ{id:Nat}{l:List Oper}{Q:Exit→Act→World→Prop}(n:Nat)(Ds:List Δ)(Nb:UJ)(rs:List Rl)(hDn:Ds.length=n)(S:PS w0 N c E Bx γ a w)(hm:P.follows .mixedOrders=true)(hB:headB l n=true)(hN:((List.range n).all fun i=>decide (ig l i<N))=true)(hr:rB l n rs=true)
 (ops:nM P w0 N c E Bx Ds 0 l rs Ds Nb)
 (fin:∀γ' a' w',PS w0 N (c+n) (dL l 0 Ds++E) (bL c 0 Nb++Bx) γ' a' w'→wpList P l.toArray Q (l.drop n) a' w'):(Code.region id l.toArray true).wp P Q a w:=by
 subst hDn
 have hB':=hB
 simp only[headB,Gz,Bool.and_eq_true]at hB'
 obtain⟨⟨hT,hdst⟩,hgd⟩:=hB'
 have gd:∀i o,i<Ds.length→l[i]? =some o→o.guard=none∧∃k,o.dst=some k∧ig l i=k∧k<N:=fun i o hi ho=>by
  have h1:=List.all_eq_true.1 hgd i (List.mem_range.2 hi);have h2:=List.all_eq_true.1 hdst i (List.mem_range.2 hi);have h3:=of_decide_eq_true (List.all_eq_true.1 hN i (List.mem_range.2 hi));rw[ho]at h1 h2;obtain⟨k,hk⟩:=Option.isSome_iff_exists.1 h2;have e:ig l i=k:=by simp[ig,ho,hk]
  exact⟨Option.isNone_iff_eq_none.1 h1,k,hk,e,e▸h3⟩
 have dne:∀i j,i<Ds.length→j<Ds.length→i≠j→ig l i≠ig l j:=fun i j hi hj hij=>by
  obtain⟨o,ho,_,hd⟩:=nK hT hi;obtain⟨o2,ho2,_,_⟩:=nK hT hj;obtain⟨_,k,hk,e1,_⟩:=gd i o hi ho;obtain⟨_,k2,hk2,e2,_⟩:=gd j o2 hj ho2;rw[e1,e2];intro e;exact(hd k hk).2 j o2 hj hij ho2 (by rw[hk2,e])
 refine uX (fun listed a w1=>∃γ1,Wi w0 γ1 w1 (fun i=>c≤i∧(i<c+Ds.length→listed.getD (i-c) true=false))∧(∀t d,lk E t=some d→(∀j,j<Ds.length→ig l j≠t)→s2 w0 γ1 w1 d (a.tmps.getD t undef))∧(∀i b,lk Bx i=some b→bx w0 γ1 w1 i b)∧(∀j d,j<Ds.length→Ds[j]? =some d→listed.getD j true=true→s2 w0 γ1 w1 d (a.tmps.getD (ig l j) undef))∧∀j b,j<Ds.length→Nb[j]? =some (some b)→listed.getD j true=true→bx w0 γ1 w1 (c+j) b)
  (fun w w'=>Below w.heap.size w w') (fun w=>⟨rfl,rfl,rfl,Nat.le_refl _,fun _ _=>rfl⟩) (fun a b c h1 h2=>⟨h2.os.trans h1.os,h2.tape.trans h1.tape,h2.output.trans h1.output,Nat.le_trans h1.size h2.size,fun q hq=>(h2.block q (Nat.lt_of_lt_of_le hq h1.size)).trans (h1.block q hq)⟩) (fun _ _ _=>True) (fun _ _=>none) hm hT S.sz hN (fun _ _ _ _ _ _ _=>trivial) (fun _ _ _ _ _ _ h=>by cases h) (fun _ _ _ _ _ _ _ _ _=>⟨trivial,rfl⟩) ?_ ?_ ?_
 ·have hl:∀j,j<Ds.length→(Array.replicate l.length false).getD j true=false:=fun j hj=>by
   have:=pR hT;simp[show j<l.length from om]
  have hb:Below w.heap.size w {w with drawn:=w.drawn+1}:=⟨rfl,rfl,rfl,Nat.le_refl _,fun _ _=>rfl⟩;refine⟨γ,(S.W.Ep (below_le S.W hb)).sub fun i hi=>hi.1,fun t d h _=>s2.up S.W (.of hb) (S.env t d h),fun i b h=>(S.box i b h).up S.W (.of hb) fun q hq=>rfl,fun j d hj _ h=>?_,fun j b hj _ h=>?_⟩
  ·rw[hl j hj]at h;cases h
  ·rw[hl j hj]at h;cases h
 ·rintro i o a1 w1 listed hi ho hls Y0 Df ⟨γ1,hW,hE,hBx,hv,hnb⟩ hz hL _ _ K hK;obtain⟨hg,k,hk,hki,hkN⟩:=gd i o hi ho;obtain⟨d,b,hd,hb,hok⟩:=ops.get hi ho;rw[Nat.zero_add]at hok;have hil:i<listed.size:=by have:=pR hT;omega
  rw[if_pos (by unfold Region.wanted;rw[hg])];refine hok.ok Q γ1 a1 w1 _ K hz hW ⟨om,fun _=>by rw[show c+i-c=i from om];exact Y0⟩ (fun t d1 ht=>?_) hBx fun γ' v w' hs hbw hW' hv' hn'=>hK v w' trivial hbw (fun _ h=>by cases h) ⟨γ',hW'.sub fun j hj=>⟨⟨hj.1,fun h=>?_⟩,fun e=>?_⟩,fun t d1 ht hn=>?_,fun j b1 hj=>(hBx j b1 hj).up hW hs fun q hq=>hbw.block q (hW.bn j q hq).2,fun j d1 hj hd1 hlj=>?_,fun j b1 hj hb1 hlj=>?_⟩
  ·unfold dep at ht;split at ht
   ·rename_i m hm1;have h1:=List.all_eq_true.1 hr i (List.mem_range.2 hi);have hmem:∀{r:Rl} {x:Option Nat},lk r t=some x→(t,x)∈r:=fun {r}=>by
     induction r with
     |nil=>intro x h;cases h
     |cons p r ih=>
      intro x h;rcases aG h with ⟨rfl,rfl⟩|⟨_,h⟩
      ·exact List.mem_cons_self
      ·exact List.mem_cons_of_mem _ (ih h)
    have h2:=List.all_eq_true.1 h1 _ (hmem hm1);simp only[Bool.and_eq_true,decide_eq_true_eq,beq_iff_eq,ho,Array.any_eq_true']at h2;obtain⟨⟨h3,h4⟩,e,he,h5,h6⟩:=h2;have h7:=Df e he h5;rw[h6]at h7;have:=hv m d1 h3 ht h7;rw[h4]at this;exact this
   ·rename_i hm1;have h1:=List.all_eq_true.1 hr i (List.mem_range.2 hi);have hmem:∀{r:Rl} {x:Option Nat},lk r t=some x→(t,x)∈r:=fun {r}=>by
     induction r with
     |nil=>intro x h;cases h
     |cons p r ih=>
      intro x h;rcases aG h with ⟨rfl,rfl⟩|⟨_,h⟩
      ·exact List.mem_cons_self
      ·exact List.mem_cons_of_mem _ (ih h)
    have h2:=List.all_eq_true.1 h1 _ (hmem hm1);refine hE t d1 ht fun j hj=>?_
    have:=List.all_eq_true.1 h2 j (List.mem_range.2 hj);simpa using this
   ·cases ht
  ·have h2:=hj.2 h;rw[f_]at h2;split at h2
   ·cases h2
   ·exact h2
  ·have h2:=hj.2 om;rw[f_,if_pos ⟨om,hil⟩]at h2;cases h2
  ·rw[hk,gG (by rw[←hki];exact hn i hi)];exact s2.up hW hs (hE t d1 ht hn)
  ·by_cases hji:j=i
   ·subst hji;rw[hk,hki,put_eq (Nat.lt_of_lt_of_eq hkN hz.symm)];rw[hd]at hd1;cases hd1;exact hv'
   ·rw[hk,gG (by rw[←hki];exact dne i j hi hj (Ne.symm hji))];rw[f_,if_neg (fun h=>hji h.1.symm)]at hlj;exact s2.up hW hs (hv j d1 hj hd1 hlj)
  ·by_cases hji:j=i
   ·subst hji;rw[hb]at hb1;cases hb1;exact hn' _ rfl
   ·rw[f_,if_neg (fun h=>hji h.1.symm)]at hlj;exact(hnb j b1 hj hb1 hlj).up hW hs fun q hq=>hbw.block q (hW.bn _ q hq).2
 ·rintro a1 w1 listed hall ⟨γ1,hW,hE,hBx,hv,hnb⟩ hz hdf hL _ _ _;refine fin γ1 a1 w1 ⟨hW.sub fun i hi=>⟨om,fun h=>om⟩,hz,hdf.trans S.df,fun t d ht=>?_,fun i b hi=>?_⟩
  ·rcases sQ ht with ht|⟨hn,ht⟩
   ·obtain⟨j,h1,h2⟩:=JB ht;rw[Nat.zero_add]at h2;have hj:j<Ds.length:=(List.getElem?_eq_some_iff.1 h1).1;rw[←h2];exact hv j d hj h1 (hall j hj)
   ·refine hE t d ht fun j hj e=>?_
    obtain⟨d',hd'⟩:=JC (l:=l) (m:=0) hj;rw[Nat.zero_add]at hd';exact hn _ hd' e
  ·rcases sQ hi with hi|⟨_,hi⟩
   ·obtain⟨j,h1,h2⟩:=Bc hi;have hj:j<Nb.length:=(List.getElem?_eq_some_iff.1 h1).1;rw[Nat.zero_add]at h2;have hlen:Nb.length≤Ds.length:=by
     have:∀{m:Nat} {l:List Oper} {rs:List Rl} {ds:List Δ} {bs:UJ},nM P w0 N c E Bx Ds m l rs ds bs→bs.length=ds.length:=fun {m l rs ds bs}=>by
      induction ds generalizing m l rs bs with
      |nil=>cases l<;>cases rs<;>cases bs<;>simp[nM]
      |cons d ds ih=>cases l<;>cases rs<;>cases bs<;>simp[nM];intro _ h;exact ih h
     rw[this ops];exact Nat.le_refl _
    rw[←h2];exact hnb j b om h1 (hall j om)
   ·exact hBx i b hi
end
section
variable {w0 w w':World} {γ:Gh} {N c:Nat} {E:En} {Bx:Bs} {a:Act} {P:Program}
def rvO(E:En)(Bx:Bs):ResultVar→Δ→Prop
 | .tmp t,d=>lk E t=some d
 | .cell p _,d=>∃j bt es,lk E p=some (.p j 0)∧lk Bx j=some (bt,es)∧d= .g es
def rvB(P:Program):ResultVar→Δ→Bool
 | .tmp _,_=>true
 | .cell _ ty,.g es=>j_ P ty&&(P.info? ty).map (·.size)==some es.length
 |_,_=>false
def rvL(E:En)(Bx:Bs):List ResultVar→List Δ→Prop
 |[],[]=>True
 |r::rs,d::ds=>rvO E Bx r d∧rvL E Bx rs ds
 |_,_=>False
def XJ(P:Program):List ResultVar→List Δ→Bool
 |[],[]=>true
 |r::rs,d::ds=>rvB P r d&&XJ P rs ds
 |_,_=>false
def Y1(tmps:Array Value):ResultVar→Sem Value
 | .tmp t=>pure (tmps.getD t undef)
 | .cell a t=>do loadVar t (←asAddr (tmps.getD a undef))
theorem Ew(S:PS w0 N c E Bx γ a w){r:ResultVar}{d:Δ}(h:rvO E Bx r d)(hb:rvB P r d=true):∃v,(Y1 a.tmps r).run P w= .ok v w∧s2 w0 γ w d v:=by
 cases r with
 |tmp t=>exact⟨_,rfl,S.env t d h⟩
 |cell p ty=>
  obtain⟨j,bt,es,h1,h2,rfl⟩:=h;obtain⟨q,hq,e⟩:=S.env p _ h1;obtain⟨q',xs,hq',hg,hds⟩:=S.box j _ h2;obtain rfl:q=q':=Option.some.inj (hq.symm.trans hq');simp only[rvB,Bool.and_eq_true,beq_iff_eq]at hb;have hl:xs.length=es.length:=hds.len;obtain⟨dd,hd⟩:∃dd,P.underlying ty=some dd:=by
   have hag:=hb.1;unfold j_ at hag;cases hu:P.underlying ty with
   |some dd=>exact⟨dd,rfl⟩
   |none=>rw[hu]at hag;cases hag
  have hag:=hb.1;unfold j_ at hag;rw[hd]at hag;have:=run_loadVar_row (P:=P) w q bt ty xs.toArray (0,0) dd hg hd (by cases dd<;>first|rfl|cases hag) (by rw[hb.2];simp[hl]);refine⟨.agg xs.toArray,?_,xs,rfl,hds⟩;simp only[Y1,e,asAddr,Sem.run_bind,Sem.run_pure,Result.andThen_ok,this]
theorem KY(S:PS w0 N c E Bx γ a w)(hs:∀d:Δ,d.n1 (4*c)=true→∀v,s2 w0 γ w d v→s1 w0 γ w d v):∀{rs:List ResultVar} {ds:List Δ},rvL E Bx rs ds→XJ P rs ds=true→∃vs:List Value,(rs.mapM (Y1 a.tmps)).run P w= .ok vs w∧vs.length=ds.length∧((ds.all fun d=>d.n1 (4*c))=true→l1 w0 γ w ds vs)∧∀d,ds=[d]→∃v,vs=[v]∧s2 w0 γ w d v
 |[],[],_,_=>⟨[],sy,rfl,fun _=>trivial,fun d h=>by cases h⟩
 |r::rs,d::ds,h,hb=>by
  simp only[XJ,Bool.and_eq_true]at hb;obtain⟨v,h1,h2⟩:=Ew S h.1 hb.1;obtain⟨vs,h3,h4,h5,_⟩:=KY S hs h.2 hb.2;refine⟨v::vs,?_,by simp[h4],fun hn=>?_,fun d1 h6=>?_⟩
  ·simp only[List.mapM_cons,Sem.run_bind,Sem.run_pure,h1,h3,Result.andThen_ok]
  ·simp only[List.all_cons,Bool.and_eq_true]at hn;exact⟨hs d hn.1 v h2,h5 hn.2⟩
  ·cases h6;match vs,h4 with
   |[],_=>exact⟨v,rfl,h2⟩
 |[],_::_,h,_=>h.elim
 |_::_,[],h,_=>h.elim
theorem n1_s1{n:Nat}:∀{d:Δ},d.n1 n=true→∀v,s2 w0 γ w d v→s1 w0 γ w d v
 | .g _,_,_,h=>h
 | .k _,_,_,h=>h
 | .ow _ _,_,_,h=>h
 | .rd _,h,_,_=>by cases h
 | .rz _ _,h,_,_=>by cases h
 | .p _ _,h,_,_=>by cases h
 | .sl _ _ _,h,_,_=>by cases h
 | .f _,h,_,_=>by cases h
 | .t _,h,_,_=>by cases h
theorem res_eq(fn:Func)(tmps:Array Value):results fn tmps=(do let vs ←fn.results.mapM (Y1 tmps);pure (if h:vs.size=1 then vs[0]else .tuple vs)):=by
 unfold results;congr 1
theorem Ey{fn:Func}{tmps:Array Value}{vs:List Value}(h:(fn.results.toList.mapM (Y1 tmps)).run P w= .ok vs w):(results fn tmps).run P w= .ok (if h:vs.toArray.size=1 then vs.toArray[0]else .tuple vs.toArray) w:=by
 rw[res_eq];simp only[Array.mapM_eq_mapM_toList,Sem.run_bind,Sem.run_map,h,Sem.run_pure,Result.andThen_ok]
theorem kW{fn:Func}{d:Δ}{r:ResultVar}(ts:List Nat)(S:PS w0 N c E Bx γ a w)(hr:fn.results.toList=[r])(hE:rvO E Bx r (d.tg ts))(hB:rvB Tryz.prog r (d.tg ts)=true:=by kernel_rfl)(hn:d.n2 ts.length=true:=by rfl)(hd:FO ts=true:=by rfl):bodyPost Tryz.prog fn (Ans w0 d) .ret a w:=by
 obtain⟨v,h1,h2⟩:=Ew S hE hB;have:(fn.results.toList.mapM (Y1 a.tmps)).run Tryz.prog w= .ok [v] w:=by rw[hr];simp only[List.mapM_cons,List.mapM_nil,Sem.run_bind,Sem.run_pure,h1,Result.andThen_ok]
 exact⟨S.df,v,by rw[Ey this];rfl,Ans.mk' ts S.W h2 hn hd⟩
theorem iH{fn:Func}{ds es:List Δ}{rs:List ResultVar}(ts:List Nat)(S:PS w0 N c E Bx γ a w)(hr:fn.results.toList=rs)(hes:ds.map (Δ.tg1 ts)=es)(hE:rvL E Bx rs es)(hB:XJ Tryz.prog rs es=true:=by kernel_rfl)(hl:Nat.beq ds.length 1=false:=by rfl)(hn:ds.all (Δ.n1 ts.length)=true:=by rfl)(hm:(es.all fun d=>d.n1 (4*c))=true:=by rfl)(hd:FO ts=true:=by rfl):bodyPost Tryz.prog fn (Ans w0 (.t ds)) .ret a w:=by
 obtain⟨vs,h1,h2,h3,_⟩:=KY S (fun d h=>n1_s1 h) hE hB;have hne:¬vs.toArray.size=1:=fun e=>by
  have:ds.length=1:=by rw[←hes]at h2;simp at h2 e;omega
  rw[this]at hl;cases hl
 refine⟨S.df,.tuple vs.toArray,by rw[←hr]at h1;rw[Ey h1,dif_neg hne],Ans.mk' ts S.W ⟨vs,rfl,?_⟩ hn hd⟩;rw[hes];exact h3 hm
end
section
abbrev iD(s:Bool)(a:List Nat):Δ:= .g [.k (.bool s),.rd a]
abbrev iO(z:Int)(t:Nat):Δ:= .g [.k (.bool (decide (z<0))),.ow (dg B z.natAbs) t]
abbrev qO(z:Int)(d t u:Nat):Δ:= .g [.k (.bool (decide (z<0))),.ow (dg B z.natAbs) t,.ow (dg B d) u]
abbrev e0:Δ:= .k (.int .i64 0)
theorem EN{w:World}{a:List Nat}{v:Value}(h:s1 w g0 w (.rd a) v):Rep0 w (fun q=>q<w.heap.size) v (.l 1 (W a)):=by
 obtain⟨H,h1,h2⟩:=h;exact h2.mono (fun q hq=>(h1 q hq).1) fun _ _=>rfl
theorem a_i{w:World}{s:Bool}{a:List Nat}{v:Value}(h:s1 w g0 w (iD s a) v):IA w (fun q=>q<w.heap.size) v s a:=by
 obtain⟨xs,e,h⟩:=h;match xs,h with
 |[x,y],h=>
  have e1:x= .bool s:=h.1;subst e1;exact⟨y,e,EN h.2.1⟩
def k1(u:Value):Nat→Option (Option Nat):=fun t=>if t=0 then some u.ownBlock else none
def k2(u v:Value):Nat→Option (Option Nat):=fun t=>if t=0 then some u.ownBlock else if t=1 then some v.ownBlock else none
theorem Tz{w w':World}{A:List Nat}{u:Value}(h:Own w A u w'):∀t q,k1 u t=some (some q)→w.heap.size≤q∧q<w'.heap.size:=fun t q hq=>by
 unfold k1 at hq;split at hq
 ·obtain⟨m,_,ho⟩:=h;exact ho.lt q (Option.some.inj hq)
 ·cases hq
theorem TA{u:Value}:∀t t' q,k1 u t=some (some q)→k1 u t'=some (some q)→t=t':=fun t t' q h1 h2=>by
 unfold k1 at h1 h2;split at h1<;>split at h2
 ·omega
 ·cases h2
 ·cases h1
 ·cases h1
theorem n_newP{f:FuncId}{args:List V}{z:Int}{w:World}{vs:List Value}(c:ah Tryz.prog J0 f args (zN z))(hr:aj w (fun _=>False) vs args):Calls Tryz.prog f vs.toArray w (fun e w1=>∃v,e= .returned v∧Below w.heap.size w w1∧IA w1 (fun q=>w.heap.size≤q∧q<w1.heap.size) v (decide (z<0)) (dg B z.natAbs)):=by
 refine((c.Vf rfl) w _ vs trivial (NI _ _) (fun _ h=>h.elim) hr).mono ?_;rintro e w' ⟨v,rfl,hB,N,hN,h⟩;rcases h with h|⟨e,sz,cs,n,xs,he,_⟩|⟨r,h,_⟩
 ·obtain⟨vs,rfl,hv⟩:=(Rep.up (ov:=fun _=>none) h).B_;match vs,hv with
  |[],hv=>exact absurd hv.1 sy
  |[_],hv=>exact absurd hv.1 sy
  |_::_::_::_,hv=>exact absurd hv.1 sy
  |[p,q],hv=>
   have h1:=hv.2 0 p _ rfl rfl;have h2:=hv.2 1 q _ rfl rfl;have e1:=(Rep.up (ov:=fun _=>none) h1).lK;subst e1;exact⟨_,rfl,hB,q,rfl,h2.mono (fun q hq=>hq.elim (fun h=>h.elim) (fun h=>hN q h)) fun _ _=>rfl⟩
 ·cases he
 ·cases h
theorem Oa{w:World}:Calls Tryz.prog 38 #[.int .i64 1] w (fun e w2=>∃v,e= .returned v∧Below w.heap.size w w2∧IA w2 (fun q=>w.heap.size≤q∧q<w2.heap.size) v false (dg B 1)):=
 n_newP (vs:=[.int .i64 1]) (z:=1) (tY 1 dc dc) (EM (.i _ _))
variable {f:FuncId} {ds:List Δ} {A A2:List Nat} {sg:Bool} {e:Int} {y:Value}
theorem uZ(h:∀w vs,Jw w→l1 w g0 w ds vs→Calls Tryz.prog f vs.toArray w (uV w A)):Fn f ds (.ow A 0):=⟨fun w vs hj ha=>(h w vs hj ha).mono fun e w' ⟨u,n,e1,b,o,m⟩=>
 ⟨k1 u,u,e1,b,Tz ⟨n,m,o⟩,TA,⟨n,m,o⟩,rfl⟩⟩
theorem Ez(h:∀w vs,Jw w→l1 w g0 w ds vs→Calls Tryz.prog f vs.toArray w (Gx w A y)):Fn f ds (.t [.ow A 0,.k y]):=⟨fun w vs hj ha=>(h w vs hj ha).mono fun e w' ⟨u,n,e1,b,o,m⟩=>
 ⟨k1 u,_,e1,b,Tz ⟨n,m,o⟩,TA,[u,y],rfl,⟨⟨n,m,o⟩,rfl⟩,rfl,trivial⟩⟩
theorem XK(h:∀w vs,Jw w→l1 w g0 w ds vs→Calls Tryz.prog f vs.toArray w (NY w sg A e)):Fn f ds (.t [.g [.k (.bool sg),.ow A 0],.k (.int .i64 e)]):=⟨fun w vs hj ha=>(h w vs hj ha).mono fun _ w' ⟨v,e1,b,u,e2,o⟩=>
 ⟨k1 u,_,e1,b,Tz o,TA,[v,.int .i64 e],rfl,⟨[.bool sg,u],e2,rfl,⟨o,rfl⟩,trivial⟩,rfl,trivial⟩⟩
theorem fn_k(h:∀w vs,Jw w→l1 w g0 w ds vs→Calls Tryz.prog f vs.toArray w (fun e w'=>e= .returned y∧Below w.heap.size w w')):Fn f ds (.k y):=⟨fun w vs hj ha=>(h w vs hj ha).mono fun e w' ⟨e1,b⟩=>
 ⟨fun _=>none,y,e1,b,fun _ _ h=>(by cases h),fun _ _ _ h=>(by cases h),rfl⟩⟩
theorem JD:Fn 38 [.k (.int .i64 1)] (iD false (dg B 1)):=⟨fun w vs _ h=>match vs,h with
 |[v],h=>by
  have e:v= .int .i64 1:=h.1;subst e;refine(Oa (w:=w)).mono ?_;rintro e w2 ⟨v,rfl,b,x,rfl,hr⟩;exact⟨fun _=>none,_,rfl,b,fun _ _ h=>(by cases h),fun _ _ _ h=>(by cases h),[.bool false,x],rfl,rfl,⟨_,fun q hq=>⟨hq.2,fun i hi=>by
   replace hi:(if i<w.heap.size then some i else none)=some q:=hi;split at hi
   ·cases hi;have:=hq.1;omega
   ·cases hi⟩,hr⟩,trivial⟩⟩
variable {s t:Bool} {a b:List Nat} {x z:Int} {m:Nat}
section
variable (hx:zv s a=x) (ha:Wd a) (la:a.length≤100000000)
include hx ha la
theorem f_shr{k:Nat}(hk:k≤127):Fn 42 [iD s a,.k (.int .i64 (k:Int))] (.t [iO (x.fdiv (2^k)) 0,e0]):=XK fun w vs hj h=>match vs,h with
 |[u,v],h=>by
  have e:v= .int .i64 (k:Int):=h.2.1;subst e;have:=Tf hj.1 (fun q h=>h) (a_i h.1) ha la hk;rw[hx]at this;exact this
variable (hz:zv t b=z) (hb:Wd b) (lb:b.length≤100000000)
include hz hb lb
theorem Y2:Fn 43 [iD s a,iD t b] (.k (.int .i64 (cz x z))):=fn_k fun w vs _ h=>match vs,h with
 |[u,v],h=>by
  have:=A8 (vs:=[u,v]) (tZ s t a b ha hb om om) (fun q h=>h) (NQ (a_i h.1).rep (a_i h.2.1).rep);rw[hx,hz]at this;exact this
end
section
variable (ha:Wd a) (la:a.length≤100000000)
include ha la
theorem JE:Fn 82 [.rd a] (.k (.int .i64 ((bl (nv B a):Nat):Int))):=fn_k fun w vs _ h=>match vs,h with
 |[u],h=>A8 (vs:=[u]) (qH a ha om) (fun q h=>h) (EM (EN h.1))
variable (hb:Wd b) (lb:b.length≤100000000)
include hb lb
variable {u v:Nat} (hu:nv B a=u) (hv:nv B b=v)
include hu hv
theorem f_gcd:Fn 108 [.rd a,.rd b] (.ow (dg B (Nat.gcd u v)) 0):=uZ fun w vs _ h=>match vs,h with
 |[x,y],h=>by rw[←hu,←hv];exact Tc (fun q h=>h) (EN h.1) (EN h.2.1) ha hb (m:=100000000) om la lb
theorem Y3(hd:v∣u)(h0:v≠0):Fn 109 [.rd a,.rd b] (.t [.ow (dg B (u/v)) 0,e0]):=by
 have hm:u%v=0:=Nat.mod_eq_zero_of_dvd hd;have e1:exQ u v=dg B (u/v):=by unfold exQ;simp[hm,h0]
 have e2:exE u v=0:=by unfold exE;simp[hm,h0]
 exact Ez fun w vs _ h=>match vs,h with
  |[x,y],h=>by
   have:=NV (fun q h=>h) (EN h.1) (EN h.2.1) ha hb om om;rw[hu,hv,e1,e2]at this;exact this
theorem TB:Fn 112 [.rd a,.rd b] (.ow (dg B (u*v)) 0):=uZ fun w vs _ h=>match vs,h with
 |[x,y],h=>by rw[←hu,←hv];exact pO (vs:=[x,y]) (XL a b ha hb la lb) (fun q h=>h) (NQ (EN h.1) (EN h.2.1))
end
theorem f_nof{n:Nat}(hn:n<18446744073709551616):Fn 72 [.k (.int .u64 (n:Int))] (.ow (dg B n) 0):=uZ fun w vs _ h=>match vs,h with
 |[u],h=>by
  have e:u= .int .u64 (n:Int):=h.1;subst e;exact pO (vs:=[.int .u64 (n:Int)]) (H:=fun _=>False) (nH n hn) (fun _ h=>h.elim) (EM (.i _ _))
end
section
variable {w0 w:World} {N i c:Nat} {R:Nat→Option Δ} {Bx:Bs} {dst:Option Tmp} {x:Operand} {t:TypeId} {p:String} {e:Array Edge} {gd:Option (Nat×Bool)} {j k:Nat} {bt:TypeId} {ds:List Δ} {d:Δ}
theorem ld_i(h:bI R x (.p j k))(hb:lk Bx j=some (bt,ds))(hn:Nat.ble (k+2) ds.length=true):Ok Tryz.prog w0 N ⟨dst,.load 25 x,t,p,e,gd⟩ i R Bx (.g ((ds.drop k).take 2)) none:=Ti h hb kf kf (Nat.le_of_ble_eq_true hn)
theorem BJ(h:bI R x (.p j k))(hb:lk Bx j=some (bt,ds))(hn:Nat.ble (k+3) ds.length=true):Ok Tryz.prog w0 N ⟨dst,.load 29 x,t,p,e,gd⟩ i R Bx (.g ((ds.drop k).take 3)) none:=Ti h hb kf kf (Nat.le_of_ble_eq_true hn)
theorem TC(h:bI R x (.p j k))(hb:lk Bx j=some (bt,ds))(hn:Nat.ble (k+4) ds.length=true):Ok Tryz.prog w0 N ⟨dst,.load 27 x,t,p,e,gd⟩ i R Bx (.g ((ds.drop k).take 4)) none:=Ti h hb kf kf (Nat.le_of_ble_eq_true hn)
theorem ld_n(h:bI R x (.p j k))(hb:lk Bx j=some (bt,ds))(hd:ds[k]? =some d):Ok Tryz.prog w0 N ⟨dst,.load 23 x,t,p,e,gd⟩ i R Bx d none:=yE h hb kf kf hd
theorem ld_b(h:bI R x (.p j k))(hb:lk Bx j=some (bt,ds))(hd:ds[k]? =some d):Ok Tryz.prog w0 N ⟨dst,.load 4 x,t,p,e,gd⟩ i R Bx d none:=yE h hb kf kf hd
theorem ld_z(h:bI R x (.p j k))(hb:lk Bx j=some (bt,ds))(hd:ds[k]? =some d):Ok Tryz.prog w0 N ⟨dst,.load 3 x,t,p,e,gd⟩ i R Bx d none:=yE h hb kf kf hd
theorem fa_i0(h:bI R x (.p j k)):Ok Tryz.prog w0 N ⟨dst,.fieldAddr 25 x 0,t,p,e,gd⟩ i R Bx (.p j (k+0)) none:=uC h kf
theorem Y4(h:bI R x (.p j k)):Ok Tryz.prog w0 N ⟨dst,.fieldAddr 25 x 1,t,p,e,gd⟩ i R Bx (.p j (k+1)) none:=uC h kf
theorem fa_q0(h:bI R x (.p j k)):Ok Tryz.prog w0 N ⟨dst,.fieldAddr 29 x 0,t,p,e,gd⟩ i R Bx (.p j (k+0)) none:=uC h kf
theorem Y5(h:bI R x (.p j k)):Ok Tryz.prog w0 N ⟨dst,.fieldAddr 29 x 1,t,p,e,gd⟩ i R Bx (.p j (k+2)) none:=uC h kf
theorem fa_c0(h:bI R x (.p j k)):Ok Tryz.prog w0 N ⟨dst,.fieldAddr 27 x 0,t,p,e,gd⟩ i R Bx (.p j (k+0)) none:=uC h kf
theorem fa_c1(h:bI R x (.p j k)):Ok Tryz.prog w0 N ⟨dst,.fieldAddr 27 x 1,t,p,e,gd⟩ i R Bx (.p j (k+2)) none:=uC h kf
theorem fa_c2(h:bI R x (.p j k)):Ok Tryz.prog w0 N ⟨dst,.fieldAddr 27 x 2,t,p,e,gd⟩ i R Bx (.p j (k+3)) none:=uC h kf
theorem al_i:Ok Tryz.prog w0 N ⟨dst,.alloc 25,t,p,e,gd⟩ i R Bx (.p i 0) (some (25,[.k (.bool false),.k (.slice none 0 0)])):=Tn (z:= .agg #[.bool false,.slice none 0 0]) kf
theorem al_q:Ok Tryz.prog w0 N ⟨dst,.alloc 29,t,p,e,gd⟩ i R Bx (.p i 0) (some (29,[.k (.bool false),.k (.slice none 0 0),.k (.slice none 0 0)])):=Tn (z:= .agg #[.bool false,.slice none 0 0,.slice none 0 0]) kf
theorem al_c:Ok Tryz.prog w0 N ⟨dst,.alloc 27,t,p,e,gd⟩ i R Bx (.p i 0) (some (27,[.k (.bool false),.k (.slice none 0 0),.k (.int .i64 0),.k (.bool false)])):=Tn (z:= .agg #[.bool false,.slice none 0 0,.int .i64 0,.bool false]) kf
theorem qV{x1 x2:Operand}{b:Bool}{d1 d2:Δ}(hc:bI R x (.k (.bool b)))(h1:bI R x1 d1)(h2:bI R x2 d2):Ok Tryz.prog w0 N ⟨dst,.pick x x1 x2,t,p,e,gd⟩ i R Bx (bif b then d1 else d2) none:=
 mD fun γ w a hR _=>by
  have e1:a.eval x= .bool b:=hc.ev hR;cases b
  ·exact⟨a.eval x2,by simp[execOp,e1,asBool],h2.ev hR⟩
  ·exact⟨a.eval x1,by simp[execOp,e1,asBool],h1.ev hR⟩
theorem yG{E:En}{γ:Gh}{a:Act}{P:Program}{ops:Array Oper}{rest:List Oper}{o:Oper}{Q:Exit→Act→World→Prop}{k j u:Nat}{b want:Bool}{nb:Option (TypeId×List Δ)}(S:PS w0 N c E Bx γ a w)(h:Ok P w0 N o c (lk E) Bx d nb)(hg:o.guard=some (j,want))(hj:(ops[j]?).bind (·.dst)=some u)(hu:lk E u=some (.k (.bool b)))(hb:(b==want)=true)
 (next:∀γ' a' w',PS w0 N (c+1) ((k,d)::E) (nbx c Bx nb) γ' a' w'→wpList P ops Q rest a' w') (hd:o.dst=some k:=by rfl) (hk:Nat.blt k N=true:=by rfl) (hk2:Nat.blt u N=true:=by rfl):wpList P ops Q (o::rest) a w:=by
 have hk':k<a.tmps.size:=by rw[S.sz];exact Nat.blt_eq▸hk
 refine BigFrame.wpList_want ((pU hg hj S.sz (S.env u _ hu) (Nat.blt_eq▸hk2)).trans hb) fun K hK=>?_
 refine h.ok Q γ a w _ K S.sz S.W (Nat.le_refl c) S.env S.box fun γ' v w' hs hb hW hv hn=>hK _ _ (next γ' _ w' ?_)
 rw[hd]
 refine⟨hW.sub fun i hi=>⟨om,om⟩,by show(a.tmps.setIfInBounds k v).size=N;simp[S.sz],S.df,fun t d1 ht=>?_,bx.st S.W hs hb S.box hn⟩
 rcases aG ht with ⟨rfl,rfl⟩|⟨hne,ht⟩
 ·rw[put_eq hk'];exact hv
 ·rw[gG hne];exact s2.up S.W hs (S.env t d1 ht)
theorem ps_on{E:En}{γ:Gh}{a:Act}{P:Program}{ops:Array Oper}{rest:List Oper}{o:Oper}{Q:Exit→Act→World→Prop}{k j u:Nat}{b want:Bool}(S:PS w0 N c E Bx γ a w)(hg:o.guard=some (j,want))(hj:(ops[j]?).bind (·.dst)=some u)(hu:lk E u=some (.k (.bool b)))(hb:(b==want)=false)
 (next:∀γ' a' w',PS w0 N (c+1) ((k,.k undef)::E) Bx γ' a' w'→wpList P ops Q rest a' w') (hd:o.dst=some k:=by rfl) (hk:Nat.blt k N=true:=by rfl) (hk2:Nat.blt u N=true:=by rfl):wpList P ops Q (o::rest) a w:=by
 have hk':k<a.tmps.size:=by rw[S.sz];exact Nat.blt_eq▸hk
 unfold wpList
 rw[if_neg (by rw[pU hg hj S.sz (S.env u _ hu) (Nat.blt_eq▸hk2),hb];decide)]
 refine next γ _ w ?_
 rw[hd]
 refine⟨S.W.sub fun i hi=>om,by show(a.tmps.setIfInBounds k undef).size=N;simp[S.sz],S.df,fun t d1 ht=>?_,S.box⟩
 rcases aG ht with ⟨rfl,rfl⟩|⟨hne,ht⟩
 ·rw[put_eq hk'];exact rfl
 ·rw[gG hne];exact S.env t d1 ht
theorem aK{E:En}{γ:Gh}{a:Act}{P:Program}{Q:Exit→Act→World→Prop}{b:Bool}{u:Nat}{c1 c2:Code}(S:PS w0 N c E Bx γ a w)(h:lk E u=some (.k (.bool b)))(hb:b=false)(k:c2.wp P Q a w):(Code.cond (.tmp u) c1 c2).wp P Q a w:=
 wp_cond_false (by rw[ak];exact(S.env u _ h:_=_).trans (by rw[hb])) k
theorem aW{E:En}{γ:Gh}{a:Act}{P:Program}{Q:Exit→Act→World→Prop}{b:Bool}{u:Nat}{c1 c2:Code}(S:PS w0 N c E Bx γ a w)(h:lk E u=some (.k (.bool b)))(hb:b=true)(k:c1.wp P Q a w):(Code.cond (.tmp u) c1 c2).wp P Q a w:=
 wp_cond_true (by rw[ak];exact(S.env u _ h:_=_).trans (by rw[hb])) k
theorem ngk{k:Nat}(h:k≤1048577):IntKind.i64.wrap (0- -(k:Int))=(k:Int):=by rw[IntKind.wrap_i64];omega
theorem ngk'{k:Nat}(h:k≤1048577):IntKind.i64.wrap (0-(k:Int))= -(k:Int):=by rw[IntKind.wrap_i64];omega
theorem sbk{x y:Nat}(h:y≤x)(hx:x≤1048577):IntKind.i64.wrap ((x:Int)-(y:Int))=((x-y:Nat):Int):=by rw[IntKind.wrap_i64];omega
theorem sbk1{x:Nat}(h:1≤x)(hx:x≤1048577):IntKind.i64.wrap ((x:Int)-1)=((x-1:Nat):Int):=by rw[IntKind.wrap_i64];omega
theorem adk1{x:Nat}(hx:x≤1048577):IntKind.i64.wrap ((x:Int)+1)=((x+1:Nat):Int):=by rw[IntKind.wrap_i64];omega
theorem px{p:Prop}(h:p:=by first
 |exact kU rfl|exact GI rfl|exact Tm rfl rfl|exact ok_bx rfl
 |exact fa_q0 rfl|exact Y5 rfl|exact fa_i0 rfl|exact Y4 rfl|exact fa_c0 rfl|exact fa_c1 rfl|exact fa_c2 rfl
 |exact ld_i rfl rfl rfl|exact BJ rfl rfl rfl|exact TC rfl rfl rfl|exact ld_n rfl rfl rfl|exact ld_b rfl rfl rfl|exact ld_z rfl rfl rfl
 |exact al_i|exact al_q|exact al_c
 |exact ok_bq rfl rfl rfl rfl|exact ok_bi2 rfl rfl rfl|exact ok_bc rfl rfl rfl rfl|exact ok_bc2 rfl rfl rfl|exact ok_bc1 rfl
 |exact uD rfl rfl rfl (congrArg Value.bool (decide_eq_false om))|exact uD rfl rfl rfl (congrArg Value.bool (decide_eq_true om))|exact uD rfl rfl rfl (congrArg (Value.int .i64) (sbk om om))|exact uD rfl rfl rfl (congrArg (Value.int .i64) (sbk1 om om))|exact uD rfl rfl rfl (congrArg (Value.int .i64) (adk1 om))|exact uD rfl rfl rfl rfl|exact Tj rfl (congrArg (Value.int .i64) (ngk om))|exact Tj rfl (congrArg (Value.int .i64) (ngk' om))|exact sO rfl|exact Tj rfl rfl|exact qV rfl rfl rfl|exact ok_sa rfl rfl kf|exact ok_be rfl rfl rfl|exact ok_bn rfl rfl rfl|exact YZ (b:=true) rfl rfl kf|exact YZ (b:=false) rfl rfl kf):p:=h
theorem pc{f:FuncId}{ds es:List Δ}{d:Δ}{args:Array Operand}{BC:Array TypeId}(hF:Fn f es d)(hx:KX R args.toList=some ds:=by exact rfl)(he:ds.map Δ.wk=es:=by rfl)(ha:ds.all Δ.a1=true:=by rfl)(hd:d.r2=true:=by rfl)(hf:Oz Tryz.prog f=true:=by kernel_rfl):Ok Tryz.prog w0 N ⟨dst,.call ⟨.value (.func f),args,BC⟩,t,p,e,gd⟩ i R Bx (d.rn i) none:=ok_ca hf hx ha (he▸hF) hd
section
variable {P:Program} {E E':En} {Bx':Bs} {c':Nat} {γ:Gh} {a:Act} {ops:Array Oper} {rest:List Oper} {o:Oper} {Q:Exit→Act→World→Prop} {u:Nat} {b want:Bool} {nb:Option (TypeId×List Δ)}
structure Stp(P:Program)(w0:World)(N c:Nat)(E:En)(Bx:Bs)(ops:Array Oper)(o:Oper)(c':Nat)(E':En)(Bx':Bs):Prop where
 st:∀(rest:List Oper) (Q:Exit→Act→World→Prop) (γ:Gh) (a:Act) (w:World),PS w0 N c E Bx γ a w→(∀γ' a' w',PS w0 N c' E' Bx' γ' a' w'→wpList P ops Q rest a' w')→wpList P ops Q (o::rest) a w
theorem XM(S:PS w0 N c E Bx γ a w)(h:Stp P w0 N c E Bx ops o c' E' Bx')(k:∀γ' a' w',PS w0 N c' E' Bx' γ' a' w'→wpList P ops Q rest a' w'):wpList P ops Q (o::rest) a w:=h.st rest Q γ a w S k
theorem GK(h:Ok P w0 N o c (lk E) Bx d nb)(hg:o.guard=none:=by rfl)(hd:o.dst=some k:=by rfl)(hk:Nat.blt k N=true:=by rfl):Stp P w0 N c E Bx ops o (c+1) ((k,d)::E) (nbx c Bx nb):=⟨fun _ _ _ _ _ S kk=>ax S h kk hg hd hk⟩
theorem KZ(h:Ok P w0 N o c (lk E) Bx d nb)(hg:o.guard=some (j,want))(hj:(ops[j]?).bind (·.dst)=some u)(hu:lk E u=some (.k (.bool b)))(hb:(b==want)=true)(hd:o.dst=some k:=by rfl)(hk:Nat.blt k N=true:=by rfl)(hk2:Nat.blt u N=true:=by rfl):Stp P w0 N c E Bx ops o (c+1) ((k,d)::E) (nbx c Bx nb):=⟨fun _ _ _ _ _ S kk=>yG S h hg hj hu hb kk hd hk hk2⟩
theorem K_(hg:o.guard=some (j,want))(hj:(ops[j]?).bind (·.dst)=some u)(hu:lk E u=some (.k (.bool b)))(hb:(b==want)=false)(hd:o.dst=some k:=by rfl)(hk:Nat.blt k N=true:=by rfl)(hk2:Nat.blt u N=true:=by rfl):Stp P w0 N c E Bx ops o (c+1) ((k,.k undef)::E) Bx:=⟨fun _ _ _ _ _ S kk=>ps_on S hg hj hu hb kk hd hk hk2⟩
theorem TD{j:Nat}{dst:Option Tmp}{ty t bt:TypeId}{x y:Operand}{p:String}{e:Array Edge}{ds es:List Δ}(hx:bI (lk E) x (.p j 0))(hb:lk Bx j=some (bt,ds))(hy:bI (lk E) y (.g es))(hi:(P.info? ty).map (·.size)=some es.length)(hl:ds.length=es.length)(h1:es.all Δ.c1=true)(hd:dst=none):Stp P w0 N c E Bx ops ⟨dst,.store ty x y,t,p,e,none⟩ c E ((j,bt,es)::Bx):=⟨fun _ _ γ _ _ S kk=>Dc S hx hb hy hi hl h1 hd fun a' w' S'=>kk γ a' w' S'⟩
theorem wsr{id:Nat}{l:List Oper}{c2:Code}(h:wpList P l.toArray (Exit.then (c2.wp P Q) Q) l a w):(Code.seq (.region id l.toArray false) c2).wp P Q a w:=wp_seq (wp_region_lit h)
theorem wsq{id:Nat}{l:List Oper}{c2 c3:Code}(h:wpList P l.toArray (Exit.then (c2.wp P (Exit.then (c3.wp P Q) Q)) (Exit.then (c3.wp P Q) Q)) l a w):(Code.seq (.seq (.region id l.toArray false) c2) c3).wp P Q a w:=wp_seq (wp_seq (wp_region_lit h))
end
theorem goP{p:Prop}(h:p:=by first|exact GK px|exact KZ px rfl rfl rfl rfl|exact K_ rfl rfl rfl rfl|exact TD rfl rfl rfl kf rfl rfl rfl):p:=h
theorem bK{p q:Prop}(k:q)(h:PLift q→p:=by
 intro hq;(repeat (first|(show wpList _ _ _ (_::_) _ _;refine XM S goP ?_;intro x1 x2 x3 S)|refine wsr ?_|refine wsq ?_|refine b_ ?_));first|(revert x1 x2 x3;exact hq.down)|exact hq.down):p:=h ⟨k⟩
end
section
def kV:Value→V
 | .bool b=> .b b
 | .int q n=> .i q n
 | .slice none 0 0=> .l 1 []
 |v=> .c v
theorem JF{w:World}{H:Nat→Prop}(v:Value):Rep0 w H v (kV v):=by
 unfold kV;split
 ·exact .b _
 ·exact .i _ _
 ·exact .l none 0 0 1 [] (fun _=>undef) 0 0 dc rfl (Nat.zero_le _) (Nat.le_refl _) (.inl rfl) (fun j hj=>absurd hj (Nat.not_lt_zero j)) (fun j x hx=>by simp at hx)
 ·exact .c _
def Δ.v0:Δ→V
 | .k v=>kV v
 | .ow A _| .rd A=> .l 1 (W A)
 | .rz _ A=> .l 1 (W A)
 |_=> .any
def Δ.v1:Δ→V
 | .g ds=> .g (ds.map Δ.v0)
 |d=>d.v0
def Δ.v2:Δ→V
 | .t ds=> .t (ds.map Δ.v1)
 |d=>d.v1
variable {w0 w w':World} {γ:Gh} {N i:Nat} {R:Nat→Option Δ} {Bx:Bs} {F:Nat→Prop}
def Hn(γ:Gh)(w:World)(q:Nat):Prop:=q<w.heap.size∧∀i,γ.β i≠some q
theorem s0.v(hW:Wi w0 γ w F):∀{d:Δ} {x:Value},s0 w0 γ w d x→Rep0 w (Hn γ w) x d.v0
 | .k v,x,h=>by
   have e:x=v:=h;subst e;exact JF _
 | .ow A t,x,⟨⟨m,hm,ho⟩,hk⟩=>CX (H:=Hn γ w) Nat.one_pos ho (D_ A) hm fun q hq=>by
    have:=hW.kn t q (by rw[hk,hq]);exact⟨this.2.1,this.2.2⟩
 | .rd A,x,⟨H,h1,h2⟩=>h2.mono h1 fun _ _=>rfl
 | .rz Z A,x,⟨H,h1,h2⟩=>h2.mono (fun q h=>(h1 q h).1) fun _ _=>rfl
 | .p _ _,x,_=> .any _
 | .sl _ _ _,x,_=> .any _
 | .f _,x,_=> .any _
 | .g _,_,h=>h.elim
 | .t _,_,h=>h.elim
theorem l0.v(hW:Wi w0 γ w F):∀{ds:List Δ} {xs:List Value},l0 w0 γ w ds xs→aj w (Hn γ w) xs (ds.map Δ.v0)
 |[],[],_=>⟨rfl,fun j v x h=>by simp at h⟩
 |d::ds,x::xs,h=>by
  have ih:=l0.v hW h.2;refine⟨by simpa using ih.1,fun j v y h1 h2=>?_⟩;cases j with
  |zero=>simp at h1 h2;subst h1;subst h2;exact s0.v hW h.1
  |succ j=>exact ih.2 j v y (by simpa using h1) (by simpa using h2)
 |[],_::_,h=>h.elim
 |_::_,[],h=>h.elim
def Δ.nt:Δ→Bool
 | .t _=>false
 |_=>true
theorem s2.v(hW:Wi w0 γ w F):∀{d:Δ} {x:Value},s2 w0 γ w d x→d.nt=true→Rep0 w (Hn γ w) x d.v1
 | .g _,_,⟨xs,e,h⟩,_=>by subst e;exact .g xs _ (l0.v hW h).1 (l0.v hW h).2
 | .k _,_,h,_=>s0.v hW (d:= .k _) h
 | .ow _ _,_,h,_=>s0.v hW (d:= .ow _ _) h
 | .rd _,_,h,_=>s0.v hW (d:= .rd _) h
 | .rz _ _,_,h,_=>s0.v hW (d:= .rz _ _) h
 | .p _ _,_,h,_=>s0.v hW (d:= .p _ _) h
 | .sl _ _ _,_,h,_=>s0.v hW (d:= .sl _ _ _) h
 | .f _,_,h,_=>s0.v hW (d:= .f _) h
 | .t _,_,_,h=>by cases h
theorem KX.v{a:Act}(hW:Wi w0 γ w F)(hR:∀t d,R t=some d→s2 w0 γ w d (a.tmps.getD t undef)):∀{xs:List Operand} {ds:List Δ},KX R xs=some ds→ds.all Δ.nt=true→aj w (Hn γ w) (xs.map a.eval) (ds.map Δ.v1)
 |[],ds,h,_=>by cases h;exact⟨rfl,fun j v x h=>by simp at h⟩
 |x::xs,ds,h,ha=>by
  unfold KX at h;split at h
  ·rename_i d ds' h1 h2;cases h;simp only[List.all_cons,Bool.and_eq_true]at ha;have ih:=KX.v hW hR h2 ha.2;refine⟨by simpa using ih.1,fun j v y h3 h4=>?_⟩;cases j with
   |zero=>simp at h3 h4;subst h3;subst h4;exact s2.v hW ((rd1.bI h1).ev hR) ha.1
   |succ j=>exact ih.2 j v y (by simpa using h3) (by simpa using h4)
  ·cases h
def Δ.q0:Δ→Bool
 | .k (.bool _)| .k (.int _ _)| .rd _=>true
 |_=>false
def Δ.q1:Δ→Bool
 | .g ds=>ds.all Δ.q0
 |d=>d.q0
def Δ.q2:Δ→Bool
 | .t ds=>ds.all Δ.q1
 |d=>d.q1
theorem TE{H:Nat→Prop}(hH:∀q,H q→q<w.heap.size∧∀i,γ.β i≠some q){d:Δ}{x:Value}(h:Rep0 w H x d.v0)(hq:d.q0=true):s0 w0 γ w d x:=by
 unfold Δ.q0 at hq;split at hq
 ·exact(Rep.up (ov:=fun _=>none) h).lK
 ·exact(Rep.up (ov:=fun _=>none) h).bP
 ·exact⟨H,hH,h⟩
 ·cases hq
theorem v0_l{H:Nat→Prop}(hH:∀q,H q→q<w.heap.size∧∀i,γ.β i≠some q):∀{ds:List Δ} {xs:List Value},aj w H xs (ds.map Δ.v0)→ds.all Δ.q0=true→l0 w0 γ w ds xs
 |[],[],_,_=>trivial
 |d::ds,x::xs,h,hq=>by
  simp only[List.all_cons,Bool.and_eq_true]at hq;exact⟨TE (w0:=w0) hH (h.2 0 x _ rfl rfl) hq.1,v0_l hH ⟨by simpa using h.1,fun j v y h1 h2=>h.2 (j+1) v y (by simpa using h1) (by simpa using h2)⟩ hq.2⟩
 |[],_::_,h,_=>absurd h.1 sy
 |_::_,[],h,_=>absurd h.1 sy
theorem v1_s{H:Nat→Prop}(hH:∀q,H q→q<w.heap.size∧∀i,γ.β i≠some q):∀{d:Δ} {x:Value},Rep0 w H x d.v1→d.q1=true→s1 w0 γ w d x
 | .g ds,x,h,hq=>by
   obtain⟨vs,e,hv⟩:=(Rep.up (ov:=fun _=>none) h).B_;exact⟨vs,e,v0_l (w0:=w0) hH ⟨hv.1,hv.2⟩ hq⟩
 | .k v,x,h,hq=>TE (w0:=w0) (d:= .k v) hH h hq
 | .rd A,x,h,hq=>TE (w0:=w0) (d:= .rd A) hH h hq
 | .ow _ _,_,_,h=>by cases h
 | .p _ _,_,_,h=>by cases h
 | .rz _ _,_,_,h=>by cases h
 | .sl _ _ _,_,_,h=>by cases h
 | .f _,_,_,h=>by cases h
 | .t _,_,_,h=>by cases h
theorem v1_l{H:Nat→Prop}(hH:∀q,H q→q<w.heap.size∧∀i,γ.β i≠some q):∀{ds:List Δ} {xs:List Value},aj w H xs (ds.map Δ.v1)→ds.all Δ.q1=true→l1 w0 γ w ds xs
 |[],[],_,_=>trivial
 |d::ds,x::xs,h,hq=>by
  simp only[List.all_cons,Bool.and_eq_true]at hq;exact⟨v1_s (w0:=w0) hH (h.2 0 x _ rfl rfl) hq.1,v1_l hH ⟨by simpa using h.1,fun j v y h1 h2=>h.2 (j+1) v y (by simpa using h1) (by simpa using h2)⟩ hq.2⟩
 |[],_::_,h,_=>absurd h.1 sy
 |_::_,[],h,_=>absurd h.1 sy
theorem v2_s{H:Nat→Prop}(hH:∀q,H q→q<w.heap.size∧∀i,γ.β i≠some q):∀{d:Δ} {x:Value},Rep0 w H x d.v2→d.q2=true→s2 w0 γ w d x
 | .t ds,x,h,hq=>by
   obtain⟨vs,e,hv⟩:=(Rep.up (ov:=fun _=>none) h).O6;exact⟨vs,e,v1_l (w0:=w0) hH ⟨hv.1,hv.2⟩ hq⟩
 | .g ds,x,h,hq=>v1_s (w0:=w0) (d:= .g ds) hH h hq
 | .k v,x,h,hq=>TE (w0:=w0) (d:= .k v) hH h hq
 | .rd A,x,h,hq=>TE (w0:=w0) (d:= .rd A) hH h hq
 | .ow _ _,_,_,h=>by cases h
 | .p _ _,_,_,h=>by cases h
 | .rz _ _,_,_,h=>by cases h
 | .sl _ _ _,_,_,h=>by cases h
 | .f _,_,_,h=>by cases h
def V.nof:V→Bool
 | .o _ _ _=>false
 | .fr _=>false
 |_=>true
theorem kX{a:Act}{w:World}{dst:Option Tmp}{f:FuncId}{args:Array Operand}{BC:Array TypeId}{t:TypeId}{p:String}{e:Array Edge}{gd:Option (Nat×Bool)}(hf:Oz Tryz.prog f=true):(execOp a.eval (⟨dst,.call ⟨.value (.func f),args,BC⟩,t,p,e,gd⟩:Oper)).run Tryz.prog w= .ok (.enter f (args.toList.map a.eval).toArray) w:=by
 unfold Oz at hf;split at hf
 ·rename_i fn hfn;simp only[Bool.and_eq_true,Bool.not_eq_true']at hf;have hn:fn.name≠ "runtime.NumGoroutine" :=by simpa using hf.1
  have hb:¬(fn.body=none):=by intro e;rw[e]at hf;cases hf.2
  have qo:(args.toList.map a.eval).toArray=args.map a.eval:=by apply Array.ext';simp
  rw[qo];simp[execOp,resolve,Deferred.ofValue,invoke,callFunc,hfn,hn,hb,show a.eval (.func f)= .func (.func f) #[] #[]from rfl]
 ·cases hf
theorem pf{dst:Option Tmp}{f:FuncId}{args:Array Operand}{BC:Array TypeId}{t:TypeId}{p:String}{e:Array Edge}{gd:Option (Nat×Bool)}{ds:List Δ}{d:Δ}{vs:List V}{r:V}(c:ah Tryz.prog J0 f vs r)(hx:KX R args.toList=some ds:=by exact rfl)(hv:ds.map Δ.v1=vs:=by rfl)(hr:d.v2=r:=by rfl)(ha:ds.all Δ.nt=true:=by rfl)(hq:d.q2=true:=by rfl)(hm:r.Aa=false:=by rfl)(hn:V.nof r=true:=by rfl)(hf:Oz Tryz.prog f=true:=by kernel_rfl):Ok Tryz.prog w0 N ⟨dst,.call ⟨.value (.func f),args,BC⟩,t,p,e,gd⟩ i R Bx d none:=⟨fun Q γ a w F K hz hW Tt hR hB hK=>by
 have hc:=(c.Vf hm) w (Hn γ w) _ trivial (NI _ _) (fun q h=>h.1) (hv▸KX.v hW hR hx ha);unfold Oper.wp;rw[kX hf,Oper.upon_enter];refine hc.mono ?_;rintro e w' ⟨v,rfl,hb,NN,hN,h⟩;rcases h with h|⟨e,sz,cs,n,xs,he,_⟩|⟨r',he,_⟩
 ·have hW':=hW.Ep (below_le hW hb);rw[←hr]at h;exact hK γ v w' (.of hb) hb (hW'.sub fun _ h=>h.1) (v2_s (fun q hq=>by
   rcases hq with hq|hq
   ·exact⟨Nat.lt_of_lt_of_le hq.1 hb.size,hq.2⟩
   ·have:=hN q hq;exact⟨this.2,fun i hi=>by have:=(hW.bn i q hi).2;omega⟩) h hq) fun b h=>by cases h
 ·rw[he]at hn;cases hn
 ·rw[he]at hn;cases hn⟩
theorem yH{dst:Option Tmp}{ty et t:TypeId}{n:Nat}{ps:Array (Nat×Operand)}{p:String}{e:Array Edge}{gd:Option (Nat×Bool)}{ds:List Δ}(h:∀(γ:Gh) (w:World) (a:Act),(∀t d,R t=some d→s2 w0 γ w d (a.tmps.getD t undef))→∃(xs:List Value) (ie:TypeInfo) (z:Value),Tryz.prog.underlying ty=some (.slice et)∧Tryz.prog.info? et=some ie∧ie.zero=some z∧¬n*ie.size>2^24∧¬n*ie.size=0∧Instr.fill (fun i=>some (i*ie.size,ie.size)) ((Array.range (n*ie.size)).map (z.cells[· %z.cells.size]!)) (ps.map fun(i,x)=>(i,a.eval x)).toList=some xs.toArray∧l0 w0 γ w ds xs):Ok Tryz.prog w0 N ⟨dst,.buildSlice ty n ps,t,p,e,gd⟩ i R Bx (.sl i n n) (some (et,ds)):=⟨fun Q γ a w F K hz hW hF hR hB hK=>by
 obtain⟨xs,ie,z,h1,h2,h3,h4,h5,h6,h7⟩:=h γ w a hR;obtain⟨hs,hb,hW'⟩:=Es hW hF (.cells xs.toArray et);refine wp_buildSlice ty et n ps rfl xs.toArray ie z h1 h2 h3 h4 h5 h6 ?_;exact hK _ _ _ hs hb hW' ⟨_,kG _ _ _,rfl⟩ fun b hb'=>by
  cases hb';exact⟨_,xs,kG _ _ _,heap_alloc_new w _,l0.up hW hs h7⟩⟩
theorem sl_rep(hW:Wi w0 γ w F){j n sz:Nat}{bt:TypeId}{ds:List Δ}{x:Value}(h:s2 w0 γ w (.sl j n n) x)(hb:bx w0 γ w j (bt,ds))(hz:0<sz)(hl:ds.length=n*sz)(hn:n≤1000000):Rep0 w (fun q=>q<w.heap.size) x (.l sz (ds.map Δ.v0)):=by
 obtain⟨b,h1,rfl⟩:=h;obtain⟨q,xs,h2,h3,h4⟩:=hb;obtain rfl:b=q:=Option.some.inj (h1.symm.trans h2);have hv:=l0.v hW h4;have hlx:xs.length=ds.length:=h4.len;refine .l _ n n sz _ (fun j=>xs.getD j undef) b 0 hz (by simpa using hl) (by unfold maxLen;omega) (Nat.le_refl _) (.inr ⟨rfl,(hW.bn j b h1).2⟩) (fun k hk=>?_) (fun k y hy=>?_)
 ·have hk':k<xs.length:=by simp at hk;omega
  rw[Nat.zero_add];exact jM h3 (by simp[List.getD,List.getElem?_eq_getElem hk'])
 ·have hk':k<xs.length:=by
   have:=(List.getElem?_eq_some_iff.1 hy).1;simp at this;omega
  exact(hv.2 k (xs.getD k undef) y (by simp[List.getD,List.getElem?_eq_getElem hk']) hy).mono (fun q hq=>hq.1) fun _ _=>rfl
theorem pfs{dst:Option Tmp}{f:FuncId}{s:Nat}{BC:Array TypeId}{t:TypeId}{p:String}{e:Array Edge}{gd:Option (Nat×Bool)}{ds:List Δ}{j n sz:Nat}{bt:TypeId}{vs:List V}{k:IntKind}{z:Int}(c:ah Tryz.prog J0 f [.l sz vs] (.i k z))(hx:R s=some (.sl j n n):=by exact rfl)(hb:lk Bx j=some (bt,ds):=by exact rfl)(hv:ds.map Δ.v0=vs:=by rfl)(hz:Nat.blt 0 sz=true:=by rfl)(hl:ds.length=n*sz:=by rfl)(hn:Nat.ble n 1000000=true:=by rfl)(hf:Oz Tryz.prog f=true:=by kernel_rfl):Ok Tryz.prog w0 N ⟨dst,.call ⟨.value (.func f),#[.tmp s],BC⟩,t,p,e,gd⟩ i R Bx (.k (.int k z)) none:=⟨fun Q γ a w F K _ hW Tt hR hB hK=>by
 have hr:=sl_rep hW (hR s _ hx) (hB j _ hb) (Nat.blt_eq▸hz) hl (Nat.le_of_ble_eq_true hn);rw[hv]at hr;have hc:=A8 (w:=w) (vs:=[a.eval (.tmp s)]) c (fun q h=>h) (EM hr);unfold Oper.wp;rw[kX hf,Oper.upon_enter];refine hc.mono ?_;rintro e w' ⟨rfl,hb⟩;exact hK γ _ w' (.of hb) hb ((hW.Ep (below_le hW hb)).sub fun _ h=>h.1) rfl fun b h=>by cases h⟩
theorem ok_bsq{dst:Option Tmp}{x y:Operand}{ty t:TypeId}{p:String}{e:Array Edge}{gd:Option (Nat×Bool)}{s s':Bool}{d1 d2 d3 d4:Δ}(hx:bI R x (.g [.k (.bool s),d1,d2]))(hy:bI R y (.g [.k (.bool s'),d3,d4]))(h1:d1.w=true)(h2:d2.w=true)(h3:d3.w=true)(h4:d4.w=true)(hu:Tryz.prog.underlying ty=some (.slice 29):=by kernel_rfl):Ok Tryz.prog w0 N ⟨dst,.buildSlice ty 2 #[(0,x),(1,y)],t,p,e,gd⟩ i R Bx (.sl i 2 2) (some (29,[.k (.bool s),d1,d2,.k (.bool s'),d3,d4])):=
 yH fun γ w a hR=>by
  obtain⟨xs,e1,q1⟩:=hx.ev hR;obtain⟨ys,e2,q2⟩:=hy.ev hR;match xs,q1,ys,q2 with
  |[x0,x1,x2],q1,[y0,y1,y2],q2=>
   obtain⟨a1,n1,c1,rfl⟩:=q1.2.1.Tq h1;obtain⟨a2,n2,c2,rfl⟩:=q1.2.2.1.Tq h2;obtain⟨a3,n3,c3,rfl⟩:=q2.2.1.Tq h3;obtain⟨a4,n4,c4,rfl⟩:=q2.2.2.1.Tq h4;have k1:x0= .bool s:=q1.1;have k2:y0= .bool s':=q2.1;subst k1 k2;obtain⟨ie,hie⟩:∃ie,Tryz.prog.info? 29=some ie:=⟨_,rfl⟩;refine⟨[.bool s,.slice a1 n1 c1,.slice a2 n2 c2,.bool s',.slice a3 n3 c3,.slice a4 n4 c4],_,.agg #[.bool false,.slice none 0 0,.slice none 0 0],hu,rfl,rfl,dc,dc,?_,rfl,q1.2.1,q1.2.2.1,rfl,q2.2.1,q2.2.2.1,trivial⟩;simp only[List.map_toArray,List.map_cons,List.map_nil,e1,e2];kernel_rfl
end
