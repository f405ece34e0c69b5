import Derived.Deep.LoopGhost
import Derived.Test.YtoehbmlfnjlchaaGreatDoorGB
set_option linter.all false
set_option maxHeartbeats 10000000
namespace Go.Proofs.YtoehbmlfnjlchaaGreatDoor.Ab
open Go Go.RowKit
inductive AC where
 |skip
 |reg (ops:List AO)
 |gp (ops:List AO)
 |sG (cf:List (Nat×Nat)) (ops:List AO)
 |seq (a b:AC)
 |cond (c:X) (a b:AC)
 |blk (id:Nat) (c:AC)
 |loop (c:AC)
 |exit (id:Nat)
 |ret
 deriving Inhabited
inductive Ex where
 |normal
 |exit (id:Nat)
 |ret
def fQ(P:Program)(N:Nat):Code→Option AC
 | .skip=>some .skip
 | .label _=>some .skip
 | .region _ ops draw=>match Tq P N ops ops.toList with
   |some al=>if draw then(if vO [] ops.toList al then some (.gp al)else if vO (Xa ops.toList al) ops.toList al then some (.sG (Xa ops.toList al) al)else none)else some (.reg al)
   |none=>none
 | .seq a b=>match fQ P N a,fQ P N b with
   |some a,some b=>some (.seq a b)
   |_,_=>none
 | .cond c a b=>match cX c,fQ P N a,fQ P N b with
   |some c,some a,some b=>some (.cond c a b)
   |_,_,_=>none
 | .block id c=>match fQ P N c with|some c=>some (.blk id c)|none=>none
 | .loop c=>match fQ P N c with|some c=>some (.loop c)|none=>none
 | .scope c=>fQ P N c
 | .exit id=>some (.exit id)
 | .ret=>some .ret
 |_=>none
def rn:List (Nat×Nat)→Nat→Nat
 |[],i=>i
 |(k,v)::r,i=>if k=i then v else rn r i
def Au(s:St)(r:List (Nat×Nat))(nx t:Nat):V→Prop
 | .any=>True
 | .ow sz i n=>i<nx∧s.get t= .ow sz (rn r i) n
 | .sl sz i off n=>i<nx∧uu (s.get t)= .sl sz (rn r i) off n
 | .pt i off=>i<nx∧s.get t= .pt (rn r i) off
 | .tw _ _ _ _=>False
 |v=>s.get t=v
def Yy(s:St)(r:List (Nat×Nat))(nx:Nat):List (Nat×V)→Prop
 |[]=>True
 |(t,v)::l=>Au s r nx t v∧Yy s r nx l
def Yz(s:St)(r:List (Nat×Nat))(nx:Nat):List (Nat×Option Ob)→Prop
 |[]=>True
 |(i,o)::l=>i<nx∧s.ob (rn r i)=o∧TR o∧Yz s r nx l
def YA(r:List (Nat×Nat)):List (Nat×Option Ob)→Prop
 |[]=>True
 |(i,_)::l=>(l.all fun p=>rn r p.1 != rn r i)=true∧YA r l
def St.le(s:St)(r:List (Nat×Nat))(s':St):Prop:=Yy s r s'.nx s'.env∧Yz s r s'.nx s'.lX∧YA r s'.lX
def St.YB(s:St)(t e sz:Nat):St:={env:=(t,.ow sz s.nx 0)::s.env,lX:=(s.nx,some {e,sz,cs:=[],mu:=true,iy:=false})::s.lX,nx:=s.nx+1}
def St.nY:List (Nat×Nat×Nat)→St→St
 |[],s=>s
 |(t,e,sz)::l,s=>St.nY l (s.YB t e sz)
def St.lC:List (Nat×Nat×Nat)→St→Prop
 |[],_=>True
 |(t,e,sz)::l,s=>s.get t= .nl∧0<sz∧St.lC l (s.YB t e sz)
section
variable (F G:Nat→List V→V→Prop)
def qi:AC→(Ex→St→Prop)→St→Prop
 | .skip,Q,s=>Q .normal s
 | .reg ops,Q,s=>Uk F G ops s (Q .normal)
 | .gp ops,Q,s=>Fz F G ops s (Q .normal)
 | .sG cf ops,Q,s=>Fz F G ops s (fun s'=>chk (jr s' cf) (Q .normal s'))
 | .seq a b,Q,s=>qi a (fun e s'=>match e with| .normal=>qi b Q s'| .exit i=>Q (.exit i) s'| .ret=>Q .ret s') s
 | .cond c a b,Q,s=>cnd (s.val c) (qi a Q s) (qi b Q s)
 | .blk id c,Q,s=>qi c (fun e s'=>match e with| .normal=>Q .normal s'| .exit j=>if j=id then Q .normal s' else Q (.exit j) s'| .ret=>Q .ret s') s
 | .loop c,Q,s=>∃(X:Type) (mk:X→St) (I:X→Prop) (μ:X→Nat),(∃ms x r,I x∧St.lC ms s∧(St.nY ms s).le r (mk x))∧
    ∀x,I x→qi c (fun e s'=>match e with| .normal=>∃ms x' r,I x'∧μ x'<μ x∧St.lC ms s'∧(St.nY ms s').le r (mk x')| .exit i=>Q (.exit i) s'| .ret=>Q .ret s') (mk x)
 | .exit id,Q,s=>Q (.exit id) s
 | .ret,Q,s=>Q .ret s
end
section
variable {P:Program} {J:World→Prop} {w0:World} {H0:HS} {N:Nat}
theorem Un{w:World}{H:Nat→Prop}{ov dh:Nat→Option Value}{s:St}{r:List (Nat×Nat)}{nx t:Nat}{v:V}{cv:Value}(h:Au s r nx t v)(hr:Rep w H ov cv (s.get t))(ho:∀i,i<nx→dh i=ov (rn r i)):Rep w H dh cv v:=by
 cases v with
 |any=>exact .any _
 |ow sz i n=>
  obtain⟨h1,h2⟩:=h;rw[h2]at hr;obtain⟨a,cap,rfl,h3,h4,h5,h6⟩:=hr.fH;exact .ow sz i n cap a h4 h5 h6 (by rw[ho i h1];exact h3)
 |sl sz i off n=>
  obtain⟨h1,h2⟩:=h;replace hr:Rep w H ov cv (uu (s.get t)):=by
   cases hv:s.get t with
   |ow z j m=>rw[hv]at hr;exact vF hr
   |_=>rw[hv]at hr;exact hr
  rw[h2]at hr;have hz0:=fun(h0:off=0) (hs:0<sz)=>Rep.IC hs (h0▸hr)
  obtain⟨a,cap,u,rfl,h3,h4,h5,h6⟩:=hr.jX;exact .sl a sz i off n cap u h3 h4 (by rw[ho i h1];exact h5) h6 (fun h0 hs=>by
   obtain⟨_,_,m,e,_,_,ho2⟩:=hz0 h0 hs;cases e;rw[h5]at ho2;exact⟨m,Option.some.inj ho2⟩)
 |pt i off=>
  obtain⟨h1,h2⟩:=h;rw[h2]at hr;obtain⟨b,u,rfl,h3,h4⟩:=hr.jY;exact .pt i off b u (by rw[ho i h1];exact h3) h4
 |tw sz i n rs=>exact h.elim
 |_=>
  simp only[Au]at h;rw[h]at hr;cases hr with
  |base h=>exact .base h
theorem IY{s:St}{r:List (Nat×Nat)}{nx:Nat}:∀{l:List (Nat×V)},Yy s r nx l→∀t,lk l t= .any∨Au s r nx t (lk l t)
 |[],_,t=> .inl rfl
 |(k,v)::l,h,t=>by
  simp only[lk];split
  ·rename_i e;subst e;exact .inr h.1
  ·exact IY h.2 t
theorem xP{s:St}{r:List (Nat×Nat)}{nx:Nat}:∀{l:List (Nat×Option Ob)},Yz s r nx l→∀i o,lo l i=some o→i<nx∧s.ob (rn r i)=some o∧r_ o=false
 |[],_,i,o,h=>by cases h
 |(k,v)::l,h,i,o,hi=>by
  simp only[lo]at hi;split at hi
  ·rename_i e;subst e;exact⟨h.1,by rw[h.2.1,hi],by have:=h.2.2.1;rw[hi]at this;exact this⟩
  ·exact xP h.2.2.2 i o hi
theorem FY:∀{l:List (Nat×Option Ob)} {i:Nat} {o:Ob},lo l i=some o→(i,some o)∈l
 |[],i,o,h=>by cases h
 |(k,v)::l,i,o,h=>by
  simp only[lo]at h;split at h
  ·rename_i e;subst e;subst h;exact List.mem_cons_self
  ·exact List.mem_cons_of_mem _ (FY h)
theorem Oo{r:List (Nat×Nat)}:∀{l:List (Nat×Option Ob)},YA r l→∀{i j:Nat} {o p:Option Ob},(i,o)∈l→(j,p)∈l→i≠j→rn r i≠rn r j
 |[],_,i,j,o,p,h,_,_=>by cases h
 |(k,v)::l,h,i,j,o,p,hi,hj,hne=>by
  rcases List.mem_cons.1 hi with e|hi
  ·cases e;rcases List.mem_cons.1 hj with e|hj
   ·cases e;exact absurd rfl hne
   ·have:=List.all_eq_true.1 h.1 _ hj;simp only[bne_iff_ne,ne_eq]at this;exact fun e=>this e.symm
  ·rcases List.mem_cons.1 hj with e|hj
   ·cases e;have:=List.all_eq_true.1 h.1 _ hi;simpa using this
   ·exact Oo h.2 hi hj hne
theorem Conc.weaken{w:World}{H:Nat→Prop}{ov:Nat→Option Value}{a:Act}{s s':St}{r:List (Nat×Nat)}(hc:Conc w0 H0 w H ov N a s)(h:s.le r s'):∃dh,Conc w0 H0 w H dh N a s':=by
 obtain⟨hE,hO,hN⟩:=h;refine⟨fun i=>if i<s'.nx then ov (rn r i)else none,⟨hc.mem.bel,hc.mem.tj,hc.mem.pV,hc.mem.low,fun i o hi=>?_,fun i j oi oj vi vj b hij hi hj sV nM hb=>?_⟩,hc.Dp,hc.Am,hc.kp,fun t=>?_,fun id hid=>by simp;omega⟩
 ·obtain⟨h1,h2,h3⟩:=xP hO i o hi;obtain⟨v,hv,hr⟩:=hc.mem.obj _ _ h2;exact⟨v,by simp[h1,hv],hr.any h3 _⟩
 ·obtain⟨h1,h2,_⟩:=xP hO i oi hi;obtain⟨h3,h4,_⟩:=xP hO j oj hj;simp only[h1,h3,if_true]at sV nM;exact hc.mem.sep _ _ oi oj vi vj b (Oo hN (FY hi) (FY hj) hij) h2 h4 sV nM hb
 ·have hr:=hc.env t;rcases IY hE t with h1|h1
  ·show Rep w H _ _ (lk s'.env t);rw[h1];exact .any _
  ·exact Un h1 hr fun i hi=>by simp[hi]
theorem Conc.YB{w:World}{H:Nat→Prop}{ov:Nat→Option Value}{a:Act}{s:St}(hc:Conc w0 H0 w H ov N a s){t e sz:Nat}(ht:s.get t= .nl)(hsz:0<sz):∃dh,Conc w0 H0 w H dh N a (s.YB t e sz):=by
 have hnew:=hc.new s.nx (Nat.le_refl _);have hno:=hc.noOb;have hob:∀i,(s.YB t e sz).ob i=if s.nx=i then some {e,sz,cs:=[],mu:=true,iy:=false}else s.ob i:=fun i=>rfl
 have hE:Ext w H ov w H (fun i=>if s.nx=i then some (.slice none 0 0)else ov i):=⟨fun _ h=>h,fun _ _=>rfl,fun i v h=>by
  try simp only[]
  split
  ·rename_i e;subst e;rw[hnew]at h;cases h
  ·exact h⟩
 refine⟨fun i=>if s.nx=i then some (.slice none 0 0)else ov i,⟨hc.mem.bel,hc.mem.tj,hc.mem.pV,hc.mem.low,fun i o hi=>?_,fun i j oi oj vi vj b hij hi hj sV nM hb=>?_⟩,hc.Dp,hc.Am,hc.kp,fun u=>?_,fun id hid=>?_⟩
 ·rw[hob]at hi;try simp only[]
  split at hi
  ·rename_i e1;cases hi;refine⟨_,by rw[if_pos e1],⟨fun x hx=>(by cases hx),fun b hb=>(by cases hb),fun b hb=>(by cases hb),.inr ⟨rfl,hsz,0,[],⟨sy,.inl ⟨rfl,rfl⟩⟩,⟨rfl,fun j v x h1 h2=>(by cases h1)⟩,Nat.zero_le _⟩⟩⟩
  ·rename_i e1;obtain⟨v,hv,hr⟩:=hc.mem.obj i o hi;exact⟨v,by rw[if_neg e1];exact hv,hr.mono hE.ho (fun _ h=>h) (fun _ _=>rfl) (fun _ _=>rfl) (fun _ _ h=>h)⟩
 ·rw[hob]at hi hj;try simp only[]at sV nM
  split at hi
  ·rename_i e1;rw[if_pos e1]at sV;cases sV;cases hb
  ·rename_i e1;rw[if_neg e1]at sV;split at hj
   ·rename_i e2;rw[if_pos e2]at nM;cases nM;intro h;cases h
   ·rename_i e2;rw[if_neg e2]at nM;exact hc.mem.sep i j oi oj vi vj b hij hi hj sV nM hb
 ·show Rep w H _ _ (lk ((t,.ow sz s.nx 0)::s.env) u);simp only[lk];split
  ·rename_i e1;subst e1;have:=hc.env t;rw[ht]at this;rw[this.jm];exact .ow sz s.nx 0 0 none (Nat.zero_le _) (Nat.le_refl _) (.inl rfl) sy
  ·exact(hc.env u).mono hE
 ·have h1:s.nx≤id:=Nat.le_of_succ_le hid;have h2:s.nx≠id:=Nat.ne_of_lt hid;simp only[if_neg h2];exact hc.new id h1
theorem Conc.nY{w:World}{H:Nat→Prop}{a:Act}:∀{ms:List (Nat×Nat×Nat)} {ov:Nat→Option Value} {s:St},Conc w0 H0 w H ov N a s→St.lC ms s→∃dh,Conc w0 H0 w H dh N a (St.nY ms s)
 |[],ov,s,hc,_=>⟨ov,hc⟩
 |(t,e,sz)::l,ov,s,hc,h=>by
  obtain⟨h1,h2,h3⟩:=h;obtain⟨X3,hc1⟩:=hc.YB (e:=e) h1 h2;exact Conc.nY (ms:=l) (s:=s.YB t e sz) hc1 h3
def Post(w0:World)(H0:HS)(N:Nat)(Q:Ex→St→Prop):Exit→Act→World→Prop
 | .normal,a,w=>∃s H ov,Q .normal s∧Conc w0 H0 w H ov N a s
 | .exit i,a,w=>∃s H ov,Q (.exit i) s∧Conc w0 H0 w H ov N a s
 | .ret,a,w=>∃s H ov,Q .ret s∧Conc w0 H0 w H ov N a s
 |_,_,_=>False
theorem Uo{F G:Nat→List V→V→Prop}{l:List AO}{s:St}{K:St→Prop}(h:Fz F G l s K):Fz F G l s (fun s'=>chk (jr s' []) (K s')):=by
 have e:(fun s'=>chk (jr s' []) (K s'))=K:=by funext s';simp[chk,jr]
 rw[e];exact h
def Ur(m:Nat):AC→Bool
 | .reg ops| .gp ops| .sG _ ops=>ops.all fun o=>o.dst != some m
 | .seq a b| .cond _ a b=>Ur m a&&Ur m b
 | .blk _ c| .loop c=>Ur m c
 |_=>true
def yL(H0:HS)(ac:AC):Prop:=∀m v,(m,v)∈H0.kp→Ur m ac=true
theorem yM{H0:HS}{ops:List AO}(h:yL H0 (.reg ops)):∀o,o∈ops→nkp H0 o.dst:=fun o ho m v hm e=>by
 have:=List.all_eq_true.1 (h m v hm) o ho;rw[e]at this;simp at this
theorem Oq{H0:HS}{a b:AC}(h:yL H0 (.seq a b)):yL H0 a:=fun m v hm=>by
 have:=h m v hm;simp only[Ur,Bool.and_eq_true]at this;exact this.1
theorem Ot{H0:HS}{a b:AC}(h:yL H0 (.seq a b)):yL H0 b:=fun m v hm=>by
 have:=h m v hm;simp only[Ur,Bool.and_eq_true]at this;exact this.2
theorem iW(ny:P.follows .mixedOrders=true)(hJs:∀w',aY w0 H0.e w'→J w'):∀(c:Code) (ac:AC),fQ P N c=some ac→yL H0 ac→∀(Q:Ex→St→Prop) (s:St) (a:Act) (w:World) (H:Nat→Prop) (ov:Nat→Option Value),
 Conc w0 H0 w H ov N a s→qi (aF P J) (ik P) ac Q s→c.wp P (Post w0 H0 N Q) a w:=by
 intro c
 induction c with
 |skip=>intro ac h hk Q s a w H ov hc hv;simp only[fQ,Option.some.injEq]at h;subst h;exact wp_skip ⟨s,H,ov,hv,hc⟩
 |label l=>intro ac h hk Q s a w H ov hc hv;simp only[fQ,Option.some.injEq]at h;subst h;exact wp_label ⟨s,H,ov,hv,hc⟩
 |region rid ops draw=>
  intro ac h hk Q s a w H ov hc hv;simp only[fQ]at h;split at h
  ·rename_i al hal;cases draw with
   |true=>
    simp only[if_true]at h;split at h
    ·rename_i hd;cases h;exact IX ny hJs hc hal hd (yM hk) (Uo hv) fun s' w' H' dh a' hK hc'=>⟨s',H',dh,hK,hc'⟩
    ·split at h
     ·rename_i hd;cases h;exact IX ny hJs hc hal hd (yM hk) (K:=Q .normal) hv fun s' w' H' dh a' hK hc'=>⟨s',H',dh,hK,hc'⟩
     ·cases h
   |false=>
    simp only[Bool.false_eq_true,if_false,Option.some.injEq]at h;subst h;exact wp_region_list (yI hJs (K:=Q .normal) (fun s' w' H' dh a' hK hc'=>⟨s',H',dh,hK,hc'⟩) ops.toList al hal (yM hk) hc hv)
  ·cases h
 |seq c d ihc ihd=>
  intro ac h hk Q s a w H ov hc hv;simp only[fQ]at h;split at h
  ·rename_i c' d' h1 h2;cases h;refine wp_seq (wp_mono (ihc c' h1 (Oq hk) _ s a w H ov hc hv) fun e a' w' hq=>?_);cases e with
   |normal=>obtain⟨s',H',dh,hq,hc'⟩:=hq;exact ihd d' h2 (Ot hk) Q s' a' w' H' dh hc' hq
   |exit i=>exact hq
   |ret=>exact hq
   |goto l=>exact hq
   |panic ch=>exact hq
   |outgrown=>exact hq
  ·cases h
 |cond x c d ihc ihd=>
  intro ac h hk Q s a w H ov hc hv;simp only[fQ]at h;split at h
  ·rename_i x' c' d' h0 h1 h2;cases h;simp only[qi]at hv;have hx:=hc.val x x' h0;cases hb:s.val x'<;>rw[hb]at hv hx<;>simp only[cnd]at hv;case b t=>
    refine wp_cond_split hx.nT (fun ht=>ihc c' h1 (Oq hk) Q s a w H ov hc (hv.1 ht)) (fun ht=>ihd d' h2 (Ot hk) Q s a w H ov hc (hv.2 ht))
  ·cases h
 |block id c ih=>
  intro ac h hk Q s a w H ov hc hv;simp only[fQ]at h;split at h
  ·rename_i c' h1;cases h;refine wp_block (wp_mono (ih c' h1 hk _ s a w H ov hc hv) fun e a' w' hq=>?_);cases e with
   |normal=>exact hq
   |exit i=>
    obtain⟨s',H',dh,hq,hc'⟩:=hq;simp only[Exit.inBlock];simp only[]at hq;split
    ·rename_i e;rw[if_pos e]at hq;exact⟨s',H',dh,hq,hc'⟩
    ·rename_i e;rw[if_neg e]at hq;exact⟨s',H',dh,hq,hc'⟩
   |ret=>exact hq
   |goto l=>exact hq
   |panic ch=>exact hq
   |outgrown=>exact hq
  ·cases h
 |loop c ih=>
  intro ac h hk Q s a w H ov hc hv;simp only[fQ]at h;split at h
  ·rename_i c' h1;cases h;simp only[qi]at hv;obtain⟨X,mk,I,μ,⟨ms,x0,r0,hI0,hms,hle0⟩,YC⟩:=hv;obtain⟨ov00,hc00⟩:=hc.nY hms;obtain⟨Tt,hc0⟩:=hc00.weaken hle0;refine wp_loop_ghost (fun n a w=>∃x H ov,μ x=n∧I x∧Conc w0 H0 w H ov N a (mk x)) (μ x0) ⟨x0,H,Tt,rfl,hI0,hc0⟩ ?_;rintro n a1 w1 ⟨x,H1,X3,rfl,hI,hc1⟩;refine wp_mono (ih c' h1 hk _ (mk x) a1 w1 H1 X3 hc1 (YC x hI)) fun e a' w' hq=>?_
   cases e with
   |normal=>
    obtain⟨s',H',dh,⟨ms',x',r',hI',hlt,hms',hle⟩,hc'⟩:=hq;obtain⟨ov3,hc3⟩:=hc'.nY hms';obtain⟨X4,hc2⟩:=hc3.weaken hle;exact⟨μ x',hlt,x',H',X4,rfl,hI',hc2⟩
   |exit i=>exact hq
   |ret=>exact hq
   |goto l=>exact hq
   |panic ch=>exact hq
   |outgrown=>exact hq
  ·cases h
 |scope c ih=>
  intro ac h hk Q s a w H ov hc hv;simp only[fQ]at h;refine wp_scope_straight (wp_mono (ih ac h hk Q s a w H ov hc hv) fun e a' w' hq=>?_);cases e<;>exact hq
 |exit id=>intro ac h hk Q s a w H ov hc hv;simp only[fQ,Option.some.injEq]at h;subst h;exact wp_exit ⟨s,H,ov,hv,hc⟩
 |ret=>intro ac h hk Q s a w H ov hc hv;simp only[fQ,Option.some.injEq]at h;subst h;exact wp_ret ⟨s,H,ov,hv,hc⟩
 |rangeFunc f ps c d ihc ihd=>intro ac h;simp[fQ]at h
 |goto l=>intro ac h;simp[fQ]at h
 |refuse y=>intro ac h;simp[fQ]at h
def dm:List ResultVar→Option (List Nat)
 |[]=>some []
 | .tmp t::r=>match dm r with|some l=>some (t::l)|none=>none
 | .cell _ _::_=>none
def iK(s:St)(v r:V):Prop:=
 match r with
 | .o e sz cs=>(match v with| .ow _ i _=>s.ob i=some {e,sz,cs,mu:=true,iy:=false}| .nl=>cs=[]∧0<sz|_=>False)
 | .l sz cs=>0<sz∧okR s.ob v∧rd s.ob sz v= .l sz cs
 | .any=>True
 |r=>v=r∧r.aV=true
def iD(s:St):List Nat→List V→Prop
 |[],[]=>True
 |t::ts,r::rs=>(match r with| .o _ _ _=>False|r=>iK s (s.get t) r)∧iD s ts rs
 |_,_=>False
def gG(s:St)(v r:V):Prop:=
 match r with
 | .l sz cs=>0<sz∧V.gm (.t cs)=false∧
    (match v with| .ow z i n=>rd s.ob sz (.ow z i n)= .l sz cs| .nl=>cs=[]|_=>False)
 | .i k n=>v= .i k n
 | .b x=>v= .b x
 |_=>False
def ku(s:St):List Nat→List V→Prop
 |[],[]=>True
 |t::ts,r::rs=>gG s (s.get t) r∧ku s ts rs
 |_,_=>False
def fO(s:St)(ts:List Nat)(r:V):Prop:=
 match ts with
 |[]=>r= .t []
 |[t]=>iK s (s.get t) r
 |ts=>match r with| .t rs=>iD s ts rs| .fr (.t rs)=>ku s ts rs|_=>False
def aH:Nat→List V→List (Nat×V)
 |_,[]=>[]
 |k,v::r=>(k,v)::aH (k+1) r
theorem nZ:∀(vs:List V) (k t:Nat),lk (aH k vs) t=if k≤t then vs.getD (t-k) .any else .any
 |[],k,t=>by simp[aH,lk]
 |v::r,k,t=>by
  simp only[aH,lk];split
  ·rename_i e;subst e;simp
  ·rename_i e;rw[nZ r (k+1) t];by_cases h:k≤t
   ·rw[if_pos om,if_pos h];obtain⟨d,rfl⟩:∃d,t=k+1+d:=⟨t-(k+1),om⟩;rw[show k+1+d-(k+1)=d from om,show k+1+d-k=d+1 from om];rfl
   ·rw[if_neg om,if_neg h]
def qC(vs:List V):St:={env:=aH 0 vs,lX:=[],nx:=0}
def vT(tmps:Array Value):List Nat→Value
 |[]=> .tuple #[]
 |[t]=>tmps.getD t undef
 |ts=> .tuple (ts.map fun t=>tmps.getD t undef).toArray
theorem bM{fn:Func}{ts:List Nat}(h:dm fn.results.toList=some ts)(tmps:Array Value)(w:World):(results fn tmps).run P w= .ok (vT tmps ts) w:=by
 have hr:fn.results.toList=ts.map ResultVar.tmp:=by
  have gen:∀(l:List ResultVar) (ts:List Nat),dm l=some ts→l=ts.map ResultVar.tmp:=fun l=>by
   induction l with
   |nil=>intro ts h;simp[dm]at h;subst h;rfl
   |cons x r ih=>
    intro ts h;cases x with
    |tmp t=>
     simp only[dm]at h;split at h
     ·rename_i l hl;cases h;rw[ih l hl];rfl
     ·cases h
    |cell a t=>simp[dm]at h
  exact gen _ _ h
 have hra:fn.results=(ts.map ResultVar.tmp).toArray:=dJ hr;have hrun:∀ts:List Nat,((ts.map ResultVar.tmp).mapM (fun x=>match x with
  |ResultVar.tmp t=>(pure (tmps.getD t undef):Sem Value)
  |ResultVar.cell a t=>do loadVar t (←asAddr (tmps.getD a undef)))).run P w= .ok (ts.map fun t=>tmps.getD t undef) w:=fun ts=>by
  induction ts with
  |nil=>rfl
  |cons t ts ih=>simp only[List.map_cons,List.mapM_cons,Sem.run_bind,Sem.run_pure,Result.andThen_ok,ih]
 unfold results;rw[hra];simp only[Array.mapM_eq_mapM_toList,List.toList_toArray,Sem.run_bind,Sem.run_map];erw [hrun ts];simp only[Result.andThen_ok,Sem.run_pure];match ts with
 |[]=>rfl
 |[t]=>simp[vT]
 |t::t'::ts=>simp[vT]
theorem Ou(hE0:∀b,¬H0.e b){w:World}{H:Nat→Prop}{ov:Nat→Option Value}{a:Act}{s:St}(hc:Conc w0 H0 w H ov N a s){cv:Value}{v r:V}(hr:Rep w H ov cv v)(h:iK s v r):WX w0 w H0.h cv r:=by
 have low:∀b,H b→b<w0.heap.size→H0.h b:=fun b h hb=>(hc.mem.low b h hb).resolve_right (hE0 b)
 have base:∀{cv:Value} {r:V},(∃H':Nat→Prop,(∀b,H' b→b<w.heap.size)∧(∀b,H' b→b<w0.heap.size→H0.h b)∧aO w H' cv r)→WX w0 w H0.h cv r:=fun⟨H',h1,h2,h3⟩=>
  ⟨fun b=>H' b∧w0.heap.size≤b,fun b hb=>⟨hb.2,h1 b hb.1⟩,.inl (h3.mono (fun b hb=>by
    rcases Nat.lt_or_ge b w0.heap.size with h|h
    ·exact .inl (h2 b hb h)
    ·exact .inr ⟨hb,h⟩) (fun _ _=>rfl))⟩
 have plain:aO w H cv r→WX w0 w H0.h cv r:=fun h=>base ⟨H,hc.mem.pV,low,h⟩
 cases r with
 |o e sz cs=>
  simp only[iK]at h;cases v<;>simp only[]at h;case ow sz' i n=>
   obtain⟨ba,cap,e1,ho,hm,hcp,ha⟩:=hr.fH;obtain⟨u,hu,hor⟩:=hc.mem.obj i _ h;rw[ho]at hu;cases hu;rcases hor.bd with ⟨h',_⟩|⟨_,hsz,n',xs,hown,hra,hnm⟩
   ·cases h'
   ·refine⟨fun b=>H b∧w0.heap.size≤b,fun b hb=>⟨hb.2,hc.mem.pV b hb.1⟩,.inr (.inl ⟨e,sz,cs,n',xs,rfl,hsz,ownB hown (fun b hb=>(hor.ow b hb).resolve_right (hE0 b)),hra.mono (fun b hb=>?_) (fun _ _=>rfl),hor.cl (lN rfl),hnm,fun b hb hN=>?_⟩)⟩
    ·rcases Nat.lt_or_ge b w0.heap.size with h|h
     ·exact .inl (low b hb h)
     ·exact .inr ⟨hb,h⟩
    ·have:=(hor.fz b hb).1 hN.1;cases this
  case nl=>
   obtain⟨rfl,hsz⟩:=h;have e1:=hr.jm;subst e1;refine⟨fun _=>False,fun b hb=>hb.elim,.inr (.inl ⟨e,sz,[],0,[],rfl,hsz,World.ownsRow_nil _ _ _ _,⟨rfl,fun j v x h=>by simp at h⟩,fun x hx=>by(cases hx),Nat.zero_le _,fun b hb=>?_⟩)⟩;cases hb
 |l sz cs=>
  obtain⟨hsz,hok,he⟩:=h;obtain⟨H1,eX,hm1,hfr,_⟩:=hc.mem.freeze (dX (ob:=s.ob) v);have:=jJ hc.mem hsz hr hok (.inl (by rw[he];rfl)) eX.hH hfr;rw[he]at this;exact base ⟨H1,hm1.pV,fun b h hb=>(hm1.low b h hb).resolve_right (hE0 b),this⟩
 |any=>exact plain (.any _)
 |i k n=>obtain⟨rfl,_⟩:=h;exact plain (by cases hr with|base h=>exact h)
 |b x=>obtain⟨rfl,_⟩:=h;exact plain (by cases hr with|base h=>exact h)
 |s x=>obtain⟨rfl,_⟩:=h;exact plain (by cases hr with|base h=>exact h)
 |g x=>obtain⟨rfl,_⟩:=h;exact plain (by cases hr with|base h=>exact h)
 |ip x k=>obtain⟨rfl,_⟩:=h;exact plain (by cases hr with|base h=>exact h)
 |c x=>obtain⟨rfl,_⟩:=h;exact plain (by cases hr with|base h=>exact h)
 |f n=>obtain⟨rfl,_⟩:=h;exact plain (by cases hr with|base h=>exact h)
 |z x y=>obtain⟨rfl,_⟩:=h;exact plain (by cases hr with|base h=>exact h)
 |t vs=>obtain⟨rfl,h⟩:=h;simp[V.aV]at h
 |ow sz i n=>obtain⟨rfl,h⟩:=h;simp[V.aV]at h
 |sl sz i off n=>obtain⟨rfl,h⟩:=h;simp[V.aV]at h
 |pt i n=>obtain⟨rfl,h⟩:=h;simp[V.aV]at h
 |nl=>obtain⟨rfl,h⟩:=h;simp[V.aV]at h
 |un=>obtain⟨rfl,h⟩:=h;simp[V.aV]at h
 |fr x=>obtain⟨rfl,h⟩:=h;simp[V.aV]at h
 |mu x cs=>obtain⟨rfl,h⟩:=h;simp[V.aV]at h
 |tw a b c d=>obtain⟨rfl,h⟩:=h;simp[V.aV]at h
 |to a b c d=>obtain⟨rfl,h⟩:=h;simp[V.aV]at h
 |fc f x=>obtain⟨rfl,_⟩:=h;exact plain (by cases hr with|base h=>exact h)
 |kn x y=>obtain⟨rfl,_⟩:=h;exact plain (by cases hr with|base h=>exact h)
theorem JX(hE0:∀b,¬H0.e b){w:World}{H:Nat→Prop}{ov:Nat→Option Value}{a:Act}{s:St}(hc:Conc w0 H0 w H ov N a s){cv:Value}{v r:V}(hr:Rep w H ov cv v)(h:gG s v r):
 aO w (fun b=>w0.heap.size≤b∧b<w.heap.size) cv r:=by
 unfold gG at h
 split at h
 ·rename_i sz cs;obtain⟨hsz,hfl,h⟩:=h;split at h
  ·rename_i z i n;have hrr:=jJ hc.mem hsz hr (by trivial) (.inl (by rw[h];rfl)) (H':=fun _=>True) (fun _ _=>trivial) (fun _ _ _ _ _ _ _=>trivial);rw[h]at hrr;obtain⟨a',m,cap,f,b,o,e1,h1,h2,h3,h4,h5,h6,h7⟩:=hrr.l_;subst e1;have hb:∀b',blk (.slice a' m cap)=some b'→w0.heap.size≤b'∧b'<w.heap.size:=fun b' hb'=>by
    obtain⟨_,_,_,ho,_⟩:=hr.fH;simp only[rd]at h;cases hob:s.ob i with
    |none=>rw[hob]at h;cases h
    |some oo=>
     obtain⟨u,hu,hor⟩:=hc.mem.obj i oo hob;rw[ho]at hu;cases hu;exact⟨(hor.lt hb').1.resolve_right (hE0 b'),(hor.lt hb').2⟩
   refine .l a' m cap sz cs f b o h1 h2 h3 h4 (h5.imp id fun h=>⟨h.1,hb b (by rw[h.1];rfl)⟩) h6 fun j x hx=>DL ?_ (h7 j x hx)
   have:=List.any_eq_false.1 (show(cs.any fun x=>match x with| .i _ _| .b _| .s _=>false|_=>true)=false from hfl) x (List.mem_of_getElem? hx);cases x<;>simp_all
  ·subst h;have e1:=hr.jm;subst e1;exact .l none 0 0 sz [] (fun _=>undef) 0 0 hsz sy (Nat.zero_le _) (Nat.le_refl _) (.inl rfl) (fun j hj=>by simp at hj) (fun j x hx=>by simp at hx)
  ·exact h.elim
 ·rw[h]at hr;rw[hr.bT];exact .i _ _
 ·rw[h]at hr;rw[hr.nT];exact .b _
 ·exact h.elim
theorem D_(hE0:∀b,¬H0.e b){w:World}{H:Nat→Prop}{ov:Nat→Option Value}{a:Act}{s:St}(hc:Conc w0 H0 w H ov N a s):∀(ts:List Nat) (rs:List V),ku s ts rs→
 aA w (fun b=>w0.heap.size≤b∧b<w.heap.size) (ts.map fun t=>a.tmps.getD t undef) rs
 |[],[],_=>⟨rfl,fun j v x h=>by simp at h⟩
 |[],_::_,h=>h.elim
 |_::_,[],h=>h.elim
 |t::ts,r::rs,h=>by
  obtain⟨h1,h2⟩:=h;have ih:=D_ hE0 hc ts rs h2;refine⟨by simpa using ih.1,fun j v x hv hx=>?_⟩;cases j with
  |zero=>
   simp only[List.map_cons,List.getElem?_cons_zero,Option.some.injEq]at hv hx;subst hv;subst hx;exact JX hE0 hc (hc.env t) h1
  |succ j=>exact ih.2 j v x (by simpa using hv) (by simpa using hx)
theorem vV{w:World}{H:Nat→Prop}{ov:Nat→Option Value}{a:Act}{s:St}(hc:Conc w0 H0 w H ov N a s):∀(ts:List Nat) (rs:List V),iD s ts rs→
 ts.length=rs.length∧∃up,dW s.ob up∧(∀k x,(k,x)∈up→∃t,t∈ts∧(k,x)∈dU s.ob (s.get t))∧∀H':Nat→Prop,(∀b,H b→H' b)→(∀k y u b,(k,y)∈up→ov k=some u→blk u=some b→H' b)→∀(j:Nat) (t:Nat) (r:V),ts[j]? =some t→rs[j]? =some r→aO w H' (a.tmps.getD t undef) r
 |[],[],_=>⟨rfl,[],dW.nil,(fun _ _ h=>by cases h),fun H' _ _ j t r h=>by simp at h⟩
 |[],_::_,h=>by simp[iD]at h
 |_::_,[],h=>by simp[iD]at h
 |t::ts,r::rs,h=>by
  obtain⟨h1,h2⟩:=h;obtain⟨hl,up,hup,hkey,iF⟩:=vV hc ts rs h2;have one:∃Dt,dW s.ob Dt∧(∀k x,(k,x)∈Dt→(k,x)∈dU s.ob (s.get t))∧∀H':Nat→Prop,(∀b,H b→H' b)→(∀k y u b,(k,y)∈Dt→ov k=some u→blk u=some b→H' b)→aO w H' (a.tmps.getD t undef) r:=by
   have hr:=hc.env t;have same:s.get t=r→r.aV=true→∃Dt,dW s.ob Dt∧(∀k x,(k,x)∈Dt→(k,x)∈dU s.ob (s.get t))∧∀H':Nat→Prop,(∀b,H b→H' b)→(∀k y u b,(k,y)∈Dt→ov k=some u→blk u=some b→H' b)→aO w H' (a.tmps.getD t undef) r:=fun e hok=>by
    rw[e]at hr;generalize a.tmps.getD t undef=cv at hr;refine⟨[],dW.nil,(fun _ _ h=>by cases h),fun H' hH _=>?_⟩;cases hr with
    |base h=>exact h.mono hH (fun _ _=>rfl)
    |ow=>simp[V.aV]at hok
    |sl=>simp[V.aV]at hok
    |pt=>simp[V.aV]at hok
    |tw=>simp[V.aV]at hok
   cases r with
   |o e sz cs=>exact h1.elim
   |l sz cs=>
    obtain⟨hsz,hok,he⟩:=h1;refine⟨dU s.ob (s.get t),dX _,(fun _ _ h=>h),fun H' hH hfr=>?_⟩;have:=jJ hc.mem hsz hr hok (.inl (by rw[he];rfl)) hH hfr;rw[he]at this;exact this
   |any=>exact⟨[],dW.nil,(fun _ _ h=>by cases h),fun H' _ _=> .any _⟩
   |_=>exact same h1.1 h1.2
  obtain⟨Dt,YD,hkey1,Ov⟩:=one;refine⟨by simp[hl],Dt++up,YD.append hup,(fun k x h=>(List.mem_append.1 h).elim (fun h=>⟨t,List.mem_cons_self,hkey1 k x h⟩) fun h=>by obtain⟨t',h1,h2⟩:=hkey k x h;exact⟨t',List.mem_cons_of_mem _ h1,h2⟩),fun H' hH hfr j t' r' ht hr=>?_⟩;cases j with
  |zero=>simp at ht hr;subst ht;subst hr;exact Ov H' hH fun k y u b hk=>hfr k y u b (List.mem_append.2 (.inl hk))
  |succ j=>exact iF H' hH (fun k y u b hk=>hfr k y u b (List.mem_append.2 (.inr hk))) j t' r' (by simpa using ht) (by simpa using hr)
theorem Ea{w:World}{H:Nat→Prop}{ov:Nat→Option Value}{a:Act}{s:St}(hc:Conc w0 H0 w H ov N a s):∀(ts:List Nat) (rs:List V),iD s ts rs→
 ts.length=rs.length∧∃up,dW s.ob up∧∀H':Nat→Prop,(∀b,H b→H' b)→(∀k y u b,(k,y)∈up→ov k=some u→blk u=some b→H' b)→∀(j:Nat) (t:Nat) (r:V),ts[j]? =some t→rs[j]? =some r→aO w H' (a.tmps.getD t undef) r
 |[],[],_=>⟨rfl,[],dW.nil,fun H' _ _ j t r h=>by simp at h⟩
 |[],_::_,h=>by simp[iD]at h
 |_::_,[],h=>by simp[iD]at h
 |t::ts,r::rs,h=>by
  obtain⟨h1,h2⟩:=h;obtain⟨hl,up,hup,iF⟩:=Ea hc ts rs h2;have one:∃Dt,dW s.ob Dt∧∀H':Nat→Prop,(∀b,H b→H' b)→(∀k y u b,(k,y)∈Dt→ov k=some u→blk u=some b→H' b)→aO w H' (a.tmps.getD t undef) r:=by
   have hr:=hc.env t;have same:s.get t=r→r.aV=true→∃Dt,dW s.ob Dt∧∀H':Nat→Prop,(∀b,H b→H' b)→(∀k y u b,(k,y)∈Dt→ov k=some u→blk u=some b→H' b)→aO w H' (a.tmps.getD t undef) r:=fun e hok=>by
    rw[e]at hr;generalize a.tmps.getD t undef=cv at hr;refine⟨[],dW.nil,fun H' hH _=>?_⟩;cases hr with
    |base h=>exact h.mono hH (fun _ _=>rfl)
    |ow=>simp[V.aV]at hok
    |sl=>simp[V.aV]at hok
    |pt=>simp[V.aV]at hok
    |tw=>simp[V.aV]at hok
   cases r with
   |o e sz cs=>exact h1.elim
   |l sz cs=>
    obtain⟨hsz,hok,he⟩:=h1;refine⟨dU s.ob (s.get t),dX _,fun H' hH hfr=>?_⟩;have:=jJ hc.mem hsz hr hok (.inl (by rw[he];rfl)) hH hfr;rw[he]at this;exact this
   |any=>exact⟨[],dW.nil,fun H' _ _=> .any _⟩
   |_=>exact same h1.1 h1.2
  obtain⟨Dt,YD,Ov⟩:=one;refine⟨by simp[hl],Dt++up,YD.append hup,fun H' hH hfr j t' r' ht hr=>?_⟩;cases j with
  |zero=>simp at ht hr;subst ht;subst hr;exact Ov H' hH fun k y u b hk=>hfr k y u b (List.mem_append.2 (.inl hk))
  |succ j=>exact iF H' hH (fun k y u b hk=>hfr k y u b (List.mem_append.2 (.inr hk))) j t' r' (by simpa using ht) (by simpa using hr)
theorem n_(hE0:∀b,¬H0.e b){w:World}{H:Nat→Prop}{ov:Nat→Option Value}{a:Act}{s:St}(hc:Conc w0 H0 w H ov N a s){ts:List Nat}{r:V}(h:fO s ts r):WX w0 w H0.h (vT a.tmps ts) r:=by
 match ts with
 |[]=>
  simp only[fO]at h;subst h;exact⟨fun _=>False,fun b hb=>hb.elim,.inl (.t [] [] rfl fun j v x h=>by simp at h)⟩
 |[t]=>exact Ou hE0 hc (hc.env t) h
 |t::t'::ts=>
  simp only[fO]at h;cases r<;>(try simp only[]at h);case fr r'=>
   cases r'<;>(try exact h.elim);case t rs=>
    have:=D_ hE0 hc _ _ h;exact⟨fun b=>w0.heap.size≤b∧b<w.heap.size,fun b hb=>hb,.inr (.inr ⟨_,rfl,.t _ _ this.1 this.2⟩)⟩
  case t rs=>
   obtain⟨hl,up,hup,iF⟩:=Ea hc _ _ h;obtain⟨H1,eX,hm1,hfr,_⟩:=hc.mem.freeze hup;refine⟨fun b=>H1 b∧w0.heap.size≤b,fun b hb=>⟨hb.2,hm1.pV b hb.1⟩,.inl ?_⟩;have:aO w H1 (.tuple ((t::t'::ts).map fun t=>a.tmps.getD t undef).toArray) (.t rs):=by
    refine .t _ _ (by simpa using hl) fun j v x h1 h2=>?_
    simp only[List.getElem?_map,Option.map_eq_some_iff]at h1;obtain⟨q,hq,rfl⟩:=h1;exact iF H1 eX.hH hfr j q x hq h2
   exact this.mono (fun b hb=>by
    rcases Nat.lt_or_ge b w0.heap.size with h|h
    ·exact .inl ((hm1.low b hb h).resolve_right (hE0 b))
    ·exact .inr ⟨hb,h⟩) (fun _ _=>rfl)
theorem aF.plain{f:FuncId}{args:List V}{r:V}(h:aF P J f args (.fr r))(hr':r.DK=false:=by rfl):aF P J f args r:= .WY hr' fun w H vs hJ hT hH hr=>by
 refine(h w H vs hJ hT hH hr).mono ?_;rintro e w' ⟨v,rfl,hb,N,hN,hres⟩;refine⟨v,rfl,hb,N,hN,.inl ?_⟩;rcases hres with hres|⟨_,_,_,_,_,h,_⟩|⟨r',h,hres⟩
 ·cases hres
 ·cases h
 ·cases h;exact hres.mono (fun _ h=> .inr h) (fun _ _=>rfl)
theorem aF.mk(ny:P.follows .mixedOrders=true)(hJs:∀w e w',J w→aY w e w'→J w'){f:FuncId}{fn:Func}{c:Code}{ac:AC}{ts:List Nat}{args:List V}{r:V}(hf:P.funcs[f]? =some fn)(hb:fn.body=some c)(hc:fQ P fn.ntmps c=some ac)(hts:dm fn.results.toList=some ts)(hn':Nat.ble args.length fn.ntmps=true)(hmu:r.DK=false)
 (hv:qi (aF P J) (ik P) ac (fun e s=>match e with| .normal=>fO s ts r| .ret=>fO s ts r| .exit _=>False) (qC args)):aF P J f args r:=by
 have hn:args.length≤fn.ntmps:=Nat.le_of_ble_eq_true hn'
 refine .WY hmu ?_
 intro w H vs hJ hT hH iF
 refine calls_of_wp hf hb ?_
 have hlen:vs.length=args.length:=iF.1
 have hsz:(vs.toArray++Array.replicate (fn.ntmps-vs.toArray.size) undef).size=fn.ntmps:=by simp;omega
 have iG:Conc w ⟨H,fun _=>False,[]⟩ w H (fun _=>none) fn.ntmps {tmps:=vs.toArray++Array.replicate (fn.ntmps-vs.toArray.size) undef,defers:=[]} (qC args):=by
  refine⟨⟨aY.refl _ _,hT,hH,fun b hb _=> .inl hb,fun id o h=>(by cases h),fun i j oi oj vi vj b hij h=>(by cases h)⟩,hsz,rfl,fun _ _ h=>(by cases h),fun t=>?_,fun _ _=>rfl⟩;show Rep w H (fun _=>none) _ (lk (aH 0 args) t);rw[nZ];simp only[Nat.zero_le,if_true,Nat.sub_zero];by_cases ht:t<args.length
  ·have FZ:t<vs.length:=om;have:=iF.2 t vs[t] args[t] (List.getElem?_eq_getElem FZ) (List.getElem?_eq_getElem ht);simp only[Array.getD_eq_getD_getElem?,List.getD,List.getElem?_eq_getElem ht,Option.getD_some];rw[Array.getElem?_append_left (by simpa using FZ)];simp only[List.getElem?_toArray,List.getElem?_eq_getElem FZ,Option.getD_some];exact .up this
  ·have:args.getD t V.any= .any:=by simp[List.getD,List.getElem?_eq_none (Nat.le_of_not_lt ht)]
   rw[this];exact .any _
 refine wp_mono (iW (J:=J) (H0:=⟨H,fun _=>False,[]⟩) ny (fun w' hb=>hJs w _ w' hJ hb) c ac hc (fun _ _ h=>by cases h) _ _ _ w H (fun _=>none) iG hv) fun e a' w' hq=>?_
 cases e with
 |normal=>
  obtain⟨s',H',dh,hr,hc'⟩:=hq;exact⟨hc'.Am,_,bM hts _ _,_,rfl,hc'.mem.bel.below (fun _ h=>h),n_ (fun _ h=>h) hc' hr⟩
 |ret=>
  obtain⟨s',H',dh,hr,hc'⟩:=hq;exact⟨hc'.Am,_,bM hts _ _,_,rfl,hc'.mem.bel.below (fun _ h=>h),n_ (fun _ h=>h) hc' hr⟩
 |exit i=>obtain⟨s',H',dh,hr,_⟩:=hq;exact hr.elim
 |goto l=>exact hq.elim
 |panic ch=>exact hq.elim
 |outgrown=>exact hq.elim
theorem aF.mkt(ny:P.follows .mixedOrders=true)(hJs:∀w e w',J w→aY w e w'→J w'){f:FuncId}{fn:Func}{c:Code}{ac:AC}{t0:Nat}{ts:List Nat}{args:List V}{e sz:Nat}{cs rs:List V}(hf:P.funcs[f]? =some fn)(hb:fn.body=some c)(hc:fQ P fn.ntmps c=some ac)(hts:dm fn.results.toList=some (t0::ts))(YE:ts≠[])(hn':Nat.ble args.length fn.ntmps=true)
 (hsz:0<sz)
 (hv:qi (aF P J) (ik P) ac (fun ex s=>match ex with| .normal| .ret=>(∃i n,s.get t0= .ow sz i n∧s.ob i=some {e,sz,cs,mu:=true,iy:=false}∧(ts.all fun t=>(dU s.ob (s.get t)).all fun q=>q.1 != i)=true)∧iD s ts rs| .exit _=>False) (qC args)):aF P J f args (.to e sz cs rs):=by
 have hn:args.length≤fn.ntmps:=Nat.le_of_ble_eq_true hn'
 refine⟨hsz,?_⟩
 intro w H vs hJ hT hH iF
 refine calls_of_wp hf hb ?_
 have hlen:vs.length=args.length:=iF.1
 have hsize:(vs.toArray++Array.replicate (fn.ntmps-vs.toArray.size) undef).size=fn.ntmps:=by simp;omega
 have iG:Conc w ⟨H,fun _=>False,[]⟩ w H (fun _=>none) fn.ntmps {tmps:=vs.toArray++Array.replicate (fn.ntmps-vs.toArray.size) undef,defers:=[]} (qC args):=by
  refine⟨⟨aY.refl _ _,hT,hH,fun b hb _=> .inl hb,fun id o h=>(by cases h),fun i j oi oj vi vj b hij h=>(by cases h)⟩,hsize,rfl,fun _ _ h=>(by cases h),fun t=>?_,fun _ _=>rfl⟩;show Rep w H (fun _=>none) _ (lk (aH 0 args) t);rw[nZ];simp only[Nat.zero_le,if_true,Nat.sub_zero];by_cases ht:t<args.length
  ·have FZ:t<vs.length:=om;have:=iF.2 t vs[t] args[t] (List.getElem?_eq_getElem FZ) (List.getElem?_eq_getElem ht);simp only[Array.getD_eq_getD_getElem?,List.getD,List.getElem?_eq_getElem ht,Option.getD_some];rw[Array.getElem?_append_left (by simpa using FZ)];simp only[List.getElem?_toArray,List.getElem?_eq_getElem FZ,Option.getD_some];exact .up this
  ·have:args.getD t V.any= .any:=by simp[List.getD,List.getElem?_eq_none (Nat.le_of_not_lt ht)]
   rw[this];exact .any _
 have last:∀(s':St) (H':Nat→Prop) (dh:Nat→Option Value) (a':Act) (w':World),((∃i n,s'.get t0= .ow sz i n∧s'.ob i=some {e,sz,cs,mu:=true,iy:=false}∧(ts.all fun t=>(dU s'.ob (s'.get t)).all fun q=>q.1 != i)=true)∧iD s' ts rs)→Conc w ⟨H,fun _=>False,[]⟩ w' H' dh fn.ntmps a' s'→
  a'.defers=[]∧∃r,(results fn a'.tmps).run P w'= .ok r w'∧∃(u:Value) (us:List Value) (n:Nat) (xs:List Value) (N:Nat→Prop),Ending.returned r= .returned (.tuple (u::us).toArray)∧Below w.heap.size w w'∧w'.ownsRow w.heap.size e sz u n xs∧(∀b,N b→w.heap.size≤b∧b<w'.heap.size)∧(∀b,blk u=some b→¬N b)∧
   aA w' (fun b=>H b∨N b) xs cs∧(∀x,x∈cs→x.cell=true)∧n≤maxLen∧aA w' (fun b=>H b∨N b) us rs:=by
  rintro s' H' dh a' w' ⟨⟨i,n,h1,h2,h4⟩,h3⟩ hc'
  have hr:=hc'.env t0
  rw[h1]at hr
  obtain⟨ba,cap,e1,ho,_⟩:=hr.fH
  obtain⟨u,hu,hor⟩:=hc'.mem.obj i _ h2
  rw[ho]at hu;cases hu
  obtain⟨hl,up,hup,hkey,iF⟩:=vV hc' ts rs h3
  obtain⟨H1,eX,hm1,hfr,Uf⟩:=hc'.mem.freeze hup
  rcases hor.bd with ⟨h',_⟩|⟨_,_,n',xs',hown',uA,hnm'⟩
  ·cases h'
  ·have hin:∀b,H1 b→H b∨(H1 b∧w.heap.size≤b):=fun b hb=>by
    rcases Nat.lt_or_ge b w.heap.size with h|h
    ·exact .inl ((hm1.low b hb h).resolve_right (fun h=>h))
    ·exact .inr ⟨hb,h⟩
   refine⟨hc'.Am,_,bM hts _ _,a'.tmps.getD t0 undef,ts.map fun t=>a'.tmps.getD t undef,n',xs',fun b=>H1 b∧w.heap.size≤b,?_,hc'.mem.bel.below (fun _ h=>h),ownB hown' (fun b hb=>(hor.ow b hb).resolve_right (fun h=>h)),fun b hb=>⟨hb.2,hm1.pV b hb.1⟩,fun b hb hN=>?_,uA.mono (fun b hb=>hin b (eX.hH b hb)) (fun _ _=>rfl),hor.cl (lN rfl),hnm',⟨by simpa using hl,fun j v x h5 h6=>?_⟩⟩
   ·match ts,YE with
    |t1::ts',_=>rfl
   ·rcases Uf b hN.1 with h5|⟨k,x,u2,h5,h6,h7⟩
    ·have:=(hor.fz b hb).1 h5;cases this
    ·have hki:k≠i:=fun e=>by
      obtain⟨t,ht,hkt⟩:=hkey k x h5;have:=List.all_eq_true.1 (List.all_eq_true.1 h4 t ht) _ hkt;simp[e]at this
     obtain⟨ok,hok,_⟩:=hup k x h5;exact hc'.mem.sep i k _ ok _ u2 b hki.symm h2 hok ho h6 hb h7
   ·simp only[List.getElem?_map,Option.map_eq_some_iff]at h5;obtain⟨q,hq,rfl⟩:=h5;exact(iF H1 eX.hH hfr j q x hq h6).mono hin (fun _ _=>rfl)
 refine wp_mono (iW (J:=J) (H0:=⟨H,fun _=>False,[]⟩) ny (fun w' hb=>hJs w _ w' hJ hb) c ac hc (fun _ _ h=>by cases h) _ _ _ w H (fun _=>none) iG hv) fun ex a' w' hq=>?_
 cases ex with
 |normal=>obtain⟨s',H',dh,hr,hc'⟩:=hq;exact last s' H' dh a' w' hr hc'
 |ret=>obtain⟨s',H',dh,hr,hc'⟩:=hq;exact last s' H' dh a' w' hr hc'
 |exit i=>obtain⟨s',H',dh,hr,_⟩:=hq;exact hr.elim
 |goto l=>exact hq.elim
 |panic ch=>exact hq.elim
 |outgrown=>exact hq.elim
end
end Go.Proofs.YtoehbmlfnjlchaaGreatDoor.Ab
namespace Go.Proofs.YtoehbmlfnjlchaaGreatDoor.Ab
open Go Go.RowKit
inductive Fr where
 |c (c:AC)
 |b (id:Nat)
section
variable (F G:Nat→List V→V→Prop)
def vm:List Fr→(Ex→St→Prop)→St→Prop
 |[],Q,s=>Q .normal s
 | .b _::k,Q,s=>vm k Q s
 | .c c::k,Q,s=>qi F G c (fun e s'=>match e with
    | .normal=>vm k Q s'
    | .exit i=>xy i k Q s'
    | .ret=>Q .ret s') s
where xy (i:Nat):List Fr→(Ex→St→Prop)→St→Prop
 |[],Q,s=>Q (.exit i) s
 | .b j::k,Q,s=>if i=j then vm k Q s else xy i k Q s
 | .c _::k,Q,s=>xy i k Q s
def rg(dr:Bool)(l:List AO)(s:St)(K:St→Prop):Prop:=match dr with|true=>Fz F G l s K|false=>Uk F G l s K
def fin(dr m:Bool)(d:Option Nat)(v:V)(up:List (Nat×Option Ob))(r:List AO)(s:St)(K:St→Prop):Prop:=
 match dr with
 |true=>chk (v.fD s.nx=true∧(m||up.all (fun p=>p.1==s.nx))=true) (Fz F G r (s.qg d v up) K)
 |false=>Uk F G r (s.qg d v up) K
def go(dr m:Bool)(op:bY)(d:Option Nat)(r:List AO)(s:St)(K:St→Prop):Prop:=ev F G s.val s.ob s.nx (fun v up=>fin F G dr m d v up r s K) op
def YF(dr:Bool)(v:V)(want:Bool)(op:bY)(d:Option Nat)(r:List AO)(s:St)(K:St→Prop):Prop:=
 match want with
 |true=>(match v with| .b x=>cnd (.b x) (rg F G dr (⟨d,none,op⟩::r) s K) (rg F G dr r (s.qg d .un []) K)| .un=>rg F G dr r (s.qg d .un []) K|_=>False)
 |false=>(match v with| .b x=>cnd (.b x) (rg F G dr r (s.qg d .un []) K) (rg F G dr (⟨d,none,op⟩::r) s K)| .un=>rg F G dr r (s.qg d .un []) K|_=>False)
def ldp(dr m:Bool)(ob:Option Ob)(ag:Bool)(n k:Nat)(d:Option Nat)(r:List AO)(s:St)(K:St→Prop):Prop:=
 match ob with
 |some o=>if ag then chk (k+n≤o.cs.length∧r_ o=false) (fin F G dr m d (.g ((o.cs.drop k).take n)) [] r s K)else chk (k<o.cs.length) (fin F G dr m d (o.cs.getD k .un) [] r s K)
 |none=>False
def stkp(dr m:Bool)(ob:Option Ob)(j k:Nat)(v:V)(d:Option Nat)(r:List AO)(s:St)(K:St→Prop):Prop:=
 match ob with
 |some o=>chk (r_ o=true∧isRef v=true∧o.mu=true∧k+1≤o.cs.length) (fin F G dr m d .un [(j,some {o with cs:=setAt o.cs k [v]})] r s K)
 |none=>False
def stp(dr m:Bool)(ob:Option Ob)(n j k:Nat)(v:V)(d:Option Nat)(r:List AO)(s:St)(K:St→Prop):Prop:=
 match ob with
 |some o=>chk (okR s.ob v∧o.mu=true∧(dU s.ob v).all (fun q=>q.1 != j)=true∧(rd s.ob 1 v).cells.length=n∧k+n≤o.cs.length∧(rd s.ob 1 v).cells.all V.cell=true)
   (fin F G dr m d .un ((j,some {o with cs:=setAt o.cs k (rd s.ob 1 v).cells})::dU s.ob v) r s K)
 |none=>False
def YG(dr m:Bool)(ob:Nat→Option Ob)(zero:List V)(ps:List (Nat×Nat×V))(d:Option Nat)(r:List AO)(s:St)(K:St→Prop):Prop:=
 chk (iJ ob (ps.map fun p=>p.2.2)∧fitAll zero.length (ps.map fun p=>(p.1,(rd ob 1 p.2.2).cells))=true∧(ps.all fun p=>(rd ob 1 p.2.2).cells.length==p.2.1)=true)
  (fin F G dr m d (.g (iZ zero (ps.map fun p=>(p.1,(rd ob 1 p.2.2).cells)))) (ps.flatMap fun p=>dU ob p.2.2) r s K)
def YH(dr m:Bool)(ob:Nat→Option Ob)(e sz n:Nat)(zero:List V)(ps:List (Nat×V))(d:Option Nat)(r:List AO)(s:St)(K:St→Prop):Prop:=
 chk (iJ ob (ps.map fun p=>p.2)∧fitAll zero.length (ps.map fun p=>(p.1*sz,(rd ob 1 p.2).cells))=true∧(ps.all fun p=>(rd ob 1 p.2).cells.length==sz)=true)
  (fin F G dr m d (.ow sz s.nx n) ((s.nx,some {e,sz,cs:=iZ zero (ps.map fun p=>(p.1*sz,(rd ob 1 p.2).cells)),mu:=true,iy:=false})::ps.flatMap fun p=>dU ob p.2) r s K)
def YI(dr m:Bool)(ob:Option Ob)(e sz bytes j n:Nat)(u:V)(s':Nat)(xs:List V)(s1:Nat)(d:Option Nat)(r:List AO)(s:St)(K:St→Prop):Prop:=
 match ob with
 |some o=>chk (okR s.ob u∧s1=sz∧s'=sz∧o.e=e∧o.sz=sz∧o.mu=true∧o.iy=false∧xs.all V.cell=true∧(n+xs.length/sz)*bytes≤70368744177664∧n+xs.length/sz≤1099511627776)
   (fin F G dr m d (.ow sz s.nx (n+xs.length/sz)) [(j,none),(s.nx,some {o with cs:=o.cs++xs})] r s K)
 |none=>False
def YJ(dr m:Bool)(ob:Nat→Option Ob)(e sz bytes:Nat)(v u ru:V)(d:Option Nat)(r:List AO)(s:St)(K:St→Prop):Prop:=
 match v,ru with
 | .nl,.l s' xs=>chk (okR s.ob u∧s'=sz∧xs.all V.cell=true∧xs.length/sz*bytes≤70368744177664∧xs.length/sz≤1099511627776)
    (fin F G dr m d (.ow sz s.nx (xs.length/sz)) [(s.nx,some {e,sz,cs:=xs,mu:=true,iy:=false})] r s K)
 | .ow s1 j n,.l s' xs=>YI F G dr m (ob j) e sz bytes j n u s' xs s1 d r s K
 |_,_=>False
def apsq(dr m:Bool)(ob:Option Ob)(e j n:Nat)(l:List UInt8)(s1:Nat)(d:Option Nat)(r:List AO)(s:St)(K:St→Prop):Prop:=
 match ob with
 |some o=>chk (s1=1∧o.e=e∧o.sz=1∧o.mu=true∧o.iy=false∧n+l.length≤1099511627776)
   (fin F G dr m d (.ow 1 s.nx (n+l.length)) [(j,none),(s.nx,some {o with cs:=o.cs++Bt l})] r s K)
 |none=>False
def um(dr m:Bool)(args:List (Nat×V))(res:V)(d:Option Nat)(r:List AO)(s:St)(K:St→Prop):Prop:=
 match res with
 | .o e sz cs=>chk (0<sz) (fin F G dr m d (.ow sz s.nx (cs.length/sz)) ((s.nx,some {e,sz,cs,mu:=true,iy:=false})::if res.gm then args.flatMap fun p=>dU s.ob p.2 else[]) r s K)
 | .fr res=>fin F G dr m d res [] r s K
 | .to e sz cs rs=>fin F G dr m d (.tw sz s.nx (cs.length/sz) rs) ((s.nx,some {e,sz,cs,mu:=true,iy:=false})::if(V.o e sz cs).gm||(V.t rs).gm then args.flatMap fun p=>dU s.ob p.2 else[]) r s K
 | .mu _ _=>False
 |res=>fin F G dr m d res (if res.gm then args.flatMap fun p=>dU s.ob p.2 else[]) r s K
def mcq(dr m:Bool)(ob:Option Ob)(f k j:Nat)(args:List (Nat×V))(d:Option Nat)(r:List AO)(s:St)(K:St→Prop):Prop:=
 match ob with
 |some o=>
  chk (iJ s.ob (args.map fun p=>p.2)∧(args.all fun p=>(rd s.ob p.1 p.2).aV)=true∧o.mu=true∧o.iy=false∧((args.eraseIdx k).all fun p=>(dU s.ob p.2).all fun q=>q.1 != j)=true)<|
  ∃res cs',F f ((args.map fun p=>rd s.ob p.1 p.2).set k (.o o.e o.sz o.cs)) (.mu res cs')∧res.gm=false∧fin F G dr m d res ((j,some {o with cs:=cs'})::(args.eraseIdx k).flatMap fun p=>dU s.ob p.2) r s K
 |none=>False
def mcp(dr m:Bool)(f k:Nat)(v:Option V)(args:List (Nat×V))(d:Option Nat)(r:List AO)(s:St)(K:St→Prop):Prop:=
 match v with
 |some (.ow _ j _)=>mcq F G dr m (s.ob j) f k j args d r s K
 |_=>False
def ocr(dr m:Bool)(f j e sz:Nat)(cs:List V)(d:Option Nat)(r:List AO)(s:St)(K:St→Prop):Prop:=
 ∃cs',F f [.o e sz cs] (.mu (.sl e sz 0 0) cs')∧fin F G dr m d (.ow sz s.nx (cs'.length/sz)) [(j,none),(s.nx,some {e,sz,cs:=cs',mu:=true,iy:=false})] r s K
def ocp(dr m:Bool)(ob:Option Ob)(f j:Nat)(d:Option Nat)(r:List AO)(s:St)(K:St→Prop):Prop:=
 match ob with
 |some o=>chk (o.mu=true∧o.iy=false) (∃cs',F f [.o o.e o.sz o.cs] (.mu (.sl o.e o.sz 0 0) cs')∧fin F G dr m d (.ow o.sz s.nx (cs'.length/o.sz)) [(j,none),(s.nx,some {o with cs:=cs'})] r s K)
 |none=>False
def clop(dr m:Bool)(ob:Option Ob)(f j k:Nat)(d:Option Nat)(r:List AO)(s:St)(K:St→Prop):Prop:=
 match ob with
 |some o=>chk (k=0∧o.iy=true∧r_ o=false) (fin F G dr m d (.fc f o.cs) [(j,some {o with mu:=false})] r s K)
 |none=>False
def Ut(dr m:Bool)(f:Nat)(args:List (Nat×V))(d:Option Nat)(r:List AO)(s:St)(K:St→Prop):Prop:=
 chk (iJ s.ob (args.map fun p=>p.2)∧(args.all fun p=>(rd s.ob p.1 p.2).aV)=true) (∃n res,F f (args.map fun p=>Dy n s.ob p.1 p.2) res∧um F G dr m args res d r s K)
def isp(dr m:Bool)(neg:Bool)(e:Prop)(d:Option Nat)(r:List AO)(s:St)(K:St→Prop):Prop:=
 ∀t:Bool,(t=true→e)→fin F G dr m d (.b (t != neg)) [] r s K
def bxp(dr m:Bool)(ob:Nat→Option Ob)(e:Nat)(v:V)(cs:List V)(d:Option Nat)(r:List AO)(s:St)(K:St→Prop):Prop:=
 chk (okR ob v∧cs.all V.cell=true) (fin F G dr m d (.pt s.nx 0) ((s.nx,some {e,sz:=cs.length,cs:=cs,mu:=true,iy:=true})::dU ob v) r s K)
def YK(dr m:Bool)(res:Option V)(d:Option Nat)(r:List AO)(s:St)(K:St→Prop):Prop:=
 match res with|some v=>fin F G dr m d v [] r s K|none=>False
def purp(dr m:Bool)(p:PO)(vs:List V)(us:List V)(d:Option Nat)(r:List AO)(s:St)(K:St→Prop):Prop:=
 chk (iJ s.ob vs) (YK F G dr m (jA p us) d r s K)
def YL(dr m:Bool)(ob:Option Ob)(sz j off n:Nat)(u:V)(s':Nat)(xs:List V)(s1:Nat)(d:Option Nat)(r:List AO)(s:St)(K:St→Prop):Prop:=
 match ob with
 |some o=>chk (okR s.ob u∧s1=sz∧s'=sz∧o.mu=true∧off+n*sz≤o.cs.length∧xs.all V.cell=true)
   (fin F G dr m d (.i .i64 ((min (xs.length/sz) n:Nat):Int)) [(j,some {o with cs:=setAt o.cs off (xs.take (n*sz))})] r s K)
 |none=>False
def cpyp(dr m:Bool)(ob:Nat→Option Ob)(sz:Nat)(v u ru:V)(d:Option Nat)(r:List AO)(s:St)(K:St→Prop):Prop:=
 match v,ru with
 | .sl s1 j off n,.l s' xs=>YL F G dr m (ob j) sz j off n u s' xs s1 d r s K
 |_,_=>False
def xlp(dr m:Bool)(f:Nat)(args:List V)(d:Option Nat)(r:List AO)(s:St)(K:St→Prop):Prop:=
 ∃res,G f args res∧fin F G dr m d res [] r s K
end
def bY.sb(s:St):bY→bY
 | .mv x=> .mv (.k (s.val x))
 | .pick c a b=> .pick (.k (s.val c)) (.k (s.val a)) (.k (s.val b))
 | .bin op x y=> .bin op (.k (s.val x)) (.k (s.val y))
 | .BM n x y=> .BM n (.k (s.val x)) (.k (s.val y))
 | .un op x=> .un op (.k (s.val x))
 | .Ad k x=> .Ad k (.k (s.val x))
 | .six x y=> .six (.k (s.val x)) (.k (s.val y))
 | .idx n x y=> .idx n (.k (s.val x)) (.k (s.val y))
 | .ld a n x=> .ld a n (.k (s.val x))
 | .st n x y=> .st n (.k (s.val x)) (.k (s.val y))
 | .stk x y=> .stk (.k (s.val x)) (.k (s.val y))
 | .dQ n x=> .dQ n (.k (s.val x))
 | .Nc a n k x=> .Nc a n k (.k (s.val x))
 | .mk e sz b z x y=> .mk e sz b z (.k (s.val x)) (.k (s.val y))
 | .sub n x lo hi=> .sub n (.k (s.val x)) (lo.map fun x=> .k (s.val x)) (hi.map fun x=> .k (s.val x))
 | .vw x lo hi=> .vw (.k (s.val x)) (lo.map fun x=> .k (s.val x)) (hi.map fun x=> .k (s.val x))
 | .len x=> .len (.k (s.val x))
 | .slen x=> .slen (.k (s.val x))
 | .app e sz b x y=> .app e sz b (.k (s.val x)) (.k (s.val y))
 | .ext x i=> .ext (.k (s.val x)) i
 | .nc x=> .nc (.k (s.val x))
 | .mm m x y=> .mm m (.k (s.val x)) (.k (s.val y))
 | .FP n x=> .FP n (.k (s.val x))
 | .sO z ps=> .sO z ps
 | .nz e sz n z ps=> .nz e sz n z ps
 | .al e z=> .al e z
 | .call f args=> .call f args
 | .jU f args=> .jU f args
 | .bx e x=> .bx e (.k (s.val x))
 | .uZ p xs=> .uZ p xs
 | .Fq sz x y=> .Fq sz (.k (s.val x)) (.k (s.val y))
 | .Nh n sz x y=> .Nh n sz (.k (s.val x)) (.k (s.val y))
 | .nR f m args=> .nR f m args
 | .dcall x args=> .dcall (.k (s.val x)) args
 | .apps e x y=> .apps e (.k (s.val x)) (.k (s.val y))
 | .nS f x=> .nS f (.k (s.val x))
 | .clo f x=> .clo f (.k (s.val x))
 | .JM n sz x lo hi=> .JM n sz (.k (s.val x)) (lo.map fun x=> .k (s.val x)) (hi.map fun x=> .k (s.val x))
 | .bad=> .bad
section
variable {F G:Nat→List V→V→Prop} {dr m:Bool} {d:Option Nat} {r:List AO} {s:St} {K:St→Prop}
theorem Xe{ob:Nat→Option Ob}{id:Nat}{K:V→List (Nat×Option Ob)→Prop}(op:bY):ev F G s.val ob id K (op.sb s)=ev F G s.val ob id K op:=by
 cases op<;>first|rfl|skip
 all_goals
  simp only[bY.sb,ev,Option.map_map]
  rfl
theorem YM:rg F G dr [] s K=K s:=by cases dr<;>rfl
theorem Uu{op:bY}:rg F G dr (⟨d,none,op⟩::r) s K=go F G dr op.mut (op.sb s) d r s K:=by
 cases dr
 ·show Uk F G _ s K=_;unfold go;rw[Xe];rfl
 ·show Fz F G _ s K=_;unfold go;rw[Xe];rfl
theorem Ox{op:bY}{t:Nat}{want:Bool}:rg F G dr (⟨d,some (t,want),op⟩::r) s K=YF F G dr (s.get t) want op d r s K:=by
 cases dr<;>cases want<;>(simp only[rg,Uk,Fz,gv,YF];rfl)
theorem YN{op:bY}:YF F G dr (.b true) true op d r s K=rg F G dr (⟨d,none,op⟩::r) s K:=uo
theorem YO{op:bY}:YF F G dr (.b false) true op d r s K=rg F G dr r (s.qg d .un []) K:=rG
theorem YP{op:bY}:YF F G dr (.b true) false op d r s K=rg F G dr r (s.qg d .un []) K:=uo
theorem YQ{op:bY}:YF F G dr (.b false) false op d r s K=rg F G dr (⟨d,none,op⟩::r) s K:=rG
theorem YR{op:bY}{want:Bool}:YF F G dr .un want op d r s K=rg F G dr r (s.qg d .un []) K:=by cases want<;>rfl
theorem fin_f{v:V}{up:List (Nat×Option Ob)}:fin F G false m d v up r s K=rg F G false r (s.qg d v up) K:=rfl
theorem fin_t{v:V}{up:List (Nat×Option Ob)}:fin F G true m d v up r s K=chk (v.fD s.nx=true∧(m||up.all (fun p=>p.1==s.nx))=true) (rg F G true r (s.qg d v up) K):=rfl
theorem ldp_f{o:Ob}{n k:Nat}:ldp F G dr m (some o) false n k d r s K=chk (k<o.cs.length) (fin F G dr m d (o.cs.getD k .un) [] r s K):=rfl
theorem ldp_t{o:Ob}{n k:Nat}:ldp F G dr m (some o) true n k d r s K=chk (k+n≤o.cs.length∧r_ o=false) (fin F G dr m d (.g ((o.cs.drop k).take n)) [] r s K):=rfl
theorem YS{o:Ob}{j k:Nat}{v:V}:stkp F G dr m (some o) j k v d r s K=chk (r_ o=true∧isRef v=true∧o.mu=true∧k+1≤o.cs.length) (fin F G dr m d .un [(j,some {o with cs:=setAt o.cs k [v]})] r s K):=rfl
theorem Oy{z i n:Nat}:isRef (.ow z i n)=true:=rfl
theorem Oz:isRef .nl=true:=rfl
theorem stp_s{o:Ob}{n j k:Nat}{v:V}:stp F G dr m (some o) n j k v d r s K=chk (okR s.ob v∧o.mu=true∧(dU s.ob v).all (fun q=>q.1 != j)=true∧(rd s.ob 1 v).cells.length=n∧k+n≤o.cs.length∧(rd s.ob 1 v).cells.all V.cell=true)
 (fin F G dr m d .un ((j,some {o with cs:=setAt o.cs k (rd s.ob 1 v).cells})::dU s.ob v) r s K):=rfl
theorem YT{o:Ob}{e sz bytes j n:Nat}{u:V}{s':Nat}{xs:List V}{s1:Nat}:YI F G dr m (some o) e sz bytes j n u s' xs s1 d r s K=chk (okR s.ob u∧s1=sz∧s'=sz∧o.e=e∧o.sz=sz∧o.mu=true∧o.iy=false∧xs.all V.cell=true∧(n+xs.length/sz)*bytes≤70368744177664∧n+xs.length/sz≤1099511627776)
 (fin F G dr m d (.ow sz s.nx (n+xs.length/sz)) [(j,none),(s.nx,some {o with cs:=o.cs++xs})] r s K):=rfl
theorem YU{o:Ob}{sz j off n:Nat}{u:V}{s':Nat}{xs:List V}{s1:Nat}:YL F G dr m (some o) sz j off n u s' xs s1 d r s K=chk (okR s.ob u∧s1=sz∧s'=sz∧o.mu=true∧off+n*sz≤o.cs.length∧xs.all V.cell=true)
 (fin F G dr m d (.i .i64 ((min (xs.length/sz) n:Nat):Int)) [(j,some {o with cs:=setAt o.cs off (xs.take (n*sz))})] r s K):=rfl
theorem Uw{ob:Nat→Option Ob}{sz j off n:Nat}{u:V}{s':Nat}{xs:List V}{s1:Nat}:cpyp F G dr m ob sz (.sl s1 j off n) u (.l s' xs) d r s K=YL F G dr m (ob j) sz j off n u s' xs s1 d r s K:=rfl
theorem Ux{ob:Nat→Option Ob}{e sz bytes:Nat}{u:V}{s':Nat}{xs:List V}:YJ F G dr m ob e sz bytes .nl u (.l s' xs) d r s K=chk (okR s.ob u∧s'=sz∧xs.all V.cell=true∧xs.length/sz*bytes≤70368744177664∧xs.length/sz≤1099511627776)
 (fin F G dr m d (.ow sz s.nx (xs.length/sz)) [(s.nx,some {e,sz,cs:=xs,mu:=true,iy:=false})] r s K):=rfl
theorem Uy{ob:Nat→Option Ob}{e sz bytes j n:Nat}{u:V}{s':Nat}{xs:List V}{s1:Nat}:YJ F G dr m ob e sz bytes (.ow s1 j n) u (.l s' xs) d r s K=YI F G dr m (ob j) e sz bytes j n u s' xs s1 d r s K:=rfl
theorem go_mv{v:V}:go F G dr m (.mv (.k v)) d r s K=fin F G dr m d v [] r s K:=rfl
theorem JY{v u:V}:go F G dr m (.pick (.k (.b true)) (.k v) (.k u)) d r s K=fin F G dr m d v [] r s K:=uo
theorem JZ{v u:V}:go F G dr m (.pick (.k (.b false)) (.k v) (.k u)) d r s K=fin F G dr m d u [] r s K:=rG
theorem F5{k k':IntKind}{a b:Int}:go F G dr m (.bin .add (.k (.i k a)) (.k (.i k' b))) d r s K=chk (k=k') (fin F G dr m d (.i k (k.wrap (a+b))) [] r s K):=rfl
theorem F6{k k':IntKind}{a b:Int}:go F G dr m (.bin .sub (.k (.i k a)) (.k (.i k' b))) d r s K=chk (k=k') (fin F G dr m d (.i k (k.wrap (a-b))) [] r s K):=rfl
theorem F7{k k':IntKind}{a b:Int}:go F G dr m (.bin .mul (.k (.i k a)) (.k (.i k' b))) d r s K=chk (k=k') (fin F G dr m d (.i k (k.wrap (a*b))) [] r s K):=rfl
theorem F8{k k':IntKind}{a b:Int}:go F G dr m (.bin .and (.k (.i k a)) (.k (.i k' b))) d r s K=chk (k=k') (fin F G dr m d (.i k (bits .and k a b)) [] r s K):=rfl
theorem J3{k k':IntKind}{a b:Int}:go F G dr m (.bin .or (.k (.i k a)) (.k (.i k' b))) d r s K=chk (k=k') (fin F G dr m d (.i k (bits .or k a b)) [] r s K):=rfl
theorem F9{k k':IntKind}{a b:Int}:go F G dr m (.bin .xor (.k (.i k a)) (.k (.i k' b))) d r s K=chk (k=k') (fin F G dr m d (.i k (bits .xor k a b)) [] r s K):=rfl
theorem Ae{k k':IntKind}{a b:Int}:go F G dr m (.bin .andNot (.k (.i k a)) (.k (.i k' b))) d r s K=chk (k=k') (fin F G dr m d (.i k (bits .andNot k a b)) [] r s K):=rfl
theorem F_{k k':IntKind}{a b:Int}:go F G dr m (.bin .eql (.k (.i k a)) (.k (.i k' b))) d r s K=chk (k=k') (fin F G dr m d (.b (decide (a=b))) [] r s K):=rfl
theorem Gf{k k':IntKind}{a b:Int}:go F G dr m (.bin .neq (.k (.i k a)) (.k (.i k' b))) d r s K=chk (k=k') (fin F G dr m d (.b (decide (¬a=b))) [] r s K):=rfl
theorem Gg{k k':IntKind}{a b:Int}:go F G dr m (.bin .lss (.k (.i k a)) (.k (.i k' b))) d r s K=chk (k=k') (fin F G dr m d (.b (decide (a<b))) [] r s K):=rfl
theorem Gh{k k':IntKind}{a b:Int}:go F G dr m (.bin .leq (.k (.i k a)) (.k (.i k' b))) d r s K=chk (k=k') (fin F G dr m d (.b (decide (a≤b))) [] r s K):=rfl
theorem Gi{k k':IntKind}{a b:Int}:go F G dr m (.bin .gtr (.k (.i k a)) (.k (.i k' b))) d r s K=chk (k=k') (fin F G dr m d (.b (decide (b<a))) [] r s K):=rfl
theorem Gj{k k':IntKind}{a b:Int}:go F G dr m (.bin .geq (.k (.i k a)) (.k (.i k' b))) d r s K=chk (k=k') (fin F G dr m d (.b (decide (b≤a))) [] r s K):=rfl
theorem Gl{k k':IntKind}{a b:Int}:go F G dr m (.bin .quo (.k (.i k a)) (.k (.i k' b))) d r s K=chk (k=k'∧b≠0) (fin F G dr m d (.i k (k.wrap (a.tdiv b))) [] r s K):=rfl
theorem Gm{k k':IntKind}{a b:Int}:go F G dr m (.bin .rem (.k (.i k a)) (.k (.i k' b))) d r s K=chk (k=k'∧b≠0) (fin F G dr m d (.i k (a.tmod b)) [] r s K):=rfl
theorem Gn{k k':IntKind}{a b:Int}:go F G dr m (.bin .shl (.k (.i k a)) (.k (.i k' b))) d r s K=chk (0≤b) (fin F G dr m d (.i k (k.wrap (a*2^(min b.toNat k.bits)))) [] r s K):=rfl
theorem Gp{k k':IntKind}{a b:Int}:go F G dr m (.bin .shr (.k (.i k a)) (.k (.i k' b))) d r s K=chk (0≤b) (fin F G dr m d (.i k (a.fdiv (2^(min b.toNat k.bits)))) [] r s K):=rfl
theorem Gq{a b:List UInt8}:go F G dr m (.bin .add (.k (.s a)) (.k (.s b))) d r s K=chk (a.length+b.length≤9223372036854775807) (fin F G dr m d (.s (a++b)) [] r s K):=rfl
theorem Gt{a b:List UInt8}:go F G dr m (.bin .eql (.k (.s a)) (.k (.s b))) d r s K=fin F G dr m d (.b (a==b)) [] r s K:=rfl
theorem Gu{a b:List UInt8}:go F G dr m (.bin .neq (.k (.s a)) (.k (.s b))) d r s K=fin F G dr m d (.b (!(a==b))) [] r s K:=rfl
theorem YV{neg x y:Bool}:go F G dr m (.BM neg (.k (.b x)) (.k (.b y))) d r s K=fin F G dr m d (.b (if neg then !(x==y)else x==y)) [] r s K:=rfl
theorem J4{x:Bool}:go F G dr m (.un .not (.k (.b x))) d r s K=fin F G dr m d (.b !x) [] r s K:=rfl
theorem J5{k:IntKind}{a:Int}:go F G dr m (.un .neg (.k (.i k a))) d r s K=fin F G dr m d (.i k (k.wrap (0-a))) [] r s K:=rfl
theorem J6{k:IntKind}{a:Int}:go F G dr m (.un .xor (.k (.i k a))) d r s K=fin F G dr m d (.i k (bits .xor k (if k.signed then-1 else k.max) a)) [] r s K:=rfl
theorem Gv{n:Int}:go F G dr m (.un .neg (.k (.f n))) d r s K=fin F G dr m d (.f (-n)) [] r s K:=rfl
theorem YW{k k':IntKind}{a:Int}:go F G dr m (.Ad k (.k (.i k' a))) d r s K=fin F G dr m d (.i k (k.wrap a)) [] r s K:=rfl
theorem YX{l:List UInt8}{k:IntKind}{a:Int}:go F G dr m (.six (.k (.s l)) (.k (.i k a))) d r s K=chk (0≤a∧a<l.length) (fin F G dr m d (.i .u8 (l.getD a.toNat 0).toNat) [] r s K):=rfl
theorem OA{sz z:Nat}{cs:List V}{k:IntKind}{a:Int}:go F G dr m (.idx sz (.k (.l z cs)) (.k (.i k a))) d r s K=chk (z=sz∧0≤a∧a.toNat*sz<cs.length) (fin F G dr m d (.ip cs (a.toNat*sz)) [] r s K):=rfl
theorem J7{sz z j n:Nat}{k:IntKind}{a:Int}:go F G dr m (.idx sz (.k (.ow z j n)) (.k (.i k a))) d r s K=chk (z=sz∧0≤a∧a<n) (fin F G dr m d (.pt j (a.toNat*sz)) [] r s K):=rfl
theorem J9{sz z j off n:Nat}{k:IntKind}{a:Int}:go F G dr m (.idx sz (.k (.sl z j off n)) (.k (.i k a))) d r s K=chk (z=sz∧0≤a∧a<n) (fin F G dr m d (.pt j (off+a.toNat*sz)) [] r s K):=rfl
theorem sH{α β:Type}(g:α→β):∀(l:List α) (k:Nat),(l.map g).eraseIdx k=(l.eraseIdx k).map g
 |[],k=>rfl
 |x::r,0=>rfl
 |x::r,k+1=>by simp only[List.map_cons,List.eraseIdx_cons_succ,sH g r k]
theorem OB{f k:Nat}{args:List (Nat×X)}:go F G dr m (.nR f k args) d r s K=mcp F G dr m f k ((args.map fun p=>(p.1,s.val p.2))[k]?.map (·.2)) (args.map fun p=>(p.1,s.val p.2)) d r s K:=by
 have e:((args.map fun p=>(p.1,s.val p.2))[k]?.map (·.2))=(args[k]?).map fun p=>s.val p.2:=by
  rw[List.getElem?_map];cases args[k]? <;>rfl
 have e2:((args.map fun p=>(p.1,s.val p.2)).eraseIdx k)=(args.eraseIdx k).map fun p=>(p.1,s.val p.2):=by rw[sH]
 rw[e];simp only[go,ev];cases(args[k]?).map fun p=>s.val p.2 with
 |none=>rfl
 |some v=>
  cases v<;>simp only[mcp];rename_i z j n;cases hj:s.ob j with
  |none=>rfl
  |some o=>
   simp only[mcq,e2,List.map_map,List.all_map,List.flatMap_map];rfl
theorem J_{n sz q:Nat}{cs:List V}{k:IntKind}{a:Int}:go F G dr m (.Nh n sz (.k (.ip cs q)) (.k (.i k a))) d r s K=chk (0≤a∧a<n) (fin F G dr m d (.ip cs (q+a.toNat*sz)) [] r s K):=rfl
theorem Ko{n sz q j:Nat}{k:IntKind}{a:Int}:go F G dr m (.Nh n sz (.k (.pt j q)) (.k (.i k a))) d r s K=chk (0≤a∧a<n) (fin F G dr m d (.pt j (q+a.toNat*sz)) [] r s K):=rfl
theorem Uz{n sz q:Nat}{cs:List V}:go F G dr m (.JM n sz (.k (.ip cs q)) none none) d r s K=chk (q=0∧cs.length=n*sz) (fin F G dr m d (.l sz cs) [] r s K):=rfl
theorem UA{n sz q:Nat}{cs:List V}{k:IntKind}{a:Int}:go F G dr m (.JM n sz (.k (.ip cs q)) (some (.k (.i k a))) none) d r s K=chk (q=0∧cs.length=n*sz∧0≤a∧a≤n) (fin F G dr m d (.l sz (cs.drop (a.toNat*sz))) [] r s K):=rfl
theorem UB{n sz q:Nat}{cs:List V}{k:IntKind}{b:Int}:go F G dr m (.JM n sz (.k (.ip cs q)) none (some (.k (.i k b)))) d r s K=chk (q=0∧cs.length=n*sz∧0≤b∧b≤n) (fin F G dr m d (.l sz (cs.take (b.toNat*sz))) [] r s K):=rfl
theorem UC{n sz q:Nat}{cs:List V}{k k':IntKind}{a b:Int}:go F G dr m (.JM n sz (.k (.ip cs q)) (some (.k (.i k a))) (some (.k (.i k' b)))) d r s K=chk (q=0∧cs.length=n*sz∧0≤a∧a≤b∧b≤n) (fin F G dr m d (.l sz ((cs.take (b.toNat*sz)).drop (a.toNat*sz))) [] r s K):=rfl
theorem OC{n q:Nat}{cs:List V}:go F G dr m (.ld false n (.k (.ip cs q))) d r s K=chk (q<cs.length) (fin F G dr m d (cs.getD q .un) [] r s K):=rfl
theorem Kq{n q:Nat}{cs:List V}:go F G dr m (.ld true n (.k (.ip cs q))) d r s K=chk (q+n≤cs.length) (fin F G dr m d (.g ((cs.drop q).take n)) [] r s K):=rfl
theorem OD{ag:Bool}{n j q:Nat}:go F G dr m (.ld ag n (.k (.pt j q))) d r s K=ldp F G dr m (s.ob j) ag n q d r s K:=rfl
theorem Kr{j q:Nat}{v:V}:go F G dr m (.stk (.k (.pt j q)) (.k v)) d r s K=stkp F G dr m (s.ob j) j q v d r s K:=rfl
theorem OE{n j q:Nat}{v:V}:go F G dr m (.st n (.k (.pt j q)) (.k v)) d r s K=stp F G dr m (s.ob j) n j q v d r s K:=rfl
theorem Kt{off j q:Nat}:go F G dr m (.dQ off (.k (.pt j q))) d r s K=fin F G dr m d (.pt j (q+off)) [] r s K:=rfl
theorem Ku{off q:Nat}{cs:List V}:go F G dr m (.dQ off (.k (.ip cs q))) d r s K=fin F G dr m d (.ip cs (q+off)) [] r s K:=rfl
theorem YY{off n:Nat}{cs:List V}:go F G dr m (.Nc false off n (.k (.g cs))) d r s K=chk (off<cs.length) (fin F G dr m d (cs.getD off .un) [] r s K):=rfl
theorem UD{off n:Nat}{cs:List V}:go F G dr m (.Nc true off n (.k (.g cs))) d r s K=chk (off+n≤cs.length) (fin F G dr m d (.g ((cs.drop off).take n)) [] r s K):=rfl
theorem YZ{zero:List V}{ps:List (Nat×Nat×X)}:go F G dr m (.sO zero ps) d r s K=YG F G dr m s.ob zero (ps.map fun p=>(p.1,p.2.1,s.val p.2.2)) d r s K:=by
 simp only[go,ev,YG,List.map_map,List.all_map,List.flatMap_map];rfl
theorem Y0{e sz n:Nat}{zero:List V}{ps:List (Nat×X)}:go F G dr m (.nz e sz n zero ps) d r s K=YH F G dr m s.ob e sz n zero (ps.map fun p=>(p.1,s.val p.2)) d r s K:=by
 simp only[go,ev,YH,List.map_map,List.all_map,List.flatMap_map];rfl
theorem go_mk{e sz bytes:Nat}{zero:List V}{k k':IntKind}{a b:Int}:go F G dr m (.mk e sz bytes zero (.k (.i k a)) (.k (.i k' b))) d r s K=chk (0≤a∧a≤b∧b*bytes≤281474976710656∧b≤1099511627776) (fin F G dr m d (.ow sz s.nx a.toNat) [(s.nx,some {e,sz,cs:=(List.replicate a.toNat zero).flatten,mu:=true,iy:=false})] r s K):=rfl
theorem Kv{z sz:Nat}{cs:List V}:go F G dr m (.sub sz (.k (.l z cs)) none none) d r s K=chk (z=sz) (fin F G dr m d (.l z cs) [] r s K):=rfl
theorem Kw{z sz:Nat}{cs:List V}{k:IntKind}{a:Int}:go F G dr m (.sub sz (.k (.l z cs)) (some (.k (.i k a))) none) d r s K=chk (z=sz∧0≤a∧a.toNat*sz≤cs.length) (fin F G dr m d (.l z (cs.drop (a.toNat*sz))) [] r s K):=rfl
theorem Ky{z sz:Nat}{cs:List V}{k':IntKind}{b:Int}:go F G dr m (.sub sz (.k (.l z cs)) none (some (.k (.i k' b)))) d r s K=chk (z=sz∧0≤b∧b.toNat*sz≤cs.length) (fin F G dr m d (.l z (cs.take (b.toNat*sz))) [] r s K):=rfl
theorem Kz{z sz:Nat}{cs:List V}{k k':IntKind}{a b:Int}:go F G dr m (.sub sz (.k (.l z cs)) (some (.k (.i k a))) (some (.k (.i k' b)))) d r s K=chk (z=sz∧0≤a∧a≤b∧b.toNat*sz≤cs.length) (fin F G dr m d (.l z ((cs.take (b.toNat*sz)).drop (a.toNat*sz))) [] r s K):=rfl
theorem Gw{z j n sz:Nat}:go F G dr m (.sub sz (.k (.ow z j n)) none none) d r s K=chk (z=sz) (fin F G dr m d (.ow z j n) [] r s K):=rfl
theorem Gx{z j n sz:Nat}{k:IntKind}{a:Int}:go F G dr m (.sub sz (.k (.ow z j n)) (some (.k (.i k a))) none) d r s K=chk (z=sz∧0≤a∧a≤n) (fin F G dr m d (.sl z j (a.toNat*sz) (n-a.toNat)) [] r s K):=rfl
theorem Gy{z j n sz:Nat}{k':IntKind}{b:Int}:go F G dr m (.sub sz (.k (.ow z j n)) none (some (.k (.i k' b)))) d r s K=chk (z=sz∧0≤b∧b≤n) (fin F G dr m d (.sl z j 0 b.toNat) [] r s K):=rfl
theorem Gz{z j n sz:Nat}{k k':IntKind}{a b:Int}:go F G dr m (.sub sz (.k (.ow z j n)) (some (.k (.i k a))) (some (.k (.i k' b)))) d r s K=chk (z=sz∧0≤a∧a≤b∧b≤n) (fin F G dr m d (.sl z j (a.toNat*sz) (b.toNat-a.toNat)) [] r s K):=rfl
theorem GG{z j off n sz:Nat}:go F G dr m (.sub sz (.k (.sl z j off n)) none none) d r s K=chk (z=sz) (fin F G dr m d (.sl z j off n) [] r s K):=rfl
theorem GH{z j off n sz:Nat}{k:IntKind}{a:Int}:go F G dr m (.sub sz (.k (.sl z j off n)) (some (.k (.i k a))) none) d r s K=chk (z=sz∧0≤a∧a≤n) (fin F G dr m d (.sl z j (off+a.toNat*sz) (n-a.toNat)) [] r s K):=rfl
theorem GK{z j off n sz:Nat}{k':IntKind}{b:Int}:go F G dr m (.sub sz (.k (.sl z j off n)) none (some (.k (.i k' b)))) d r s K=chk (z=sz∧0≤b∧b≤n) (fin F G dr m d (.sl z j off b.toNat) [] r s K):=rfl
theorem GL{z j off n sz:Nat}{k k':IntKind}{a b:Int}:go F G dr m (.sub sz (.k (.sl z j off n)) (some (.k (.i k a))) (some (.k (.i k' b)))) d r s K=chk (z=sz∧0≤a∧a≤b∧b≤n) (fin F G dr m d (.sl z j (off+a.toNat*sz) (b.toNat-a.toNat)) [] r s K):=rfl
theorem KA{ba:Option Addr}{n c z sz:Nat}{cs:List V}{k':IntKind}{b:Int}:go F G dr m (.sub sz (.k (.kn (.slice ba n c) (.l z cs))) none (some (.k (.i k' b)))) d r s K=chk (z=sz∧0≤b∧b≤n∧0<c∧(∃g,ba=some ⟨g,0,none⟩)) (fin F G dr m d (.kn (.slice ba b.toNat c) (.l z (cs.take (b.toNat*sz)))) [] r s K):=rfl
theorem GM{sz:Nat}:go F G dr m (.sub sz (.k (.nl)) none none) d r s K=fin F G dr m d .nl [] r s K:=rfl
theorem GN{sz:Nat}{k:IntKind}{a:Int}:go F G dr m (.sub sz (.k (.nl)) (some (.k (.i k a))) none) d r s K=chk (a=0) (fin F G dr m d .nl [] r s K):=rfl
theorem GR{sz:Nat}{k':IntKind}{b:Int}:go F G dr m (.sub sz (.k (.nl)) none (some (.k (.i k' b)))) d r s K=chk (b=0) (fin F G dr m d .nl [] r s K):=rfl
theorem GU{sz:Nat}{k k':IntKind}{a b:Int}:go F G dr m (.sub sz (.k (.nl)) (some (.k (.i k a))) (some (.k (.i k' b)))) d r s K=chk (a=0∧b=0) (fin F G dr m d .nl [] r s K):=rfl
theorem OG{l:List UInt8}:go F G dr m (.vw (.k (.s l)) none none) d r s K=fin F G dr m d (.s l) [] r s K:=rfl
theorem OH{l:List UInt8}{k:IntKind}{a:Int}:go F G dr m (.vw (.k (.s l)) (some (.k (.i k a))) none) d r s K=chk (0≤a∧a≤l.length) (fin F G dr m d (.s (l.drop a.toNat)) [] r s K):=rfl
theorem OI{l:List UInt8}{k':IntKind}{b:Int}:go F G dr m (.vw (.k (.s l)) none (some (.k (.i k' b)))) d r s K=chk (0≤b∧b≤l.length) (fin F G dr m d (.s (l.take b.toNat)) [] r s K):=rfl
theorem OJ{l:List UInt8}{k k':IntKind}{a b:Int}:go F G dr m (.vw (.k (.s l)) (some (.k (.i k a))) (some (.k (.i k' b)))) d r s K=chk (0≤a∧a≤b∧b≤l.length) (fin F G dr m d (.s ((l.take b.toNat).drop a.toNat)) [] r s K):=rfl
theorem UE{l:List UInt8}:go F G dr m (.slen (.k (.s l))) d r s K=fin F G dr m d (.i .i64 l.length) [] r s K:=rfl
theorem OL{z:Nat}{cs:List V}:go F G dr m (.len (.k (.l z cs))) d r s K=fin F G dr m d (.i .i64 ((cs.length/z:Nat):Int)) [] r s K:=rfl
theorem KC{z j n:Nat}:go F G dr m (.len (.k (.ow z j n))) d r s K=fin F G dr m d (.i .i64 n) [] r s K:=rfl
theorem KD{z j off n:Nat}:go F G dr m (.len (.k (.sl z j off n))) d r s K=fin F G dr m d (.i .i64 n) [] r s K:=rfl
theorem KE:go F G dr m (.len (.k .nl)) d r s K=fin F G dr m d (.i .i64 0) [] r s K:=rfl
theorem Y1{e sz bytes:Nat}{v u:V}:go F G dr m (.app e sz bytes (.k v) (.k u)) d r s K=YJ F G dr m s.ob e sz bytes v (xx u) (rd s.ob sz (xx u)) d r s K:=rfl
theorem KF{e:Nat}{l:List UInt8}:go F G dr m (.apps e (.k .nl) (.k (.s l))) d r s K=chk (l.length≤1099511627776) (fin F G dr m d (.ow 1 s.nx l.length) [(s.nx,some {e,sz:=1,cs:=Bt l,mu:=true,iy:=false})] r s K):=rfl
theorem KG{e s1 j n:Nat}{l:List UInt8}:go F G dr m (.apps e (.k (.ow s1 j n)) (.k (.s l))) d r s K=apsq F G dr m (s.ob j) e j n l s1 d r s K:=rfl
theorem Y2{o:Ob}{e j n:Nat}{l:List UInt8}{s1:Nat}:apsq F G dr m (some o) e j n l s1 d r s K=chk (s1=1∧o.e=e∧o.sz=1∧o.mu=true∧o.iy=false∧n+l.length≤1099511627776)
 (fin F G dr m d (.ow 1 s.nx (n+l.length)) [(j,none),(s.nx,some {o with cs:=o.cs++Bt l})] r s K):=rfl
theorem Y3{sz:Nat}{v u:V}:go F G dr m (.Fq sz (.k v) (.k u)) d r s K=cpyp F G dr m s.ob sz (uu v) u (rd s.ob sz u) d r s K:=rfl
theorem go_al{e:Nat}{zero:List V}:go F G dr m (.al e zero) d r s K=fin F G dr m d (.pt s.nx 0) [(s.nx,some {e,sz:=zero.length,cs:=zero,mu:=true,iy:=true})] r s K:=rfl
theorem UF{sz j n:Nat}{rs:List V}:go F G dr m (.ext (.k (.tw sz j n rs)) 0) d r s K=fin F G dr m d (.ow sz j n) [] r s K:=rfl
theorem UG{sz j n:Nat}{rs:List V}:go F G dr m (.ext (.k (.tw sz j n rs)) 1) d r s K=chk (0<rs.length) (fin F G dr m d (rs.getD 0 .un) [] r s K):=rfl
theorem UH{sz j n:Nat}{rs:List V}:go F G dr m (.ext (.k (.tw sz j n rs)) 2) d r s K=chk (1<rs.length) (fin F G dr m d (rs.getD 1 .un) [] r s K):=rfl
theorem Y4{vs:List V}{ix:Nat}:go F G dr m (.ext (.k (.t vs)) ix) d r s K=chk (ix<vs.length) (fin F G dr m d (vs.getD ix .un) [] r s K):=rfl
theorem OM{j q:Nat}:go F G dr m (.nc (.k (.pt j q))) d r s K=fin F G dr m d (.pt j q) [] r s K:=rfl
theorem OQ{cs:List V}{q:Nat}:go F G dr m (.nc (.k (.ip cs q))) d r s K=fin F G dr m d (.ip cs q) [] r s K:=rfl
theorem go_mm{mx:Bool}{k k':IntKind}{a b:Int}:go F G dr m (.mm mx (.k (.i k a)) (.k (.i k' b))) d r s K=chk (k=k') (fin F G dr m d (.i k (if mx then max a b else min a b)) [] r s K):=rfl
theorem go_call{f:Nat}{args:List (Nat×X)}:go F G dr m (.call f args) d r s K=Ut F G dr m f (args.map fun p=>(p.1,s.val p.2)) d r s K:=by
 simp only[go,ev,Ut,List.map_map,List.all_map];congr 1;refine congrArg Exists (funext fun n=>?_);refine congrArg Exists (funext fun res=>?_);refine congr (congrArg And rfl) ?_;cases res<;>simp only[um,List.flatMap_map]
theorem OT{f:Nat}{args:List (Nat×X)}:go F G dr m (.dcall (.k (.c (.func (.func f) #[] #[]))) args) d r s K=chk (FQ f=true) (go F G dr m (.call f args) d r s K):=rfl
def snoc:List (Nat×V)→Nat×V→List (Nat×V)
 |[],x=>[x]
 |y::r,x=>y::snoc r x
theorem OU{x:Nat×V}:snoc [] x=[x]:=rfl
theorem KH{x y:Nat×V}{r:List (Nat×V)}:snoc (y::r) x=y::snoc r x:=rfl
theorem Eb:∀(l:List (Nat×V)) (x:Nat×V),snoc l x=l++[x]
 |[],_=>rfl
 |y::r,x=>by rw[snoc,Eb r x];rfl
theorem Aw{ob:Nat→Option Ob}{cs:List V}:∀(l:List V),iJ ob (l++[.ip cs 0])=iJ ob l
 |[]=>by simp[iJ,okR]
 |v::r=>by simp only[List.cons_append,iJ,Aw r]
theorem KI{f:Nat}{cs:List V}{args:List (Nat×X)}:go F G dr m (.dcall (.k (.fc f cs)) args) d r s K=chk (FQ f=true) (Ut F G dr m f (snoc (args.map fun p=>(p.1,s.val p.2)) (1,.ip cs 0)) d r s K):=by
 have h1:JO (V.fc f cs)=none:=rfl;have h2:∀n,Dy n s.ob 1 (V.ip cs 0)= .ip cs 0:=fun n=>by cases n<;>rfl
 have h3:dU s.ob (V.ip cs 0)=[]:=rfl;have h4:(rd s.ob 1 (V.ip cs 0)).aV=true:=rfl;have hv:s.val (.k (.fc f cs))= .fc f cs:=rfl;simp only[go,ev,hv,h1,Ut,Eb,List.map_append,List.map_map,List.all_append,List.all_map,List.map_cons,List.map_nil,h2,List.all_cons,List.all_nil,h4,Bool.and_true,Aw];unfold chk;refine congr (congrArg And rfl) ?_;refine congr (congrArg And rfl) ?_;refine congrArg Exists (funext fun n=>?_);refine congrArg Exists (funext fun res=>?_);refine congr (congrArg And rfl) ?_;cases res<;>simp only[um,chk,List.flatMap_append,List.flatMap_map,List.flatMap_cons,List.flatMap_nil,h3,List.append_nil]
theorem OV{f z j n:Nat}:go F G dr m (.nS f (.k (.ow z j n))) d r s K=ocp F G dr m (s.ob j) f j d r s K:=rfl
theorem ocp_s{f j e sz:Nat}{cs:List V}:ocp F G dr m (some ⟨e,sz,cs,true,false⟩) f j d r s K=ocr F G dr m f j e sz cs d r s K:=by simp only[ocp,ocr,chk,true_and]
theorem kz{f j e sz:Nat}{cs cs':List V}(hf:F f [.o e sz cs] (.mu (.sl e sz 0 0) cs'))(h:fin F G dr m d (.ow sz s.nx (cs'.length/sz)) [(j,none),(s.nx,some {e,sz,cs:=cs',mu:=true,iy:=false})] r s K):ocr F G dr m f j e sz cs d r s K:=⟨cs',hf,h⟩
theorem Y5{f j k:Nat}:go F G dr m (.clo f (.k (.pt j k))) d r s K=clop F G dr m (s.ob j) f j k d r s K:=rfl
theorem Y6{o:Ob}{f j k:Nat}:clop F G dr m (some o) f j k d r s K=chk (k=0∧o.iy=true∧r_ o=false) (fin F G dr m d (.fc f o.cs) [(j,some {o with mu:=false})] r s K):=rfl
theorem OW{f:Nat}{args:List X}:go F G dr m (.jU f args) d r s K=xlp F G dr m f (args.map s.val) d r s K:=rfl
theorem go_bx{e:Nat}{v:V}:go F G dr m (.bx e (.k v)) d r s K=bxp F G dr m s.ob e v (rd s.ob 1 v).cells d r s K:=rfl
theorem Y7{p:PO}{xs:List X}:go F G dr m (.uZ p xs) d r s K=purp F G dr m p (xs.map s.val) (xs.map fun x=>rd s.ob 1 (s.val x)) d r s K:=rfl
theorem Y8{v:V}:YK F G dr m (some v) d r s K=fin F G dr m d v [] r s K:=rfl
theorem KJ{neg:Bool}:go F G dr m (.FP neg (.k .nl)) d r s K=fin F G dr m d (.b (!neg)) [] r s K:=rfl
theorem OX{neg:Bool}{z:Nat}{cs:List V}:go F G dr m (.FP neg (.k (.l z cs))) d r s K=isp F G dr m neg (cs=[]) d r s K:=rfl
theorem KL{neg:Bool}{z j n:Nat}:go F G dr m (.FP neg (.k (.ow z j n))) d r s K=isp F G dr m neg (n=0) d r s K:=rfl
theorem Y9{neg:Bool}{e:Prop}(h:∀t:Bool,(t=true→e)→fin F G dr m d (.b (t != neg)) [] r s K):isp F G dr m neg e d r s K:=h
theorem OY{f:Nat}{args:List (Nat×V)}(res:V)(vs:List V)(h1:iJ s.ob (args.map fun p=>p.2))(h2:(args.all fun p=>(rd s.ob p.1 p.2).aV)=true)(hv:(args.map fun p=>rd s.ob p.1 p.2)=vs)(hf:F f vs res)(hk:um F G dr m args res d r s K):Ut F G dr m f args d r s K:=
 ⟨⟨h1,h2⟩,false,res,hv▸hf,hk⟩
theorem mg{f:Nat}{args:List V}(res:V)(hf:G f args res)(hk:fin F G dr m d res [] r s K):xlp F G dr m f args d r s K:=⟨res,hf,hk⟩
theorem clr_o{args:List (Nat×V)}{e sz:Nat}{cs:List V}:um F G dr m args (.o e sz cs) d r s K=chk (0<sz) (fin F G dr m d (.ow sz s.nx (cs.length/sz)) ((s.nx,some {e,sz,cs,mu:=true,iy:=false})::if(V.o e sz cs).gm then args.flatMap fun p=>dU s.ob p.2 else[]) r s K):=rfl
theorem Y_{args:List (Nat×V)}{e sz:Nat}{cs rs:List V}:um F G dr m args (.to e sz cs rs) d r s K=fin F G dr m d (.tw sz s.nx (cs.length/sz) rs) ((s.nx,some {e,sz,cs,mu:=true,iy:=false})::if(V.o e sz cs).gm||(V.t rs).gm then args.flatMap fun p=>dU s.ob p.2 else[]) r s K:=rfl
theorem Za{args:List (Nat×V)}{v:V}:um F G dr m args (.fr v) d r s K=fin F G dr m d v [] r s K:=rfl
theorem clr_i{args:List (Nat×V)}{k:IntKind}{n:Int}:um F G dr m args (.i k n) d r s K=fin F G dr m d (.i k n) [] r s K:=rfl
theorem clr_b{args:List (Nat×V)}{x:Bool}:um F G dr m args (.b x) d r s K=fin F G dr m d (.b x) [] r s K:=rfl
theorem clr_s{args:List (Nat×V)}{x:List UInt8}:um F G dr m args (.s x) d r s K=fin F G dr m d (.s x) [] r s K:=rfl
theorem clr_l{args:List (Nat×V)}{sz:Nat}{cs:List V}:um F G dr m args (.l sz cs) d r s K=fin F G dr m d (.l sz cs) (args.flatMap fun p=>dU s.ob p.2) r s K:=rfl
theorem clr_t{args:List (Nat×V)}{vs:List V}:um F G dr m args (.t vs) d r s K=fin F G dr m d (.t vs) (if(V.t vs).gm then args.flatMap fun p=>dU s.ob p.2 else[]) r s K:=rfl
theorem clr_g{args:List (Nat×V)}{vs:List V}:um F G dr m args (.g vs) d r s K=fin F G dr m d (.g vs) (if(V.g vs).gm then args.flatMap fun p=>dU s.ob p.2 else[]) r s K:=rfl
variable {Q:Ex→St→Prop} {k:List Fr}
theorem Zb:vm F G [] Q s=Q .normal s:=by simp only[vm]
theorem vm_b{id:Nat}:vm F G (.b id::k) Q s=vm F G k Q s:=by simp only[vm]
theorem OZ{a b:AC}:vm F G (.c (.seq a b)::k) Q s=vm F G (.c a:: .c b::k) Q s:=by
 simp only[vm,qi,vm.xy];all_goals first|rfl|(congr 1;done)|(congr 1;funext e s';cases e<;>rfl)
theorem Zc{id:Nat}{c:AC}:vm F G (.c (.blk id c)::k) Q s=vm F G (.c c:: .b id::k) Q s:=by
 simp only[vm,qi,vm.xy];all_goals first|rfl|(congr 1;done)|(congr 1;funext e s';cases e<;>rfl)
theorem UI:vm F G (.c .skip::k) Q s=vm F G k Q s:=by simp only[vm,qi]
theorem Zd:vm F G (.c .ret::k) Q s=Q .ret s:=by simp only[vm,qi]
theorem UJ{i:Nat}:vm F G (.c (.exit i)::k) Q s=vm.xy F G i k Q s:=by simp only[vm,qi]
theorem UK{i:Nat}:vm.xy F G i [] Q s=Q (.exit i) s:=by simp only[vm.xy]
theorem vmx_b{i j:Nat}:vm.xy F G i (.b j::k) Q s=if i=j then vm F G k Q s else vm.xy F G i k Q s:=by simp only[vm.xy]
theorem vmx_c{i:Nat}{c:AC}:vm.xy F G i (.c c::k) Q s=vm.xy F G i k Q s:=by simp only[vm.xy]
theorem aI{l:List AO}(h:∀K:St→Prop,(∀s',vm F G k Q s'→K s')→rg F G false l s K):vm F G (.c (.reg l)::k) Q s:=by
 have:=h (vm F G k Q) fun _ h=>h
 simp only[vm,qi];exact this
theorem aT{l:List AO}(h:∀K:St→Prop,(∀s',vm F G k Q s'→K s')→rg F G true l s K):vm F G (.c (.gp l)::k) Q s:=by
 have:=h (vm F G k Q) fun _ h=>h
 simp only[vm,qi];exact this
theorem aK{cf:List (Nat×Nat)}{l:List AO}(h:∀K:St→Prop,(∀s',chk (jr s' cf) (vm F G k Q s')→K s')→rg F G true l s K):vm F G (.c (.sG cf l)::k) Q s:=by
 have:=h (fun s'=>chk (jr s' cf) (vm F G k Q s')) fun _ h=>h
 simp only[vm,qi];exact this
theorem GV{s:St}{p:Prop}:chk (jr s []) p=p:=by simp[chk,jr]
theorem Ec{s:St}{x y:Nat}{r:List (Nat×Nat)}{p:Prop}:chk (jr s ((x,y)::r)) p=chk (W_ (s.get x).ref (s.get y).ref) (chk (jr s r) p):=by simp[chk,jr,and_assoc]
theorem ref_i{q:IntKind}{n:Int}:V.ref (.i q n)=none:=rfl
theorem ref_b{x:Bool}:V.ref (.b x)=none:=rfl
theorem ref_s{x:List UInt8}:V.ref (.s x)=none:=rfl
theorem ref_l{z:Nat}{x:List V}:V.ref (.l z x)=none:=rfl
theorem ref_g{x:List V}:V.ref (.g x)=none:=rfl
theorem ref_t{x:List V}:V.ref (.t x)=none:=rfl
theorem Ze{x:List V}{n:Nat}:V.ref (.ip x n)=none:=rfl
theorem Zf:V.ref .nl=none:=rfl
theorem Zg:V.ref .un=none:=rfl
theorem UL:V.ref .any=none:=rfl
theorem ref_c{x:Value}:V.ref (.c x)=none:=rfl
theorem Zh{v:Value}{x:V}:V.ref (.kn v x)=none:=rfl
theorem Zi{i n:Nat}:V.ref (.pt i n)=some i:=rfl
theorem Zj{z i n:Nat}:V.ref (.ow z i n)=some i:=rfl
theorem Zk{z i o n:Nat}:V.ref (.sl z i o n)=some i:=rfl
theorem Zl{a:Option Nat}{p:Prop}:chk (W_ none a) p=p:=by simp[chk,W_]
theorem Zm{a:Option Nat}{p:Prop}:chk (W_ a none) p=p:=by cases a<;>simp[chk,W_]
theorem Zn{a b:Nat}{p:Prop}:chk (W_ (some a) (some b)) p=if a=b then False else p:=by by_cases h:a=b<;>simp[chk,W_,h]
def vmc(F G:Nat→List V→V→Prop)(v:V)(a b:AC)(k:List Fr)(Q:Ex→St→Prop)(s:St):Prop:=cnd v (vm F G (.c a::k) Q s) (vm F G (.c b::k) Q s)
theorem UM{x:X}{a b:AC}:vm F G (.c (.cond x a b)::k) Q s=vmc F G (s.val x) a b k Q s:=by simp only[vm,qi,vmc]
theorem vmc_t{a b:AC}:vmc F G (.b true) a b k Q s=vm F G (.c a::k) Q s:=uo
theorem vmc_f{a b:AC}:vmc F G (.b false) a b k Q s=vm F G (.c b::k) Q s:=rG
theorem Zo{t:Bool}{a b:AC}(h1:t=true→vm F G (.c a::k) Q s)(h2:t=false→vm F G (.c b::k) Q s):vmc F G (.b t) a b k Q s:=qp h1 h2
theorem KN{c:AC}(ms:List (Nat×Nat×Nat))(X:Type)(mk:X→St)(I:X→Prop)(μ:X→Nat)(x0:X)(r0:List (Nat×Nat))(h0:I x0)(hms:St.lC ms s)(hle:(St.nY ms s).le r0 (mk x0))
 (round:∀x,I x→∀Q':Ex→St→Prop,(∀s' ms' x' r',I x'→μ x'<μ x→St.lC ms' s'→(St.nY ms' s').le r' (mk x')→Q' .normal s')→(∀i s',vm.xy F G i k Q s'→Q' (.exit i) s')→(∀s',Q .ret s'→Q' .ret s')→vm F G [.c c] Q' (mk x)):
 vm F G (.c (.loop c)::k) Q s:=by
 simp only[vm,qi]
 refine⟨X,mk,I,μ,⟨ms,x0,r0,h0,hms,hle⟩,fun x hx=>?_⟩
 have:=round x hx (fun e s'=>match e with| .normal=>∃ms' x' r,I x'∧μ x'<μ x∧St.lC ms' s'∧(St.nY ms' s').le r (mk x')| .exit i=>vm.xy F G i k Q s'| .ret=>Q .ret s')
  (fun s' ms' x' r' h1 h2 h3 h4=>⟨ms',x',r',h1,h2,h3,h4⟩) (fun i s' h=>h) (fun s' h=>h)
 simp only[vm,vm.xy]at this
 have e:(fun(e:Ex) (s':St)=>match e with
  | .normal=>(match Ex.normal with| .normal=>∃ms' x' r,I x'∧μ x'<μ x∧St.lC ms' s'∧(St.nY ms' s').le r (mk x')| .exit i=>vm.xy F G i k Q s'| .ret=>Q .ret s')
  | .exit i=>(match Ex.exit i with| .normal=>∃ms' x' r,I x'∧μ x'<μ x∧St.lC ms' s'∧(St.nY ms' s').le r (mk x')| .exit i=>vm.xy F G i k Q s'| .ret=>Q .ret s')
  | .ret=>(match Ex.ret with| .normal=>∃ms' x' r,I x'∧μ x'<μ x∧St.lC ms' s'∧(St.nY ms' s').le r (mk x')| .exit i=>vm.xy F G i k Q s'| .ret=>Q .ret s'))=
  (fun(e:Ex) (s':St)=>match e with| .normal=>∃ms' x' r,I x'∧μ x'<μ x∧St.lC ms' s'∧(St.nY ms' s').le r (mk x')| .exit i=>vm.xy F G i k Q s'| .ret=>Q .ret s'):=by
  funext e s';cases e<;>rfl
 simp only[]at this e
 exact this
theorem og{c:AC}(ms:List (Nat×Nat×Nat))(X:Type)(mk:X→St)(I:X→Prop)(μ:X→Nat)(x0:X)(r0:List (Nat×Nat))(h0:I x0)(hms:St.lC ms s)(hle:(St.nY ms s).le r0 (mk x0))
 (round:∀x,I x→∀Q':Ex→St→Prop,(∀s' x' r',I x'→μ x'<μ x→s'.le r' (mk x')→Q' .normal s')→(∀i s',vm.xy F G i k Q s'→Q' (.exit i) s')→(∀s',Q .ret s'→Q' .ret s')→vm F G [.c c] Q' (mk x)):
 vm F G (.c (.loop c)::k) Q s:=
 KN ms X mk I μ x0 r0 h0 hms hle fun x hx Q' hQ he hr=>round x hx Q' (fun s' x' r' h1 h2 h3=>hQ s' [] x' r' h1 h2 trivial h3) he hr
theorem kH{c:AC}(X:Type)(mk:X→St)(I:X→Prop)(μ:X→Nat)(x0:X)(r0:List (Nat×Nat))(h0:I x0)(hle:s.le r0 (mk x0))
 (round:∀x,I x→∀Q':Ex→St→Prop,(∀s' x' r',I x'→μ x'<μ x→s'.le r' (mk x')→Q' .normal s')→(∀i s',vm.xy F G i k Q s'→Q' (.exit i) s')→(∀s',Q .ret s'→Q' .ret s')→vm F G [.c c] Q' (mk x)):
 vm F G (.c (.loop c)::k) Q s:=og [] X mk I μ x0 r0 h0 trivial hle round
theorem fE{ac:AC}(h:vm F G [.c ac] Q s):qi F G ac Q s:=by
 simp only[vm,vm.xy]at h;have e:(fun(e:Ex) (s':St)=>match e with| .normal=>Q .normal s'| .exit i=>Q (.exit i) s'| .ret=>Q .ret s')=Q:=by funext e s';cases e<;>rfl
 rw[e]at h;exact h
theorem aft_s{env:List (Nat×V)}{lX up:List (Nat×Option Ob)}{nx t:Nat}{v:V}:St.qg ⟨env,lX,nx⟩ (some t) v up=⟨(t,v)::env,up++lX,nx+1⟩:=rfl
theorem aft_n{env:List (Nat×V)}{lX up:List (Nat×Option Ob)}{nx:Nat}{v:V}:St.qg ⟨env,lX,nx⟩ none v up=⟨env,up++lX,nx+1⟩:=rfl
theorem Xf{env:List (Nat×V)}{lX:List (Nat×Option Ob)}{nx t:Nat}:St.val ⟨env,lX,nx⟩ (.t t)=lk env t:=rfl
theorem Xg{v:V}:s.val (.k v)=v:=rfl
theorem Xh{env:List (Nat×V)}{lX:List (Nat×Option Ob)}{nx t:Nat}:St.get ⟨env,lX,nx⟩ t=lk env t:=rfl
theorem ob_t{env:List (Nat×V)}{lX:List (Nat×Option Ob)}{nx t:Nat}:St.ob ⟨env,lX,nx⟩ t=lo lX t:=rfl
theorem nx_t{env:List (Nat×V)}{lX:List (Nat×Option Ob)}{nx:Nat}:St.nx ⟨env,lX,nx⟩=nx:=rfl
theorem UN{i t:Nat}{o:Option Ob}{l:List (Nat×Option Ob)}:lo ((i,o)::l) t=if i=t then o else lo l t:=rfl
theorem Zp{t:Nat}:lo [] t=none:=rfl
theorem O0{p:Prop}:chk True p=p:=by simp[chk]
theorem UO{p q u:Prop}:chk (p∧q) u=chk p (chk q u):=by simp[chk,and_assoc]
end
end Go.Proofs.YtoehbmlfnjlchaaGreatDoor.Ab
namespace Go.Proofs.YtoehbmlfnjlchaaGreatDoor.Ab
open Go Go.RowKit
theorem Xi(k:Nat)(v:V)(r:List (Nat×V))(t:Nat):lk ((k,v)::r) t=if k=t then v else lk r t:=rfl
theorem UQ(l:List (Nat×Option Ob)):[]++l=l:=rfl
theorem O7(x:Nat×Option Ob)(l r:List (Nat×Option Ob)):(x::l)++r=x::(l++r):=rfl
def rdo:Option Ob→V
 |some o=>if o.iy then .any else .l o.sz o.cs
 |none=> .any
def rds(off n:Nat):Option Ob→V
 |some o=>if o.iy then .any else .l o.sz ((o.cs.drop off).take (n*o.sz))
 |none=> .any
def fro(id:Nat):Option Ob→List (Nat×Option Ob)
 |some o=>[(id,some {o with mu:=false})]
 |none=>[]
def oks(off n:Nat):Option Ob→Prop
 |some o=>off+n*o.sz≤o.cs.length
 |none=>False
section
variable {ob:Nat→Option Ob} {z:Nat}
theorem rdo_s{e sz:Nat}{cs:List V}{mu:Bool}:rdo (some ⟨e,sz,cs,mu,false⟩)= .l sz cs:=rfl
theorem rds_s{off n e sz:Nat}{cs:List V}{mu:Bool}:rds off n (some ⟨e,sz,cs,mu,false⟩)= .l sz ((cs.drop off).take (n*sz)):=rfl
theorem fro_s{id e sz:Nat}{cs:List V}{mu v:Bool}:fro id (some ⟨e,sz,cs,mu,v⟩)=[(id,some ⟨e,sz,cs,false,v⟩)]:=rfl
theorem oks_s{off n e sz:Nat}{cs:List V}{mu v:Bool}:oks off n (some ⟨e,sz,cs,mu,v⟩)=(off+n*sz≤cs.length):=rfl
theorem rd_i{k:IntKind}{n:Int}:rd ob z (.i k n)= .i k n:=rfl
theorem rd_b{x:Bool}:rd ob z (.b x)= .b x:=rfl
theorem rd_s{l:List UInt8}:rd ob z (.s l)= .s l:=rfl
theorem rd_l{s:Nat}{cs:List V}:rd ob z (.l s cs)= .l s cs:=rfl
theorem rd_g{cs:List V}:rd ob z (.g cs)= .g cs:=rfl
theorem rd_t{cs:List V}:rd ob z (.t cs)= .t cs:=rfl
theorem rd_ip{cs:List V}{k:Nat}:rd ob z (.ip cs k)= .ip cs k:=rfl
theorem rd_c{v:Value}:rd ob z (.c v)= .c v:=rfl
theorem rd_nl:rd ob z .nl= .l z []:=rfl
theorem rd_ow{s id n:Nat}:rd ob z (.ow s id n)=rdo (ob id):=by simp only[rd,rdo];cases ob id<;>rfl
theorem rd_sl{s id off n:Nat}:rd ob z (.sl s id off n)=rds off n (ob id):=by simp only[rd,rds];cases ob id<;>rfl
theorem okR_i{k:IntKind}{n:Int}:okR ob (.i k n)=True:=rfl
theorem okR_b{x:Bool}:okR ob (.b x)=True:=rfl
theorem okR_s{l:List UInt8}:okR ob (.s l)=True:=rfl
theorem okR_l{s:Nat}{cs:List V}:okR ob (.l s cs)=True:=rfl
theorem okR_g{cs:List V}:okR ob (.g cs)=True:=rfl
theorem okR_t{cs:List V}:okR ob (.t cs)=True:=rfl
theorem Zq{cs:List V}{k:Nat}:okR ob (.ip cs k)=True:=rfl
theorem okR_c{v:Value}:okR ob (.c v)=True:=rfl
theorem Zr:okR ob .nl=True:=rfl
theorem Zt{s id n:Nat}:okR ob (.ow s id n)=True:=rfl
theorem Zu{s id off n:Nat}:okR ob (.sl s id off n)=oks off n (ob id):=by simp only[okR,oks];cases ob id<;>rfl
theorem O8:iJ ob []=True:=rfl
theorem KO{v:V}{r:List V}:iJ ob (v::r)=(okR ob v∧iJ ob r):=rfl
theorem frz_i{k:IntKind}{n:Int}:dU ob (.i k n)=[]:=rfl
theorem frz_b{x:Bool}:dU ob (.b x)=[]:=rfl
theorem UR{l:List UInt8}:dU ob (.s l)=[]:=rfl
theorem frz_l{s:Nat}{cs:List V}:dU ob (.l s cs)=[]:=rfl
theorem frz_g{cs:List V}:dU ob (.g cs)=[]:=rfl
theorem frz_t{cs:List V}:dU ob (.t cs)=[]:=rfl
theorem Zv{cs:List V}{k:Nat}:dU ob (.ip cs k)=[]:=rfl
theorem frz_c{v:Value}:dU ob (.c v)=[]:=rfl
theorem Zw:dU ob .nl=[]:=rfl
theorem Zx{s id n:Nat}:dU ob (.ow s id n)=fro id (ob id):=by simp only[dU,fro];cases ob id<;>rfl
theorem Zy{s id off n:Nat}:dU ob (.sl s id off n)=fro id (ob id):=by simp only[dU,fro];cases ob id<;>rfl
theorem okA_i{k:IntKind}{n:Int}:V.aV (.i k n)=true:=rfl
theorem okA_b{x:Bool}:V.aV (.b x)=true:=rfl
theorem okA_s{l:List UInt8}:V.aV (.s l)=true:=rfl
theorem okA_l{s:Nat}{cs:List V}:V.aV (.l s cs)=true:=rfl
theorem okA_g{cs:List V}:V.aV (.g cs)=true:=rfl
theorem Zz{cs:List V}{k:Nat}:V.aV (.ip cs k)=true:=rfl
theorem okA_c{v:Value}:V.aV (.c v)=true:=rfl
theorem ZA{v:Value}{x:V}:V.aV (.kn v x)=true:=rfl
theorem UT{cs:List V}:V.cells (.g cs)=cs:=rfl
theorem UU{k:IntKind}{n:Int}:V.cells (.i k n)=[.i k n]:=rfl
theorem UW{x:Bool}:V.cells (.b x)=[.b x]:=rfl
theorem UX{l:List UInt8}:V.cells (.s l)=[.s l]:=rfl
theorem UY{s:Nat}{cs:List V}:V.cells (.l s cs)=[.l s cs]:=rfl
theorem UZ{v:Value}:V.cells (.c v)=[.c v]:=rfl
theorem rl_kn{nx:Nat}{v:Value}{x:V}:V.fD nx (.kn v x)=true:=rfl
theorem ZB{ob:Nat→Option Ob}{v:Value}{x:V}:okR ob (.kn v x)=True:=rfl
theorem ZE{ob:Nat→Option Ob}{v:Value}{x:V}:dU ob (.kn v x)=[]:=rfl
theorem O9{v:Value}{x:V}:V.cells (.kn v x)=[.kn v x]:=rfl
theorem U0{a:Option Addr}{n c:Nat}{x:V}:V.cell (.kn (.slice a n c) x)=true:=rfl
theorem O_{a:Option Addr}{n c:Nat}:V.cell (.c (.slice a n c))=true:=rfl
theorem rd_kn{ob:Nat→Option Ob}{sz:Nat}{v:Value}{x:V}:rd ob sz (.kn v x)= .kn v x:=rfl
theorem ZF{v:Value}{s:Nat}{cs:List V}:xx (.kn v (.l s cs))= .l s cs:=rfl
theorem unk_l{s:Nat}{cs:List V}:xx (.l s cs)= .l s cs:=rfl
theorem ZG{s j n:Nat}:xx (.ow s j n)= .ow s j n:=rfl
theorem ZH{s j o n:Nat}:xx (.sl s j o n)= .sl s j o n:=rfl
theorem ZJ:xx .nl= .nl:=rfl
theorem ZK{k:IntKind}{n:Int}:V.cell (.i k n)=true:=rfl
theorem ZL{x:Bool}:V.cell (.b x)=true:=rfl
theorem ZM{l:List UInt8}:V.cell (.s l)=true:=rfl
theorem ZN{s:Nat}{cs:List V}:V.cell (.l s cs)=true:=rfl
theorem ZO{cs:List V}{k:Nat}:setAt cs k []=cs:=rfl
theorem U3{cs:List V}{k:Nat}{v:V}{r:List V}:setAt cs k (v::r)=setAt (cs.set k v) (k+1) r:=rfl
theorem Pg{cs:List V}:iZ cs []=cs:=rfl
theorem KP{cs:List V}{k:Nat}{vs:List V}{r:List (Nat×List V)}:iZ cs ((k,vs)::r)=iZ (setAt cs k vs) r:=rfl
theorem ZP{n:Nat}:fitAll n []=true:=rfl
theorem U4{n k:Nat}{vs:List V}{r:List (Nat×List V)}:fitAll n ((k,vs)::r)=(decide (k+vs.length≤n)&&vs.all V.cell&&fitAll n r):=rfl
theorem all_nil(p:V→Bool):([]:List V).all p=true:=rfl
theorem all_cons(p:V→Bool)(v:V)(r:List V):(v::r).all p=(p v&&r.all p):=rfl
theorem Ph(p:Nat×Option Ob→Bool):([]:List (Nat×Option Ob)).all p=true:=rfl
theorem KQ(p:Nat×Option Ob→Bool)(v:Nat×Option Ob)(r:List (Nat×Option Ob)):(v::r).all p=(p v&&r.all p):=rfl
theorem len_nil:([]:List V).length=0:=rfl
theorem Pj(v:V)(r:List V):(v::r).length=r.length+1:=rfl
theorem set_z(v u:V)(r:List V):(v::r).set 0 u=u::r:=rfl
theorem set_s(v u:V)(r:List V)(n:Nat):(v::r).set (n+1) u=v::r.set n u:=rfl
theorem ZQ(v u:V)(r:List V):(v::r).getD 0 u=v:=rfl
theorem ZT(v u:V)(r:List V)(n:Nat):(v::r).getD (n+1) u=r.getD n u:=rfl
end
section
variable {F G:Nat→List V→V→Prop} {dr m:Bool} {d:Option Nat} {r:List AO} {s:St} {K:St→Prop}
theorem ZU{ob:Nat→Option Ob}{zero:List V}{ps:List (Nat×Nat×V)}:YG F G dr m ob zero ps d r s K=chk (iJ ob (ps.map fun p=>p.2.2)∧fitAll zero.length (ps.map fun p=>(p.1,(rd ob 1 p.2.2).cells))=true∧(ps.all fun p=>(rd ob 1 p.2.2).cells.length==p.2.1)=true)
 (fin F G dr m d (.g (iZ zero (ps.map fun p=>(p.1,(rd ob 1 p.2.2).cells)))) (ps.flatMap fun p=>dU ob p.2.2) r s K):=rfl
theorem ZV{ob:Nat→Option Ob}{e sz n:Nat}{zero:List V}{ps:List (Nat×V)}:YH F G dr m ob e sz n zero ps d r s K=chk (iJ ob (ps.map fun p=>p.2)∧fitAll zero.length (ps.map fun p=>(p.1*sz,(rd ob 1 p.2).cells))=true∧(ps.all fun p=>(rd ob 1 p.2).cells.length==sz)=true)
 (fin F G dr m d (.ow sz s.nx n) ((s.nx,some {e,sz,cs:=iZ zero (ps.map fun p=>(p.1*sz,(rd ob 1 p.2).cells)),mu:=true,iy:=false})::ps.flatMap fun p=>dU ob p.2) r s K):=rfl
end
def V.nf:V→Bool
 | .i _ _| .b _| .s _=>false
 |_=>true
def kM:List V→Bool
 |[]=>false
 |v::r=>v.nf||kM r
theorem yN(cs:List V):(cs.any fun x=>match x with| .i _ _| .b _| .s _=>false|_=>true)=kM cs:=by
 induction cs with
 |nil=>rfl
 |cons v r ih=>simp only[List.any_cons,kM,ih];cases v<;>rfl
theorem ZW{cs:List V}:V.gm (.t cs)=kM cs:=yN cs
theorem ZX{cs:List V}:V.gm (.g cs)=kM cs:=yN cs
theorem ZY{e z:Nat}{cs:List V}:V.gm (.o e z cs)=kM cs:=yN cs
theorem U5:kM []=false:=rfl
theorem Pm{v:V}{r:List V}:kM (v::r)=(v.nf||kM r):=rfl
theorem nf_i{k:IntKind}{n:Int}:V.nf (.i k n)=false:=rfl
theorem nf_b{x:Bool}:V.nf (.b x)=false:=rfl
theorem nf_s{l:List UInt8}:V.nf (.s l)=false:=rfl
theorem nf_l{z:Nat}{cs:List V}:V.nf (.l z cs)=true:=rfl
theorem xA{cs:List V}:V.nf (.g cs)=true:=rfl
theorem nf_c{v:Value}:V.nf (.c v)=true:=rfl
theorem or_f(x:Bool):(false||x)=x:=rfl
theorem or_t(x:Bool):(true||x)=true:=rfl
theorem rl_i{nx:Nat}{k:IntKind}{n:Int}:V.fD nx (.i k n)=true:=rfl
theorem rl_b{nx:Nat}{x:Bool}:V.fD nx (.b x)=true:=rfl
theorem rl_s{nx:Nat}{l:List UInt8}:V.fD nx (.s l)=true:=rfl
theorem rl_l{nx z:Nat}{cs:List V}:V.fD nx (.l z cs)=true:=rfl
theorem rl_g{nx:Nat}{cs:List V}:V.fD nx (.g cs)=true:=rfl
theorem rl_t{nx:Nat}{cs:List V}:V.fD nx (.t cs)=true:=rfl
theorem rl_ip{nx:Nat}{cs:List V}{k:Nat}:V.fD nx (.ip cs k)=true:=rfl
theorem rl_nl{nx:Nat}:V.fD nx .nl=true:=rfl
theorem rl_un{nx:Nat}:V.fD nx .un=true:=rfl
theorem ZZ{nx:Nat}:V.fD nx .any=true:=rfl
theorem rl_c{nx:Nat}{v:Value}:V.fD nx (.c v)=true:=rfl
theorem rl_ow{nx z j n:Nat}(h:j≤nx):V.fD nx (.ow z j n)=true:=by simp[V.fD,h]
theorem rl_sl{nx z j off n:Nat}(h:j≤nx):V.fD nx (.sl z j off n)=true:=by simp[V.fD,h]
theorem rl_pt{nx j off:Nat}(h:j≤nx):V.fD nx (.pt j off)=true:=by simp[V.fD,h]
def Sw:= an @ZW (an @ZX (an @ZY (an @U5 (an @Pm (an @nf_i (an @nf_b (an @nf_s (an @nf_l (an @xA (an @nf_c (an @or_f (an @or_t (an @rl_i (an @rl_b (an @rl_s (an @rl_l (an @rl_g (an @rl_t (an @rl_ip (an @rl_nl (an @rl_un (an @ZZ (an @rl_c (an @rl_ow (an @rl_sl (an @rl_pt (an @rdo_s (an @rds_s (an @fro_s (an @oks_s (an @rd_i (an @rd_b (an @rd_s (an @rd_l (an @rd_g (an @rd_t (an @rd_ip (an @rd_c (an @rd_nl (an @rd_ow (an @rd_sl (an @okR_i (an @okR_b (an @okR_s (an @okR_l (an @okR_g (an @okR_t (an @Zq (an @okR_c (an @Zr (an @Zt (an @Zu (an @O8 (an @KO (an @frz_i (an @frz_b (an @UR (an @frz_l (an @frz_g (an @frz_t (an @Zv (an @frz_c (an @Zw (an @Zx (an @Zy (an @okA_i (an @okA_b (an @okA_s (an @okA_l (an @okA_g (an @Zz (an (an @okA_c @ZA) (an @UT (an @UU (an @UW (an @UX (an @UY (an (an @UZ (an @O9 (an @U0 (an @O_ (an @rd_kn (an @rl_kn (an @ZB @ZE))))))) (an @ZK (an @ZL (an @ZM (an @ZN (an @ZO (an @U3 (an @Pg (an @KP (an @ZP (an @U4 (an @all_nil (an @all_cons (an @Ph (an @KQ (an @len_nil (an @Pj (an @set_z (an @set_s (an @ZQ (an @ZT (an @ZU (an @ZV (an @YM (an @Uu (an @Ox (an @YN (an @YO (an @YP (an @YQ (an @YR (an @fin_f (an @fin_t (an @ldp_f (an (an @ldp_t @Na) (an (an @stp_s (an @YS (an @Kr (an @Oy @Oz)))) (an @YT (an @Ux (an @Uy (an @go_mv (an @JY (an @JZ (an @F5 (an @F6 (an @F7 (an @F8 (an @J3 (an @F9 (an @Ae (an @F_ (an @Gf (an @Gg (an @Gh (an @Gi (an @Gj (an @Gl (an @Gm (an @Gn (an @Gp (an @Gq (an @Gt (an @Gu (an @YV (an @J4 (an @J5 (an @J6 (an @YW (an @YX (an @OA (an @J7 (an @J9 (an @OC (an @Kq (an @OD (an @OE (an @Kt (an @Ku (an @YY (an @UD (an @YZ (an @Y0 (an @go_mk (an @Kv (an @Kw (an @Ky (an @Kz (an @Gw (an @Gx (an @Gy (an @Gz (an @GG (an @GH (an @GK (an @GL (an (an @KA (an @ZF (an @unk_l (an @ZG (an @ZH (an @ZJ @GM)))))) (an @GN (an @GR (an @GU (an @OG (an @OH (an @OI (an @OJ (an @UE (an @OL (an @KC (an @KD (an @KE (an @Y1 (an @go_al (an @Y4 (an @OM (an @OQ (an @go_mm (an @go_call (an @OW (an @KJ (an @OX (an @KL (an @clr_o (an @clr_i (an @clr_b (an @clr_s (an @clr_l (an @clr_t (an @clr_g (an @aft_s (an @aft_n (an @Xf (an @Xg (an @Xh (an @ob_t (an @nx_t (an @UN (an @Zp (an @O0 (an @UO (an @Xi (an @UQ (an @O7 (an @decide_true @decide_false)))))))))))))))))))))))))))))))))))))))))))))))))))))))))))))))))))))))))))))))))))))))))))))))))))))))))))))))))))))))))))))))))))))))))))))))))))))))))))))))))))))))))))))))))))))))))))))))))))))))))))))))))))))))))
section
variable {s:St} {r:List (Nat×Nat)} {nx t:Nat}
theorem le_mk{env:List (Nat×V)}{lX:List (Nat×Option Ob)}:s.le r ⟨env,lX,nx⟩=(Yy s r nx env∧Yz s r nx lX∧YA r lX):=rfl
theorem U6:Yy s r nx []=True:=rfl
theorem Pn{v:V}{l:List (Nat×V)}:Yy s r nx ((t,v)::l)=(Au s r nx t v∧Yy s r nx l):=rfl
theorem U7:Yz s r nx []=True:=rfl
theorem Po{o:Option Ob}{l:List (Nat×Option Ob)}:Yz s r nx ((t,o)::l)=(t<nx∧s.ob (rn r t)=o∧TR o∧Yz s r nx l):=rfl
theorem U8:YA r []=True:=rfl
theorem Pq{o:Option Ob}{l:List (Nat×Option Ob)}:YA r ((t,o)::l)=((l.all fun p=>rn r p.1 != rn r t)=true∧YA r l):=rfl
theorem Z4:rn [] t=t:=rfl
theorem U9{k v:Nat}:rn ((k,v)::r) t=if k=t then v else rn r t:=rfl
theorem U_:Au s r nx t .any=True:=rfl
theorem leV_i{k:IntKind}{n:Int}:Au s r nx t (.i k n)=(s.get t= .i k n):=rfl
theorem leV_b{x:Bool}:Au s r nx t (.b x)=(s.get t= .b x):=rfl
theorem leV_s{l:List UInt8}:Au s r nx t (.s l)=(s.get t= .s l):=rfl
theorem leV_l{z:Nat}{cs:List V}:Au s r nx t (.l z cs)=(s.get t= .l z cs):=rfl
theorem leV_g{cs:List V}:Au s r nx t (.g cs)=(s.get t= .g cs):=rfl
theorem leV_t{cs:List V}:Au s r nx t (.t cs)=(s.get t= .t cs):=rfl
theorem Z5:Au s r nx t .nl=(s.get t= .nl):=rfl
theorem leV_c{v:Value}:Au s r nx t (.c v)=(s.get t= .c v):=rfl
theorem Z7{z i n:Nat}:Au s r nx t (.ow z i n)=(i<nx∧s.get t= .ow z (rn r i) n):=rfl
theorem Z8{z i off n:Nat}:Au s r nx t (.sl z i off n)=(i<nx∧uu (s.get t)= .sl z (rn r i) off n):=rfl
theorem Z9{i off:Nat}:Au s r nx t (.pt i off)=(i<nx∧s.get t= .pt (rn r i) off):=rfl
theorem Pv:St.nY [] s=s:=rfl
theorem KR{e z:Nat}{env:List (Nat×V)}{lX:List (Nat×Option Ob)}{l:List (Nat×Nat×Nat)}:St.nY ((t,e,z)::l) ⟨env,lX,nx⟩=St.nY l ⟨(t,.ow z nx 0)::env,(nx,some {e,sz:=z,cs:=[],mu:=true,iy:=false})::lX,nx+1⟩:=rfl
theorem KT:St.lC [] s=True:=rfl
theorem GX{e z:Nat}{env:List (Nat×V)}{lX:List (Nat×Option Ob)}{l:List (Nat×Nat×Nat)}:St.lC ((t,e,z)::l) ⟨env,lX,nx⟩=(lk env t= .nl∧0<z∧St.lC l ⟨(t,.ow z nx 0)::env,(nx,some {e,sz:=z,cs:=[],mu:=true,iy:=false})::lX,nx+1⟩):=rfl
theorem ow_eq{z i n z' i' n':Nat}:(V.ow z i n=V.ow z' i' n')=(z=z'∧i=i'∧n=n'):=sy
theorem iE{k k':IntKind}{n n':Int}:(V.i k n=V.i k' n')=(k=k'∧n=n'):=sy
theorem b_eq{x y:Bool}:(V.b x=V.b y)=(x=y):=sy
theorem KU{z z':Nat}{cs cs':List V}:(V.l z cs=V.l z' cs')=(z=z'∧cs=cs'):=sy
theorem o_eq{e e' z z':Nat}{cs cs':List V}{m m' v v':Bool}:((some ⟨e,z,cs,m,v⟩:Option Ob)=some ⟨e',z',cs',m',v'⟩)=(e=e'∧z=z'∧cs=cs'∧m=m'∧v=v'):=sy
end
def Sv:= an @Zb (an @vm_b (an @OZ (an @Zc (an @UI (an @Zd (an @UJ (an @UK (an @vmx_b (an @vmx_c (an @UM (an @vmc_t (an @vmc_f (an @Xf (an @Xg (an @GV (an @Ec (an @Xh (an @ref_i (an @ref_b (an @ref_s (an @ref_l (an @ref_g (an @ref_t (an @Ze (an @Zf (an @Zg (an @UL (an (an @ref_c @Zh) (an @Zi (an @Zj (an @Zk (an @Zl (an @Zm (an @Zn @Xi))))))))))))))))))))))))))))))))))
def Sl:= an @Pv (an @KR (an @KT (an @GX (an @le_mk (an @U6 (an @Pn (an @U7 (an (an @Po (an @X6 (an @X7 @Na))) (an @U8 (an @Pq (an @Z4 (an @U9 (an @U_ (an @leV_i (an @leV_b (an @leV_s (an @leV_l (an @leV_g (an @leV_t (an @Z5 (an @leV_c (an @Z7 (an @Z8 (an @Z9 (an @ow_eq (an @iE (an @b_eq (an @KU @o_eq))))))))))))))))))))))))))))
def Z_(i:Nat)(v:V)(l:List (Nat×Nat)):List (Nat×Nat):=
 match v with
 | .ow _ j _| .sl _ j _ _| .pt j _=>(i,j)::l
 |_=>l
def fR(s:St):List (Nat×V)→List (Nat×Nat)
 |[]=>[]
 |(t,.ow _ i _)::r|(t,.sl _ i _ _)::r|(t,.pt i _)::r=>Z_ i (s.get t) (fR s r)
 |_::r=>fR s r
def St.leA(s s':St):Prop:=s.le (fR s s'.env) s'
section
variable {F G:Nat→List V→V→Prop} {s:St} {Q:Ex→St→Prop} {k:List Fr}
theorem aab{env env':List (Nat×V)}{lX obs':List (Nat×Option Ob)}{nx nx':Nat}:St.leA ⟨env,lX,nx⟩ ⟨env',obs',nx'⟩=St.le ⟨env,lX,nx⟩ (fR ⟨env,lX,nx⟩ env') ⟨env',obs',nx'⟩:=rfl
theorem aac:fR s []=[]:=rfl
theorem fR_ow{t z i n:Nat}{r:List (Nat×V)}:fR s ((t,.ow z i n)::r)=Z_ i (s.get t) (fR s r):=rfl
theorem fR_sl{t z i o n:Nat}{r:List (Nat×V)}:fR s ((t,.sl z i o n)::r)=Z_ i (s.get t) (fR s r):=rfl
theorem fR_pt{t i o:Nat}{r:List (Nat×V)}:fR s ((t,.pt i o)::r)=Z_ i (s.get t) (fR s r):=rfl
theorem fR_i{t:Nat}{k:IntKind}{n:Int}{r:List (Nat×V)}:fR s ((t,.i k n)::r)=fR s r:=rfl
theorem fR_b{t:Nat}{x:Bool}{r:List (Nat×V)}:fR s ((t,.b x)::r)=fR s r:=rfl
theorem fR_s{t:Nat}{l:List UInt8}{r:List (Nat×V)}:fR s ((t,.s l)::r)=fR s r:=rfl
theorem fR_l{t z:Nat}{cs:List V}{r:List (Nat×V)}:fR s ((t,.l z cs)::r)=fR s r:=rfl
theorem fR_g{t:Nat}{cs:List V}{r:List (Nat×V)}:fR s ((t,.g cs)::r)=fR s r:=rfl
theorem fR_t{t:Nat}{cs:List V}{r:List (Nat×V)}:fR s ((t,.t cs)::r)=fR s r:=rfl
theorem fR_nl{t:Nat}{r:List (Nat×V)}:fR s ((t,.nl)::r)=fR s r:=rfl
theorem fR_c{t:Nat}{v:Value}{r:List (Nat×V)}:fR s ((t,.c v)::r)=fR s r:=rfl
theorem aad{t:Nat}{r:List (Nat×V)}:fR s ((t,.any)::r)=fR s r:=rfl
theorem aae{i z j n:Nat}{l:List (Nat×Nat)}:Z_ i (.ow z j n) l=(i,j)::l:=rfl
theorem aaf{i z j o n:Nat}{l:List (Nat×Nat)}:Z_ i (.sl z j o n) l=(i,j)::l:=rfl
theorem IZ{z i n:Nat}:uu (.ow z i n)= .sl z i 0 n:=rfl
theorem I4{z i o n:Nat}:uu (.sl z i o n)= .sl z i o n:=rfl
theorem sl_eq{z i o n z' i' o' n':Nat}:(V.sl z i o n=V.sl z' i' o' n')=(z=z'∧i=i'∧o=o'∧n=n'):=sy
theorem aag{i j o:Nat}{l:List (Nat×Nat)}:Z_ i (.pt j o) l=(i,j)::l:=rfl
def Sa0:= an @aab (an @aac (an @fR_ow (an @fR_sl (an @fR_pt (an @fR_i (an @fR_b (an @fR_s (an @fR_l (an @fR_g (an @fR_t (an @fR_nl (an @fR_c (an @aad (an @aae (an @aaf (an @aag (an @IZ (an @I4 @sl_eq))))))))))))))))))
theorem leV_f{s:St}{r:List (Nat×Nat)}{nx t:Nat}{n:Int}:Au s r nx t (.f n)=(s.get t= .f n):=rfl
theorem leV_z{s:St}{r:List (Nat×Nat)}{nx t:Nat}{a b:Int}:Au s r nx t (.z a b)=(s.get t= .z a b):=rfl
theorem f_eq{a b:Int}:(V.f a=V.f b)=(a=b):=sy
theorem z_eq{a b c e:Int}:(V.z a b=V.z c e)=(a=c∧b=e):=sy
theorem fR_f{t:Nat}{n:Int}{r:List (Nat×V)}:fR s ((t,.f n)::r)=fR s r:=rfl
theorem fR_z{t:Nat}{a b:Int}{r:List (Nat×V)}:fR s ((t,.z a b)::r)=fR s r:=rfl
def Sa:= an Sa0 (an @leV_f (an @leV_z (an @f_eq (an @z_eq (an @fR_f @fR_z)))))
theorem bD{c:AC}(ms:List (Nat×Nat×Nat))(X:Type)(mk:X→St)(I:X→Prop)(μ:X→Nat)(x0:X)(h0:I x0)(hms:St.lC ms s)(hle:(St.nY ms s).leA (mk x0))
 (round:∀x,I x→∀Q':Ex→St→Prop,(∀s' x',I x'→μ x'<μ x→s'.leA (mk x')→Q' .normal s')→(∀i s',vm.xy F G i k Q s'→Q' (.exit i) s')→(∀s',Q .ret s'→Q' .ret s')→vm F G [.c c] Q' (mk x)):
 vm F G (.c (.loop c)::k) Q s:=
 og ms X mk I μ x0 _ h0 hms hle fun x hx Q' hQ he hr=>round x hx Q' (fun s' x' h1 h2 h3=>hQ s' x' _ h1 h2 h3) he hr
end
section
variable {F G:Nat→List V→V→Prop} {dr m:Bool} {d:Option Nat} {r:List AO} {s:St} {K:St→Prop} {ob:Nat→Option Ob}
theorem aah{e:Nat}{v:V}{cs:List V}:bxp F G dr m ob e v cs d r s K=chk (okR ob v∧cs.all V.cell=true) (fin F G dr m d (.pt s.nx 0) ((s.nx,some {e,sz:=cs.length,cs:=cs,mu:=true,iy:=true})::dU ob v) r s K):=rfl
theorem Va{p:PO}{vs us:List V}:purp F G dr m p vs us d r s K=chk (iJ s.ob vs) (YK F G dr m (jA p us) d r s K):=rfl
end
theorem Px{neg:Bool}{ks:List Nat}{xs ys:List V}:jA (.eqs neg ks) [.g xs,.g ys]=(vk ks xs ys).map fun t=> .b (if neg then !t else t):=rfl
theorem Py{cs:List V}:jA .b2s [.l 1 cs]=(bytesOf cs).map .s:=rfl
theorem Pz{e:Nat}{l:List UInt8}(h:l.length≤9223372036854775807):jA (.s2b e) [.s l]=some (.l 1 (Bt l)):=by simp[jA,h]
theorem PD:vk [] [] []=some true:=rfl
theorem KW{k:Nat}{ks:List Nat}{x y:V}{r q:List V}:vk (k::ks) (x::r) (y::q)=both (Nb k x y) (vk ks r q):=rfl
theorem Vb{a b:Bool}:both (some a) (some b)=some (a&&b):=rfl
theorem eqc_i{k:IntKind}{a b:Int}:Nb 1 (.i k a) (.i k b)=some (decide (a=b)):=by simp[Nb]
theorem eqc_b{a b:Bool}:Nb 0 (.b a) (.b b)=some (a==b):=rfl
theorem eqc_s{a b:List UInt8}:Nb 2 (.s a) (.s b)=some (a==b):=rfl
theorem GY(l:List UInt8):bytesOf (Bt l)=some l:=by
 induction l with
 |nil=>rfl
 |cons c r ih=>
  have h1:(c.toNat:Int)<256:=by have:=c.toNat_lt;omega
  show(match bytesOf (Bt r)with|some l=>if 0≤(c.toNat:Int)∧(c.toNat:Int)<256 then some (UInt8.ofNat (c.toNat:Int).toNat::l)else none|none=>none)=_;rw[ih];simp only[];rw[if_pos ⟨om,h1⟩];simp
theorem aai(l:List UInt8):(Bt l).length=l.length:=by simp[Bt]
theorem Bt_nf(l:List UInt8):kM (Bt l)=false:=by
 induction l with
 |nil=>rfl
 |cons x r ih=>simpa[Bt,kM,V.nf]using ih
def Sx:= an @UF (an @UG (an @UH (an @Y_ (an @J_ (an @Ko (an @Uz (an @UA (an @UB (an @UC (an @Y3 (an @Uw (an @YU (an @IZ (an @I4 (an @Za (an @go_bx (an @Y7 (an @aah (an @Va (an @Y8 (an @Px (an @Py (an @PD (an @KW (an @Vb (an @eqc_i (an @eqc_b (an @eqc_s (an GY (an aai Bt_nf))))))))))))))))))))))))))))))
theorem Sb:(∀{α β:Type} {f:α→β},List.map f []=[])∧(∀{α β:Type} {f:α→β} {a:α} {l:List α},List.map f (a::l)=f a::List.map f l)∧
 (∀{α β:Type} {f:α→β} {a:α},Option.map f (some a)=some (f a))∧(∀{α β:Type} {f:α→β},Option.map f none=none)∧
 (∀{α:Type} {p:α→Bool},List.all [] p=true)∧(∀{α:Type} {p:α→Bool} {a:α} {l:List α},List.all (a::l) p=(p a&&List.all l p))∧
 (∀{α β:Type} {f:α→List β},List.flatMap f []=[])∧(∀{α β:Type} {f:α→List β} {a:α} {l:List α},List.flatMap f (a::l)=f a++List.flatMap f l)∧
 (∀b:Bool,(b&&true)=b)∧(∀b:Bool,(true&&b)=b)∧(∀b:Bool,(b&&b)=b)∧(∀{α:Type} {a:α},List.replicate 0 a=[])∧(∀{α:Type},([]:List (List α)).flatten=[])∧
 (∀p:Prop,(p∧True)=p)∧(∀p:Prop,(True∧p)=p)∧((!true)=false)∧((!false)=true)∧((¬True)=False)∧((¬False)=True)∧
 (∀{α:Type} {a:List α},a++[]=a)∧(∀n:Nat,(n≤n)=True)∧(∀a:Int,- -a=a)∧
 (∀{α:Type} {a:List α},a.drop 0=a)∧(∀{α:Type} {a:α} {l:List α} {n:Nat},(a::l).drop (n+1)=l.drop n)∧(∀{α:Type} {n:Nat},([]:List α).drop n=[])∧
 (∀{α:Type} {a:List α},a.take 0=[])∧(∀{α:Type} {a:α} {l:List α} {n:Nat},(a::l).take (n+1)=a::l.take n)∧(∀{α:Type} {n:Nat},([]:List α).take n=[]):=
 ⟨List.map_nil,List.map_cons,Option.map_some _ _,Option.map_none _,List.all_nil,List.all_cons,List.flatMap_nil,List.flatMap_cons,Bool.and_true,Bool.true_and,Bool.and_self,List.replicate_zero,List.flatten_nil,
   and_true,true_and,Bool.not_true,Bool.not_false,not_true_eq_false,not_false_eq_true,List.append_nil _,fun n=>eq_true (Nat.le_refl n),Int.neg_neg,List.drop_zero,List.drop_succ_cons,List.drop_nil,List.take_zero,List.take_succ_cons,List.take_nil⟩
section
variable {F G:Nat→List V→V→Prop} {dr m:Bool} {d:Option Nat} {r:List AO} {s:St} {K:St→Prop}
theorem pq{f:Nat}{args:List (Nat×V)}(res:V)(vs:List V)(hf:F f vs res)(hv:(args.map fun p=>rd s.ob p.1 p.2)=vs)
 (hk:chk (iJ s.ob (args.map fun p=>p.2)) (chk ((args.all fun p=>(rd s.ob p.1 p.2).aV)=true) (um F G dr m args res d r s K))):Ut F G dr m f args d r s K:=
 OY res vs hk.1 hk.2.1 hv hf hk.2.2
theorem Vd{f:Nat}{args:List (Nat×V)}(res:V)(vs:List V)(hf:F f vs res)(hv:(args.map fun p=>Dy true s.ob p.1 p.2)=vs)
 (hk:chk (iJ s.ob (args.map fun p=>p.2)) (chk ((args.all fun p=>(rd s.ob p.1 p.2).aV)=true) (um F G dr m args res d r s K))):Ut F G dr m f args d r s K:=
 ⟨⟨hk.1,hk.2.1⟩,true,res,hv▸hf,hk.2.2⟩
end
section
variable (F G:Nat→List V→V→Prop) (dr m:Bool)
def clq(f:Nat)(vs:List V)(args:List (Nat×V))(d:Option Nat)(r:List AO)(s:St)(K:St→Prop):Prop:=
 ∃res,F f vs res∧chk (iJ s.ob (args.map fun p=>p.2)) (chk ((args.all fun p=>(rd s.ob p.1 p.2).aV)=true) (um F G dr m args res d r s K))
end
section
variable {F G:Nat→List V→V→Prop} {dr m:Bool} {d:Option Nat} {r:List AO} {s:St} {K:St→Prop}
theorem oh{f:Nat}{args:List (Nat×V)}(h:clq F G dr m f (args.map fun p=>rd s.ob p.1 p.2) args d r s K):Ut F G dr m f args d r s K:=
 let ⟨res,hf,hk⟩:=h
 pq res _ hf rfl hk
theorem kC{f:Nat}{vs:List V}{res:V}{args:List (Nat×V)}(hf:F f vs res)(hk:chk (iJ s.ob (args.map fun p=>p.2)) (chk ((args.all fun p=>(rd s.ob p.1 p.2).aV)=true) (um F G dr m args res d r s K))):clq F G dr m f vs args d r s K:=⟨res,hf,hk⟩
end
section
variable {ob:Nat→Option Ob} {z:Nat}
theorem rdd_f{n:Int}:rd ob z (.f n)= .f n:=rfl
theorem rdd_z{a b:Int}:rd ob z (.z a b)= .z a b:=rfl
theorem okR_f{n:Int}:okR ob (.f n)=True:=rfl
theorem okR_z{a b:Int}:okR ob (.z a b)=True:=rfl
theorem frz_f{n:Int}:dU ob (.f n)=[]:=rfl
theorem frz_z{a b:Int}:dU ob (.z a b)=[]:=rfl
theorem okA_f{n:Int}:V.aV (.f n)=true:=rfl
theorem okA_z{a b:Int}:V.aV (.z a b)=true:=rfl
theorem rl_f{nx:Nat}{n:Int}:V.fD nx (.f n)=true:=rfl
theorem rl_z{nx:Nat}{a b:Int}:V.fD nx (.z a b)=true:=rfl
theorem nf_f{n:Int}:V.nf (.f n)=true:=rfl
theorem nf_z{a b:Int}:V.nf (.z a b)=true:=rfl
end
section
variable {F G:Nat→List V→V→Prop} {dr m:Bool} {d:Option Nat} {r:List AO} {s:St} {K:St→Prop}
theorem clr_f{args:List (Nat×V)}{n:Int}:um F G dr m args (.f n) d r s K=fin F G dr m d (.f n) [] r s K:=rfl
theorem clr_z{args:List (Nat×V)}{a b:Int}:um F G dr m args (.z a b) d r s K=fin F G dr m d (.z a b) [] r s K:=rfl
end
theorem PE{k:IntKind}{n:Int}(h:n.natAbs<9007199254740992):jA (.nm .i2f) [.i k n]=some (.f n):=if_pos h
theorem PG{n:Int}(h: -9223372036854775808≤n∧n≤9223372036854775807):jA (.nm (.f2i .i64)) [.f n]=some (.i .i64 n):=if_pos h
theorem PH{a b:Int}:jA (.nm .mkz) [.f a,.f b]=some (.z a b):=rfl
theorem Ve{a b:Int}:jA (.nm .re) [.z a b]=some (.f a):=rfl
theorem Vf{a b:Int}:jA (.nm .im) [.z a b]=some (.f b):=rfl
theorem KX{a b c e:Int}(h:(a+c).natAbs<9007199254740992∧(b+e).natAbs<9007199254740992):jA (.nm .TS) [.z a b,.z c e]=some (.z (a+c) (b+e)):=if_pos h
theorem KY{a b c e:Int}(h:(a-c).natAbs<9007199254740992∧(b-e).natAbs<9007199254740992):jA (.nm .TT) [.z a b,.z c e]=some (.z (a-c) (b-e)):=if_pos h
theorem KZ{a b c e:Int}(h:(a*c).natAbs+(b*e).natAbs<9007199254740992∧(a*e).natAbs+(b*c).natAbs<9007199254740992):jA (.nm .TU) [.z a b,.z c e]=some (.z (a*c-b*e) (a*e+b*c)):=if_pos h
def Sg:= an @rdd_f (an @rdd_z (an @okR_f (an @okR_z (an @frz_f (an @frz_z (an @okA_f (an @okA_z (an @rl_f (an @rl_z (an @nf_f (an @nf_z (an @clr_f (an @clr_z (an @PE (an @PG (an @PH (an @Ve (an @Vf (an @KX (an @KY (an @KZ @Gv)))))))))))))))))))))
section
variable (F G:Nat→List V→V→Prop) (dr m:Bool)
def mcr(f k j:Nat)(o:Ob)(vs:List V)(args:List (Nat×V))(d:Option Nat)(r:List AO)(s:St)(K:St→Prop):Prop:=
 ∃res cs',F f vs (.mu res cs')∧chk (iJ s.ob (args.map fun p=>p.2)) (chk ((args.all fun p=>(rd s.ob p.1 p.2).aV)=true) (chk (o.mu=true) (chk (o.iy=false) (chk (((args.eraseIdx k).all fun p=>(dU s.ob p.2).all fun q=>q.1 != j)=true)
  (chk (res.gm=false) (fin F G dr m d res ((j,some {o with cs:=cs'})::(args.eraseIdx k).flatMap fun p=>dU s.ob p.2) r s K))))))
end
section
variable {F G:Nat→List V→V→Prop} {dr m:Bool} {d:Option Nat} {r:List AO} {s:St} {K:St→Prop}
theorem aaj{f k z j n:Nat}{args:List (Nat×V)}:mcp F G dr m f k (some (.ow z j n)) args d r s K=mcq F G dr m (s.ob j) f k j args d r s K:=rfl
theorem oz{f k j:Nat}{o:Ob}{args:List (Nat×V)}(h:mcr F G dr m f k j o ((args.map fun p=>rd s.ob p.1 p.2).set k (.o o.e o.sz o.cs)) args d r s K):mcq F G dr m (some o) f k j args d r s K:=by
 obtain⟨res,cs',h1,h2,h3,h4,h5,h6,h7,h8⟩:=h;exact⟨⟨h2,h3,h4,h5,h6⟩,res,cs',h1,h7,h8⟩
theorem kD{f k j:Nat}{o:Ob}{vs:List V}{res:V}{cs':List V}{args:List (Nat×V)}(hf:F f vs (.mu res cs'))(h:chk (iJ s.ob (args.map fun p=>p.2)) (chk ((args.all fun p=>(rd s.ob p.1 p.2).aV)=true) (chk (o.mu=true) (chk (o.iy=false) (chk (((args.eraseIdx k).all fun p=>(dU s.ob p.2).all fun q=>q.1 != j)=true)
 (chk (res.gm=false) (fin F G dr m d res ((j,some {o with cs:=cs'})::(args.eraseIdx k).flatMap fun p=>dU s.ob p.2) r s K))))))):mcr F G dr m f k j o vs args d r s K:=⟨res,cs',hf,h⟩
end
theorem aak{v x:V}{r:List V}:(v::r).set 0 x=x::r:=rfl
theorem aal{v x:V}{r:List V}{n:Nat}:(v::r).set (n+1) x=v::r.set n x:=rfl
theorem aam{v:Nat×V}{r:List (Nat×V)}:(v::r).eraseIdx 0=r:=rfl
theorem aan{v:Nat×V}{r:List (Nat×V)}{n:Nat}:(v::r).eraseIdx (n+1)=v::r.eraseIdx n:=rfl
theorem aao{v:Nat×V}{r:List (Nat×V)}:(v::r)[0]? =some v:=rfl
theorem aap{v:Nat×V}{r:List (Nat×V)}{n:Nat}:(v::r)[n+1]? =r[n]? :=rfl
theorem Vg:V.gm (.t [])=false:=rfl
theorem mapS{v:Nat×V}{g:Nat×V→V}:(some v).map g=some (g v):=rfl
section
variable {ob:Nat→Option Ob} {z:Nat}
theorem aaq{f:Nat}{cs:List V}:okR ob (.fc f cs)=True:=rfl
theorem rd_fc{f:Nat}{cs:List V}:rd ob z (.fc f cs)= .fc f cs:=rfl
theorem aar{f:Nat}{cs:List V}:dU ob (.fc f cs)=[]:=rfl
theorem aas{f:Nat}{cs:List V}:V.aV (.fc f cs)=true:=rfl
theorem rl_fc{nx f:Nat}{cs:List V}:V.fD nx (.fc f cs)=true:=rfl
theorem nf_fc{f:Nat}{cs:List V}:V.nf (.fc f cs)=true:=rfl
end
def Sm:=an @OB (an @aaj (an @aak (an @aal (an @aam (an @aan (an @aao (an @aap (an Vg (an @mapS (an @OT (an @KF (an @KG (an @Y2 (an @KI (an @OU (an @KH (an @OV (an @ocp_s (an @Y5 (an @Y6 (an @aaq (an @rd_fc (an @aar (an @aas (an @rl_fc (an @nf_fc (an Bool.true_or (an Bool.or_true (an Bool.false_or (an Bool.or_false Nj))))))))))))))))))))))))))))))
theorem ak{args:List V}:qC args=⟨aH 0 args,[],0⟩:=rfl
def S0:= an Sm (an Sg (an Sw (an Sx (an Sb (an @Pz (an @decide_eq_true_eq (an @decide_true (an @decide_false (an @X_ @Int.cast_ofNat_Int)))))))))
end Go.Proofs.YtoehbmlfnjlchaaGreatDoor.Ab
namespace Go.Proofs.YtoehbmlfnjlchaaGreatDoor.Ab
open Go Go.RowKit
theorem K_{w:World}{B e sz n:Nat}{v:Value}{xs:List Value}{cs:List V}{H:Nat→Prop}(hsz:0<sz)(ho:w.ownsRow B e sz v n xs)(hr:aA w H xs cs)(hm:n≤maxLen)(hH:∀b,blk v=some b→H b):aO w H v (.l sz cs):=by
 have ho':=ho;rcases ho.2 with ⟨rfl,rfl⟩|⟨g,cap,cur,rfl,hb,hh,hnc,hcm,hcs,htake⟩
 ·have h0:cs.length=0:=by rw[←hr.1,ho.1,Nat.zero_mul]
  exact .l none 0 0 sz cs (fun _=>undef) 0 0 hsz (by rw[h0,Nat.zero_mul]) (Nat.zero_le _) (Nat.le_refl _) (.inl (List.eq_nil_of_length_eq_zero h0)) (fun j hj=>om) (fun j x hx=>by
   have:=(List.getElem?_eq_some_iff.1 hx).1;omega)
 ·refine .l _ n cap sz cs (fun j=>xs.getD j undef) g 0 hsz (by rw[←hr.1,ho.1]) hm hnc (.inr ⟨rfl,hH g rfl⟩) (fun j hj=>?_) (fun j x hx=>?_)
  ·have hj':j<xs.length:=by rw[hr.1];exact hj
   rw[Nat.zero_add,ho'.cellAt j (by rw[←ho.1];exact hj'),List.getElem?_eq_getElem hj',List.getD_eq_getElem?_getD,List.getElem?_eq_getElem hj'];rfl
  ·have hj:j<cs.length:=(List.getElem?_eq_some_iff.1 hx).1;have hj':j<xs.length:=by rw[hr.1];exact hj
   have:=hr.2 j xs[j] x (List.getElem?_eq_getElem hj') hx;rw[List.getD_eq_getElem?_getD,List.getElem?_eq_getElem hj'];exact this
theorem aF.frozen{P:Program}{J:World→Prop}{f:FuncId}{args:List V}{e sz:Nat}{cs:List V}(h:aF P J f args (.o e sz cs)):aF P J f args (.l sz cs):= .WY rfl fun w H vs hJ hT hH hr=>by
 refine(h w H vs hJ hT hH hr).mono ?_;rintro x w' ⟨v,rfl,hb,N,hN,hres⟩;rcases hres with hres|⟨e',sz',cs',n,xs,h1,hsz,ho,hra,_,hm,hno⟩|⟨r',h,_⟩
 ·cases hres
 ·cases h1;refine⟨v,rfl,hb,fun b=>N b∨blk v=some b,fun b hb'=>?_,.inl ?_⟩
  ·rcases hb' with h2|h2
   ·exact hN b h2
   ·rcases ho.2 with ⟨rfl,_⟩|⟨g,cap,cur,rfl,hbg,hh,_⟩
    ·cases h2
    ·cases h2;exact⟨hbg,(Array.getElem?_eq_some_iff.1 hh).1⟩
  ·exact K_ hsz ho (hra.mono (fun b h=>h.elim .inl fun h=> .inr (.inl h)) (fun _ _=>rfl)) hm (fun b h=> .inr (.inr h))
 ·cases h
end Go.Proofs.YtoehbmlfnjlchaaGreatDoor.Ab
namespace Go.Proofs.YtoehbmlfnjlchaaGreatDoor.Ab
open Go Go.RowKit
theorem ai{a b:Prop}(x:a)(y:b):a∧b:=⟨x,y⟩
theorem tu{B p q:Prop}(b:B)(k:q)(h:PLift B→PLift q→p:=by
 intro bz hq;repeat first|(refine hK _ ?_;clear hK K)|simp only[Sv,↓reduceIte,Nat.reduceEqDiff]|((first|refine aI (fun K hK=>?_)|refine aT (fun K hK=>?_)|refine aK (fun K hK=>?_)|refine oh ?_|(apply kC;assumption)|refine oz ?_|(apply kD;assumption)|(apply kz;assumption));simp(disch:=(first|omega|assumption)) only[S1,↓reduceIte,Nat.reduceEqDiff,Nat.reduceAdd,Nat.reduceMul,Nat.reduceDiv,bY.sb,bY.mut,dH,↓Bool.false_eq_true,beq_self_eq_true,ite_self,Nat.reduceLeDiff,Int.reduceEq,Int.reduceSub,Int.reduceAdd,Int.reduceNeg,Int.reduceLT,Int.reduceLE,Nat.reduceLT,bz.down])
 exact hq.down):p:=h ⟨b⟩ ⟨k⟩
theorem prQ{B p q:Prop}(b:B)(k:q)(h:PLift B→PLift q→p:=by
 intro bz hq;repeat first|(refine hK _ ?_;clear hK K)|simp only[Sv,↓reduceIte,Nat.reduceEqDiff]|((first|refine aI (fun K hK=>?_)|refine aT (fun K hK=>?_)|refine aK (fun K hK=>?_));simp(disch:=(first|omega|assumption)) only[S1,↓reduceIte,Nat.reduceEqDiff,Nat.reduceAdd,Nat.reduceMul,Nat.reduceDiv,bY.sb,bY.mut,dH,↓Bool.false_eq_true,beq_self_eq_true,ite_self,Nat.reduceLeDiff,Int.reduceEq,Int.reduceSub,Int.reduceAdd,Int.reduceNeg,Int.reduceLT,Int.reduceLE,Nat.reduceLT,bz.down])
 exact hq.down):p:=h ⟨b⟩ ⟨k⟩
theorem aP{B p q:Prop}(b:B)(k:q)(h:PLift B→PLift q→p:=by
 intro bz hq;repeat first|(refine hK _ ?_;clear hK K)|((first|refine aI (fun K hK=>?_)|refine aT (fun K hK=>?_)|refine aK (fun K hK=>?_));simp(disch:=(first|omega|assumption)) only[S1,↓reduceIte,Nat.reduceEqDiff,Nat.reduceAdd,Nat.reduceMul,Nat.reduceDiv,bY.sb,bY.mut,dH,↓Bool.false_eq_true,beq_self_eq_true,ite_self,Nat.reduceLeDiff,Int.reduceEq,Int.reduceSub,Int.reduceAdd,Int.reduceNeg,Int.reduceLT,Int.reduceLE,Nat.reduceLT,bz.down];refine hK _ ?_;clear hK K)|simp only[Sv,↓reduceIte,Nat.reduceEqDiff]
 exact hq.down):p:=h ⟨b⟩ ⟨k⟩
theorem dn{B p q:Prop}(b:B)(k:q)(h:PLift B→PLift q→p:=by
 intro bz hq;simp(disch:=(first|omega|assumption)) only[S1,↓reduceIte,Nat.reduceEqDiff,Nat.reduceAdd,Nat.reduceMul,Nat.reduceDiv,bY.sb,bY.mut,dH,↓Bool.false_eq_true,beq_self_eq_true,ite_self,Nat.reduceLeDiff,Int.reduceEq,Int.reduceSub,Int.reduceAdd,Int.reduceNeg,Int.reduceLT,Int.reduceLE,Nat.reduceLT,bz.down];exact hq.down):p:=h ⟨b⟩ ⟨k⟩
theorem oC{B p:Prop}(b:B)(h:PLift B→p:=by
 intro bz;simp(disch:=(first|omega|assumption)) only[fO,iD,iK,ku,gG,V.aV,and_true,true_and,S1,↓reduceIte,Nat.reduceEqDiff,Nat.reduceAdd,Nat.reduceMul,Nat.reduceDiv,bY.sb,bY.mut,dH,↓Bool.false_eq_true,beq_self_eq_true,ite_self,Nat.reduceLeDiff,Int.reduceEq,Int.reduceSub,Int.reduceAdd,Int.reduceNeg,Int.reduceLT,Int.reduceLE,Nat.reduceLT,bz.down]):p:=h ⟨b⟩
theorem rcQ{B p:Prop}(b:B)(h:PLift B→p:=by
 intro bz;simp(disch:=(first|omega|assumption)) only[uI,kN,jE,wY,wZ,qF,w_,xe,kP,qG,qH,jF,iO,fO,iD,iK,ku,gG,V.aV,and_true,true_and,S1,↓reduceIte,Nat.reduceEqDiff,Nat.reduceAdd,Nat.reduceMul,Nat.reduceDiv,bY.sb,bY.mut,dH,↓Bool.false_eq_true,beq_self_eq_true,ite_self,Nat.reduceLeDiff,Int.reduceEq,Int.reduceSub,Int.reduceAdd,Int.reduceNeg,Int.reduceLT,Int.reduceLE,Nat.reduceLT,bz.down]):p:=h ⟨b⟩
theorem rO{B p q:Prop}(b:B)(k:q)(h:PLift B→PLift q→p:=by
 intro bz hq;simp(disch:=(first|omega|assumption)) only[fO,iD,iK,ku,gG,V.aV,and_true,true_and,S1,↓reduceIte,Nat.reduceEqDiff,Nat.reduceAdd,Nat.reduceMul,Nat.reduceDiv,bY.sb,bY.mut,dH,↓Bool.false_eq_true,beq_self_eq_true,ite_self,Nat.reduceLeDiff,Int.reduceEq,Int.reduceSub,Int.reduceAdd,Int.reduceNeg,Int.reduceLT,Int.reduceLE,Nat.reduceLT,bz.down];exact hq.down):p:=h ⟨b⟩ ⟨k⟩
theorem tC{B p:Prop}(b:B)(h:PLift B→p:=by
 intro bz;refine tu bz.down ?_;exact oC bz.down):p:=h ⟨b⟩
theorem yO{B p:Prop}(b:B)(h:PLift B→p:=by
 intro bz;refine tu bz.down ?_;exact rcQ bz.down):p:=h ⟨b⟩
theorem wdO{B p q:Prop}(b:B)(k:q)(h:PLift B→PLift q→p:=by
 intro bz hq;refine tu bz.down ?_;refine rO bz.down ?_;exact hq.down):p:=h ⟨b⟩ ⟨k⟩
theorem Tu{B p:Prop}(b:B)(h:PLift B→p:=by
 intro bz;refine prQ bz.down ?_;exact oC bz.down):p:=h ⟨b⟩
theorem Tv{B p:Prop}(b:B)(h:PLift B→p:=by
 intro bz;first|rfl|(simp(disch:=(first|omega|assumption)) only[S1,↓reduceIte,Nat.reduceEqDiff,Nat.reduceAdd,Nat.reduceMul,Nat.reduceDiv,bY.sb,bY.mut,dH,↓Bool.false_eq_true,beq_self_eq_true,ite_self,Nat.reduceLeDiff,Int.reduceEq,Int.reduceSub,Int.reduceAdd,Int.reduceNeg,Int.reduceLT,Int.reduceLE,Nat.reduceLT,bz.down])):p:=h ⟨b⟩
theorem scQ{B p:Prop}(b:B)(h:PLift B→p:=by
 intro bz;simp(disch:=(first|omega|assumption)) only[S1,↓reduceIte,Nat.reduceEqDiff,Nat.reduceAdd,Nat.reduceMul,Nat.reduceDiv,bY.sb,bY.mut,dH,↓Bool.false_eq_true,beq_self_eq_true,ite_self,Nat.reduceLeDiff,Int.reduceEq,Int.reduceSub,Int.reduceAdd,Int.reduceNeg,Int.reduceLT,Int.reduceLE,Nat.reduceLT,bz.down]):p:=h ⟨b⟩
theorem ni{p:Prop}(h:p:=by
 simp(disch:=(first|omega|assumption)) only[Sl,Sa,Sw,↓reduceIte,Nat.reduceEqDiff,Nat.reduceLT,List.all_nil,List.all_cons,Nat.reduceBneDiff,Nat.reduceAdd,bne_iff_ne,ne_eq,reduceCtorEq,not_false_eq_true,not_true_eq_false,Bool.and_true,Bool.true_and,and_true,true_and,and_self]):p:=h
theorem qj{p:Prop}(h:p:=by
 simp(disch:=(first|omega|assumption)) only[Sl,Sa,Sw,↓reduceIte,Nat.reduceEqDiff,Nat.reduceLT,List.all_nil,List.all_cons,Nat.reduceBneDiff,Nat.reduceAdd,bne_iff_ne,ne_eq,reduceCtorEq,not_false_eq_true,not_true_eq_false,Bool.and_true,Bool.true_and,and_true,true_and,and_self,iE];repeat' first|rfl|omega|(simp only[List.length_append,List.length_cons,List.length_nil];done)|apply And.intro):p:=h
theorem iP{B p q:Prop}(b:B)(k:q)(h:PLift B→PLift q→p:=by
 intro bz hq;simp(disch:=(first|omega|assumption)) only[Sl,Sa,Sw,↓reduceIte,Nat.reduceEqDiff,Nat.reduceLT,List.all_nil,List.all_cons,Nat.reduceBneDiff,Nat.reduceAdd,bne_iff_ne,ne_eq,reduceCtorEq,not_false_eq_true,not_true_eq_false,Bool.and_true,Bool.true_and,and_true,true_and,and_self,iE,bz.down];exact hq.down):p:=h ⟨b⟩ ⟨k⟩
theorem jh{F G:Nat→List V→V→Prop}{dr m:Bool}{d:Option Nat}{r:List AO}{s:St}{K:St→Prop}{f:Nat}{args:List (Nat×V)}{res:V}{vs:List V}{B:Prop}(b:B)(hf:F f vs res)(hk:um F G dr m args res d r s K)
 (h1:PLift B→iJ s.ob (args.map fun p=>p.2):=by
   intro bz;exact scQ bz.down)
 (h2:PLift B→(args.all fun p=>(rd s.ob p.1 p.2).aV)=true:=by
   intro bz;exact scQ bz.down)
 (hv:PLift B→(args.map fun p=>rd s.ob p.1 p.2)=vs:=by
   intro bz;exact Tv bz.down):Ut F G dr m f args d r s K:=OY res vs (h1 ⟨b⟩) (h2 ⟨b⟩) (hv ⟨b⟩) hf hk
def aW:=ai (@List.length_nil V) (ai (@List.length_nil Nat) (@List.length_nil UInt8))
def PI:=ai (@List.length_cons V) (ai (@List.length_cons Nat) (@List.length_cons UInt8))
def PK:=ai (@List.nil_append V) (ai (@List.nil_append Nat) (@List.nil_append UInt8))
theorem PL:(∀a:Int,(a=a)=True)∧(∀a:Nat,(a=a)=True)∧(∀a:List UInt8,(a=a)=True)∧(∀a:Bool,(a=a)=True):=⟨fun a=>eq_self a,fun a=>eq_self a,fun a=>eq_self a,fun a=>eq_self a⟩
theorem Vh:(∀a b:Int,(a≠b)=¬(a=b))∧(∀a b:Nat,(a≠b)=¬(a=b))∧(∀a b:Bool,(a≠b)=¬(a=b)):=⟨fun a b=>rfl,fun a b=>rfl,fun a b=>rfl⟩
def qm(d s:Nat):AO:=⟨some d,none,.mv (.t s)⟩
def qr(d:Nat)(o:bY):AO:=⟨some d,none,o⟩
def qn(o:bY):AO:=⟨none,none,o⟩
theorem ja{P:Program}{J:World→Prop}(ny:P.follows .mixedOrders=true)(hJs:∀w e w',J w→aY w e w'→J w'){f:FuncId}{fn:Func}{c:Code}{ts:List Nat}{args:List V}{r:V}(hf:P.funcs[f]? =some fn)(ac:AC)
 (k:vm (aF P J) (ik P) [.c ac] (fun e s=>match e with| .normal=>fO s ts r| .ret=>fO s ts r| .exit _=>False) (qC args))
 (hb:fn.body=some c:=by rfl) (hc:fQ P fn.ntmps c=some ac:=by kernel_rfl) (hts:dm fn.results.toList=some ts:=by rfl) (hn':Nat.ble args.length fn.ntmps=true:=by rfl) (hmu:r.DK=false:=by rfl):aF P J f args r:=
 aF.mk ny hJs hf hb hc hts hn' hmu (fE k)
