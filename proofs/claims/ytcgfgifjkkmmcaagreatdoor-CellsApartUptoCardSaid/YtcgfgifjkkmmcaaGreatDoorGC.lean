import Derived.Deep.LoopGhost
import Derived.Test.YtcgfgifjkkmmcaaGreatDoorGB
set_option linter.all false
set_option maxHeartbeats 10000000
namespace Go.Proofs.YtcgfgifjkkmmcaaGreatDoor.Ab
open Go Go.RowKit
inductive AC where
 |skip
 |reg (ops:List AO)
 |Vu (ops:List AO)
 |Ce (cf:List (Nat×Nat)) (ops:List AO)
 |seq (a b:AC)
 |cond (c:X) (a b:AC)
 |blk (id:Nat) (c:AC)
 |loop (c:AC)
 |exit (id:Nat)
 |ret
 deriving Inhabited
inductive Ex where
 |normal
 |exit (id:Nat)
 |ret
def dW(P:Program)(N:Nat):Code→Option AC
 | .skip=>some .skip
 | .label _=>some .skip
 | .region _ ops draw=>match UF P N ops ops.toList with
   |some al=>if draw then(if xO [] ops.toList al then some (.Vu al)else if xO (Yz ops.toList al) ops.toList al then some (.Ce (Yz ops.toList al) al)else none)else some (.reg al)
   |none=>none
 | .seq a b=>match dW P N a,dW P N b with
   |some a,some b=>some (.seq a b)
   |_,_=>none
 | .cond c a b=>match cX c,dW P N a,dW P N b with
   |some c,some a,some b=>some (.cond c a b)
   |_,_,_=>none
 | .block id c=>match dW P N c with|some c=>some (.blk id c)|none=>none
 | .loop c=>match dW P N c with|some c=>some (.loop c)|none=>none
 | .scope c=>dW P N c
 | .exit id=>some (.exit id)
 | .ret=>some .ret
 |_=>none
def rn:List (Nat×Nat)→Nat→Nat
 |[],i=>i
 |(k,v)::r,i=>if k=i then v else rn r i
def DN(s:St)(r:List (Nat×Nat))(nx t:Nat):V→Prop
 | .any=>True
 | .ow sz i n=>i<nx∧s.get t= .ow sz (rn r i) n
 | .sl sz i off n=>i<nx∧vP (s.get t)= .sl sz (rn r i) off n
 | .pt i off=>i<nx∧s.get t= .pt (rn r i) off
 | .tw _ _ _ _=>False
 |v=>s.get t=v
def leE(s:St)(r:List (Nat×Nat))(nx:Nat):List (Nat×V)→Prop
 |[]=>True
 |(t,v)::l=>DN s r nx t v∧leE s r nx l
def leO(s:St)(r:List (Nat×Nat))(nx:Nat):List (Nat×Option Ob)→Prop
 |[]=>True
 |(i,o)::l=>i<nx∧s.ob (rn r i)=o∧U_ o∧leO s r nx l
def leN(r:List (Nat×Nat)):List (Nat×Option Ob)→Prop
 |[]=>True
 |(i,_)::l=>(l.all fun p=>rn r p.1 != rn r i)=true∧leN r l
def St.le(s:St)(r:List (Nat×Nat))(s':St):Prop:=leE s r s'.nx s'.env∧leO s r s'.nx s'.lZ∧leN r s'.lZ
def St.mat(s:St)(t e sz:Nat):St:={env:=(t,.ow sz s.nx 0)::s.env,lZ:=(s.nx,some {e,sz,cs:=[],mu:=true,jl:=false})::s.lZ,nx:=s.nx+1}
def St.pg:List (Nat×Nat×Nat)→St→St
 |[],s=>s
 |(t,e,sz)::l,s=>St.pg l (s.mat t e sz)
def St.lL:List (Nat×Nat×Nat)→St→Prop
 |[],_=>True
 |(t,e,sz)::l,s=>s.get t= .nl∧0<sz∧St.lL l (s.mat t e sz)
section
variable (F G:Nat→List V→V→Prop)
def r_:AC→(Ex→St→Prop)→St→Prop
 | .skip,Q,s=>Q .normal s
 | .reg ops,Q,s=>Vq F G ops s (Q .normal)
 | .Vu ops,Q,s=>Hf F G ops s (Q .normal)
 | .Ce cf ops,Q,s=>Hf F G ops s (fun s'=>chk (jy s' cf) (Q .normal s'))
 | .seq a b,Q,s=>r_ a (fun e s'=>match e with| .normal=>r_ b Q s'| .exit i=>Q (.exit i) s'| .ret=>Q .ret s') s
 | .cond c a b,Q,s=>cnd (s.val c) (r_ a Q s) (r_ b Q s)
 | .blk id c,Q,s=>r_ c (fun e s'=>match e with| .normal=>Q .normal s'| .exit j=>if j=id then Q .normal s' else Q (.exit j) s'| .ret=>Q .ret s') s
 | .loop c,Q,s=>∃(X:Type) (mk:X→St) (I:X→Prop) (μ:X→Nat),(∃ms x r,I x∧St.lL ms s∧(St.pg ms s).le r (mk x))∧
    ∀x,I x→r_ c (fun e s'=>match e with| .normal=>∃ms x' r,I x'∧μ x'<μ x∧St.lL ms s'∧(St.pg ms s').le r (mk x')| .exit i=>Q (.exit i) s'| .ret=>Q .ret s') (mk x)
 | .exit id,Q,s=>Q (.exit id) s
 | .ret,Q,s=>Q .ret s
end
section
variable {P:Program} {J:World→Prop} {w0:World} {H0:HS} {N:Nat}
theorem Vw{w:World}{H:Nat→Prop}{ov bJ:Nat→Option Value}{s:St}{r:List (Nat×Nat)}{nx t:Nat}{v:V}{cv:Value}(h:DN s r nx t v)(hr:Rep w H ov cv (s.get t))(ho:∀i,i<nx→bJ i=ov (rn r i)):Rep w H bJ cv v:=by
 cases v with
 |any=>exact .any _
 |ow sz i n=>
  obtain⟨h1,h2⟩:=h;rw[h2]at hr;obtain⟨a,cap,rfl,h3,h4,h5,h6⟩:=hr.fD;exact .ow sz i n cap a h4 h5 h6 (by rw[ho i h1];exact h3)
 |sl sz i off n=>
  obtain⟨h1,h2⟩:=h;replace hr:Rep w H ov cv (vP (s.get t)):=by
   cases hv:s.get t with
   |ow z j m=>rw[hv]at hr;exact xH hr
   |_=>rw[hv]at hr;exact hr
  rw[h2]at hr;have hz0:=fun(h0:off=0) (hs:0<sz)=>Rep.J4 hs (h0▸hr)
  obtain⟨a,cap,u,rfl,h3,h4,h5,h6⟩:=hr.ku;exact .sl a sz i off n cap u h3 h4 (by rw[ho i h1];exact h5) h6 (fun h0 hs=>by
   obtain⟨_,_,m,e,_,_,ho2⟩:=hz0 h0 hs;cases e;rw[h5]at ho2;exact⟨m,Option.some.inj ho2⟩)
 |pt i off=>
  obtain⟨h1,h2⟩:=h;rw[h2]at hr;obtain⟨b,u,rfl,h3,h4⟩:=hr.mZ;exact .pt i off b u (by rw[ho i h1];exact h3) h4
 |tw sz i n rs=>exact h.elim
 |_=>
  simp only[DN]at h;rw[h]at hr;cases hr with
  |base h=>exact .base h
theorem Kt{s:St}{r:List (Nat×Nat)}{nx:Nat}:∀{l:List (Nat×V)},leE s r nx l→∀t,lk l t= .any∨DN s r nx t (lk l t)
 |[],_,t=> .inl rfl
 |(k,v)::l,h,t=>by
  simp only[lk];split
  ·rename_i e;subst e;exact .inr h.1
  ·exact Kt h.2 t
theorem zk{s:St}{r:List (Nat×Nat)}{nx:Nat}:∀{l:List (Nat×Option Ob)},leO s r nx l→∀i o,lo l i=some o→i<nx∧s.ob (rn r i)=some o∧vH o=false
 |[],_,i,o,h=>by cases h
 |(k,v)::l,h,i,o,hi=>by
  simp only[lo]at hi;split at hi
  ·rename_i e;subst e;exact⟨h.1,by rw[h.2.1,hi],by have:=h.2.2.1;rw[hi]at this;exact this⟩
  ·exact zk h.2.2.2 i o hi
theorem Ib:∀{l:List (Nat×Option Ob)} {i:Nat} {o:Ob},lo l i=some o→(i,some o)∈l
 |[],i,o,h=>by cases h
 |(k,v)::l,i,o,h=>by
  simp only[lo]at h;split at h
  ·rename_i e;subst e;subst h;exact List.mem_cons_self
  ·exact List.mem_cons_of_mem _ (Ib h)
theorem PV{r:List (Nat×Nat)}:∀{l:List (Nat×Option Ob)},leN r l→∀{i j:Nat} {o p:Option Ob},(i,o)∈l→(j,p)∈l→i≠j→rn r i≠rn r j
 |[],_,i,j,o,p,h,_,_=>by cases h
 |(k,v)::l,h,i,j,o,p,hi,hj,hne=>by
  rcases List.mem_cons.1 hi with e|hi
  ·cases e;rcases List.mem_cons.1 hj with e|hj
   ·cases e;exact absurd rfl hne
   ·have:=List.all_eq_true.1 h.1 _ hj;simp only[bne_iff_ne,ne_eq]at this;exact fun e=>this e.symm
  ·rcases List.mem_cons.1 hj with e|hj
   ·cases e;have:=List.all_eq_true.1 h.1 _ hi;simpa using this
   ·exact PV h.2 hi hj hne
theorem Conc.weaken{w:World}{H:Nat→Prop}{ov:Nat→Option Value}{a:Act}{s s':St}{r:List (Nat×Nat)}(hc:Conc w0 H0 w H ov N a s)(h:s.le r s'):∃bJ,Conc w0 H0 w H bJ N a s':=by
 obtain⟨hE,hO,hN⟩:=h;refine⟨fun i=>if i<s'.nx then ov (rn r i)else none,⟨hc.mem.bel,hc.mem.tj,hc.mem.uk,hc.mem.low,fun i o hi=>?_,fun i j oi oj vi vj b hij hi hj xe p_ hb=>?_⟩,hc.EZ,hc.BZ,hc.kp,fun t=>?_,fun id hid=>by simp;omega⟩
 ·obtain⟨h1,h2,h3⟩:=zk hO i o hi;obtain⟨v,hv,hr⟩:=hc.mem.obj _ _ h2;exact⟨v,by simp[h1,hv],hr.any h3 _⟩
 ·obtain⟨h1,h2,_⟩:=zk hO i oi hi;obtain⟨h3,h4,_⟩:=zk hO j oj hj;simp only[h1,h3,if_true]at xe p_;exact hc.mem.sep _ _ oi oj vi vj b (PV hN (Ib hi) (Ib hj) hij) h2 h4 xe p_ hb
 ·have hr:=hc.env t;rcases Kt hE t with h1|h1
  ·show Rep w H _ _ (lk s'.env t);rw[h1];exact .any _
  ·exact Vw h1 hr fun i hi=>by simp[hi]
theorem Conc.mat{w:World}{H:Nat→Prop}{ov:Nat→Option Value}{a:Act}{s:St}(hc:Conc w0 H0 w H ov N a s){t e sz:Nat}(ht:s.get t= .nl)(hsz:0<sz):∃bJ,Conc w0 H0 w H bJ N a (s.mat t e sz):=by
 have hnew:=hc.new s.nx (Nat.le_refl _);have hno:=hc.noOb;have hob:∀i,(s.mat t e sz).ob i=if s.nx=i then some {e,sz,cs:=[],mu:=true,jl:=false}else s.ob i:=fun i=>rfl
 have hE:Ext w H ov w H (fun i=>if s.nx=i then some (.slice none 0 0)else ov i):=⟨fun _ h=>h,fun _ _=>rfl,fun i v h=>by
  try simp only[]
  split
  ·rename_i e;subst e;rw[hnew]at h;cases h
  ·exact h⟩
 refine⟨fun i=>if s.nx=i then some (.slice none 0 0)else ov i,⟨hc.mem.bel,hc.mem.tj,hc.mem.uk,hc.mem.low,fun i o hi=>?_,fun i j oi oj vi vj b hij hi hj xe p_ hb=>?_⟩,hc.EZ,hc.BZ,hc.kp,fun u=>?_,fun id hid=>?_⟩
 ·rw[hob]at hi;try simp only[]
  split at hi
  ·rename_i e1;cases hi;refine⟨_,by rw[if_pos e1],⟨fun x hx=>(by cases hx),fun b hb=>(by cases hb),fun b hb=>(by cases hb),.inr ⟨rfl,hsz,0,[],⟨sy,.inl ⟨rfl,rfl⟩⟩,⟨rfl,fun j v x h1 h2=>(by cases h1)⟩,Nat.zero_le _⟩⟩⟩
  ·rename_i e1;obtain⟨v,hv,hr⟩:=hc.mem.obj i o hi;exact⟨v,by rw[if_neg e1];exact hv,hr.mono hE.ho (fun _ h=>h) (fun _ _=>rfl) (fun _ _=>rfl) (fun _ _ h=>h)⟩
 ·rw[hob]at hi hj;try simp only[]at xe p_
  split at hi
  ·rename_i e1;rw[if_pos e1]at xe;cases xe;cases hb
  ·rename_i e1;rw[if_neg e1]at xe;split at hj
   ·rename_i e2;rw[if_pos e2]at p_;cases p_;intro h;cases h
   ·rename_i e2;rw[if_neg e2]at p_;exact hc.mem.sep i j oi oj vi vj b hij hi hj xe p_ hb
 ·show Rep w H _ _ (lk ((t,.ow sz s.nx 0)::s.env) u);simp only[lk];split
  ·rename_i e1;subst e1;have:=hc.env t;rw[ht]at this;rw[this.jJ];exact .ow sz s.nx 0 0 none (Nat.zero_le _) (Nat.le_refl _) (.inl rfl) sy
  ·exact(hc.env u).mono hE
 ·have h1:s.nx≤id:=Nat.le_of_succ_le hid;have h2:s.nx≠id:=Nat.ne_of_lt hid;simp only[if_neg h2];exact hc.new id h1
theorem Conc.pg{w:World}{H:Nat→Prop}{a:Act}:∀{ms:List (Nat×Nat×Nat)} {ov:Nat→Option Value} {s:St},Conc w0 H0 w H ov N a s→St.lL ms s→∃bJ,Conc w0 H0 w H bJ N a (St.pg ms s)
 |[],ov,s,hc,_=>⟨ov,hc⟩
 |(t,e,sz)::l,ov,s,hc,h=>by
  obtain⟨h1,h2,h3⟩:=h;obtain⟨ov1,hc1⟩:=hc.mat (e:=e) h1 h2;exact Conc.pg (ms:=l) (s:=s.mat t e sz) hc1 h3
def Post(w0:World)(H0:HS)(N:Nat)(Q:Ex→St→Prop):Exit→Act→World→Prop
 | .normal,a,w=>∃s H ov,Q .normal s∧Conc w0 H0 w H ov N a s
 | .exit i,a,w=>∃s H ov,Q (.exit i) s∧Conc w0 H0 w H ov N a s
 | .ret,a,w=>∃s H ov,Q .ret s∧Conc w0 H0 w H ov N a s
 |_,_,_=>False
theorem Vx{F G:Nat→List V→V→Prop}{l:List AO}{s:St}{K:St→Prop}(h:Hf F G l s K):Hf F G l s (fun s'=>chk (jy s' []) (K s')):=by
 have e:(fun s'=>chk (jy s' []) (K s'))=K:=by funext s';simp[chk,jy]
 rw[e];exact h
def FO(m:Nat):AC→Bool
 | .reg ops| .Vu ops| .Ce _ ops=>ops.all fun o=>o.dst != some m
 | .seq a b| .cond _ a b=>FO m a&&FO m b
 | .blk _ c| .loop c=>FO m c
 |_=>true
def BD(H0:HS)(ac:AC):Prop:=∀m v,(m,v)∈H0.kp→FO m ac=true
theorem Af{H0:HS}{ops:List AO}(h:BD H0 (.reg ops)):∀o,o∈ops→nkp H0 o.dst:=fun o ho m v hm e=>by
 have:=List.all_eq_true.1 (h m v hm) o ho;rw[e]at this;simp at this
theorem PX{H0:HS}{a b:AC}(h:BD H0 (.seq a b)):BD H0 a:=fun m v hm=>by
 have:=h m v hm;simp only[FO,Bool.and_eq_true]at this;exact this.1
theorem PY{H0:HS}{a b:AC}(h:BD H0 (.seq a b)):BD H0 b:=fun m v hm=>by
 have:=h m v hm;simp only[FO,Bool.and_eq_true]at this;exact this.2
theorem iw(jP:P.follows .mixedOrders=true)(hJs:∀w',aI w0 H0.e w'→J w'):∀(c:Code) (ac:AC),dW P N c=some ac→BD H0 ac→∀(Q:Ex→St→Prop) (s:St) (a:Act) (w:World) (H:Nat→Prop) (ov:Nat→Option Value),
 Conc w0 H0 w H ov N a s→r_ (ah P J) (iJ P) ac Q s→c.wp P (Post w0 H0 N Q) a w:=by
 intro c
 induction c with
 |skip=>intro ac h hk Q s a w H ov hc hv;simp only[dW,Option.some.injEq]at h;subst h;exact wp_skip ⟨s,H,ov,hv,hc⟩
 |label l=>intro ac h hk Q s a w H ov hc hv;simp only[dW,Option.some.injEq]at h;subst h;exact wp_label ⟨s,H,ov,hv,hc⟩
 |region rid ops draw=>
  intro ac h hk Q s a w H ov hc hv;simp only[dW]at h;split at h
  ·rename_i al hal;cases draw with
   |true=>
    simp only[if_true]at h;split at h
    ·rename_i hd;cases h;exact Kr jP hJs hc hal hd (Af hk) (Vx hv) fun s' w' H' bJ a' hK hc'=>⟨s',H',bJ,hK,hc'⟩
    ·split at h
     ·rename_i hd;cases h;exact Kr jP hJs hc hal hd (Af hk) (K:=Q .normal) hv fun s' w' H' bJ a' hK hc'=>⟨s',H',bJ,hK,hc'⟩
     ·cases h
   |false=>
    simp only[Bool.false_eq_true,if_false,Option.some.injEq]at h;subst h;exact wp_region_list (Ac hJs (K:=Q .normal) (fun s' w' H' bJ a' hK hc'=>⟨s',H',bJ,hK,hc'⟩) ops.toList al hal (Af hk) hc hv)
  ·cases h
 |seq c d ihc ihd=>
  intro ac h hk Q s a w H ov hc hv;simp only[dW]at h;split at h
  ·rename_i c' d' h1 h2;cases h;refine wp_seq (wp_mono (ihc c' h1 (PX hk) _ s a w H ov hc hv) fun e a' w' hq=>?_);cases e with
   |normal=>obtain⟨s',H',bJ,hq,hc'⟩:=hq;exact ihd d' h2 (PY hk) Q s' a' w' H' bJ hc' hq
   |exit i=>exact hq
   |ret=>exact hq
   |goto l=>exact hq
   |panic ch=>exact hq
   |outgrown=>exact hq
  ·cases h
 |cond x c d ihc ihd=>
  intro ac h hk Q s a w H ov hc hv;simp only[dW]at h;split at h
  ·rename_i x' c' d' h0 h1 h2;cases h;simp only[r_]at hv;have hx:=hc.val x x' h0;cases hb:s.val x'<;>rw[hb]at hv hx<;>simp only[cnd]at hv;case b t=>
    refine wp_cond_split hx.lK (fun ht=>ihc c' h1 (PX hk) Q s a w H ov hc (hv.1 ht)) (fun ht=>ihd d' h2 (PY hk) Q s a w H ov hc (hv.2 ht))
  ·cases h
 |block id c ih=>
  intro ac h hk Q s a w H ov hc hv;simp only[dW]at h;split at h
  ·rename_i c' h1;cases h;refine wp_block (wp_mono (ih c' h1 hk _ s a w H ov hc hv) fun e a' w' hq=>?_);cases e with
   |normal=>exact hq
   |exit i=>
    obtain⟨s',H',bJ,hq,hc'⟩:=hq;simp only[Exit.inBlock];simp only[]at hq;split
    ·rename_i e;rw[if_pos e]at hq;exact⟨s',H',bJ,hq,hc'⟩
    ·rename_i e;rw[if_neg e]at hq;exact⟨s',H',bJ,hq,hc'⟩
   |ret=>exact hq
   |goto l=>exact hq
   |panic ch=>exact hq
   |outgrown=>exact hq
  ·cases h
 |loop c ih=>
  intro ac h hk Q s a w H ov hc hv;simp only[dW]at h;split at h
  ·rename_i c' h1;cases h;simp only[r_]at hv;obtain⟨X,mk,I,μ,⟨ms,x0,r0,hI0,hms,hle0⟩,hround⟩:=hv;obtain⟨ov00,hc00⟩:=hc.pg hms;obtain⟨UG,hc0⟩:=hc00.weaken hle0;refine wp_loop_ghost (fun n a w=>∃x H ov,μ x=n∧I x∧Conc w0 H0 w H ov N a (mk x)) (μ x0) ⟨x0,H,UG,rfl,hI0,hc0⟩ ?_;rintro n a1 w1 ⟨x,H1,ov1,rfl,hI,hc1⟩;refine wp_mono (ih c' h1 hk _ (mk x) a1 w1 H1 ov1 hc1 (hround x hI)) fun e a' w' hq=>?_
   cases e with
   |normal=>
    obtain⟨s',H',bJ,⟨ms',x',r',hI',hlt,hms',hle⟩,hc'⟩:=hq;obtain⟨ov3,hc3⟩:=hc'.pg hms';obtain⟨ov2,hc2⟩:=hc3.weaken hle;exact⟨μ x',hlt,x',H',ov2,rfl,hI',hc2⟩
   |exit i=>exact hq
   |ret=>exact hq
   |goto l=>exact hq
   |panic ch=>exact hq
   |outgrown=>exact hq
  ·cases h
 |scope c ih=>
  intro ac h hk Q s a w H ov hc hv;simp only[dW]at h;refine wp_scope_straight (wp_mono (ih ac h hk Q s a w H ov hc hv) fun e a' w' hq=>?_);cases e<;>exact hq
 |exit id=>intro ac h hk Q s a w H ov hc hv;simp only[dW,Option.some.injEq]at h;subst h;exact wp_exit ⟨s,H,ov,hv,hc⟩
 |ret=>intro ac h hk Q s a w H ov hc hv;simp only[dW,Option.some.injEq]at h;subst h;exact wp_ret ⟨s,H,ov,hv,hc⟩
 |rangeFunc f ps c d ihc ihd=>intro ac h;simp[dW]at h
 |goto l=>intro ac h;simp[dW]at h
 |refuse y=>intro ac h;simp[dW]at h
def bG:List ResultVar→Option (List Nat)
 |[]=>some []
 | .tmp t::r=>match bG r with|some l=>some (t::l)|none=>none
 | .cell _ _::_=>none
def jb(s:St)(v r:V):Prop:=
 match r with
 | .o e sz cs=>(match v with| .ow _ i _=>s.ob i=some {e,sz,cs,mu:=true,jl:=false}| .nl=>cs=[]∧0<sz|_=>False)
 | .l sz cs=>0<sz∧okR s.ob v∧rd s.ob sz v= .l sz cs
 | .any=>True
 |r=>v=r∧r.aQ=true
def iW(s:St):List Nat→List V→Prop
 |[],[]=>True
 |t::ts,r::rs=>(match r with| .o _ _ _=>False|r=>jb s (s.get t) r)∧iW s ts rs
 |_,_=>False
def iC(s:St)(v r:V):Prop:=
 match r with
 | .l sz cs=>0<sz∧V.iI (.t cs)=false∧
    (match v with| .ow z i n=>rd s.ob sz (.ow z i n)= .l sz cs| .nl=>cs=[]|_=>False)
 | .i k n=>v= .i k n
 | .b x=>v= .b x
 |_=>False
def lY(s:St):List Nat→List V→Prop
 |[],[]=>True
 |t::ts,r::rs=>iC s (s.get t) r∧lY s ts rs
 |_,_=>False
def fM(s:St)(ts:List Nat)(r:V):Prop:=
 match ts with
 |[]=>r= .t []
 |[t]=>jb s (s.get t) r
 |ts=>match r with| .t rs=>iW s ts rs| .fr (.t rs)=>lY s ts rs|_=>False
def fC:Nat→List V→List (Nat×V)
 |_,[]=>[]
 |k,v::r=>(k,v)::fC (k+1) r
theorem mJ:∀(vs:List V) (k t:Nat),lk (fC k vs) t=if k≤t then vs.getD (t-k) .any else .any
 |[],k,t=>by simp[fC,lk]
 |v::r,k,t=>by
  simp only[fC,lk];split
  ·rename_i e;subst e;simp
  ·rename_i e;rw[mJ r (k+1) t];by_cases h:k≤t
   ·rw[if_pos om,if_pos h];obtain⟨d,rfl⟩:∃d,t=k+1+d:=⟨t-(k+1),om⟩;rw[show k+1+d-(k+1)=d from om,show k+1+d-k=d+1 from om];rfl
   ·rw[if_neg om,if_neg h]
def pq(vs:List V):St:={env:=fC 0 vs,lZ:=[],nx:=0}
def xQ(tmps:Array Value):List Nat→Value
 |[]=> .tuple #[]
 |[t]=>tmps.getD t undef
 |ts=> .tuple (ts.map fun t=>tmps.getD t undef).toArray
theorem aV{fn:Func}{ts:List Nat}(h:bG fn.results.toList=some ts)(tmps:Array Value)(w:World):(results fn tmps).run P w= .ok (xQ tmps ts) w:=by
 have hr:fn.results.toList=ts.map ResultVar.tmp:=by
  have gen:∀(l:List ResultVar) (ts:List Nat),bG l=some ts→l=ts.map ResultVar.tmp:=fun l=>by
   induction l with
   |nil=>intro ts h;simp[bG]at h;subst h;rfl
   |cons x r ih=>
    intro ts h;cases x with
    |tmp t=>
     simp only[bG]at h;split at h
     ·rename_i l hl;cases h;rw[ih l hl];rfl
     ·cases h
    |cell a t=>simp[bG]at h
  exact gen _ _ h
 have hra:fn.results=(ts.map ResultVar.tmp).toArray:=h_ hr;have hrun:∀ts:List Nat,((ts.map ResultVar.tmp).mapM (fun x=>match x with
  |ResultVar.tmp t=>(pure (tmps.getD t undef):Sem Value)
  |ResultVar.cell a t=>do loadVar t (←asAddr (tmps.getD a undef)))).run P w= .ok (ts.map fun t=>tmps.getD t undef) w:=fun ts=>by
  induction ts with
  |nil=>rfl
  |cons t ts ih=>simp only[List.map_cons,List.mapM_cons,Sem.run_bind,Sem.run_pure,Result.andThen_ok,ih]
 unfold results;rw[hra];simp only[Array.mapM_eq_mapM_toList,List.toList_toArray,Sem.run_bind,Sem.run_map];erw [hrun ts];simp only[Result.andThen_ok,Sem.run_pure];match ts with
 |[]=>rfl
 |[t]=>simp[xQ]
 |t::t'::ts=>simp[xQ]
theorem PZ(hE0:∀b,¬H0.e b){w:World}{H:Nat→Prop}{ov:Nat→Option Value}{a:Act}{s:St}(hc:Conc w0 H0 w H ov N a s){cv:Value}{v r:V}(hr:Rep w H ov cv v)(h:jb s v r):Yu w0 w H0.h cv r:=by
 have low:∀b,H b→b<w0.heap.size→H0.h b:=fun b h hb=>(hc.mem.low b h hb).resolve_right (hE0 b)
 have base:∀{cv:Value} {r:V},(∃H':Nat→Prop,(∀b,H' b→b<w.heap.size)∧(∀b,H' b→b<w0.heap.size→H0.h b)∧Rep0 w H' cv r)→Yu w0 w H0.h cv r:=fun⟨H',h1,h2,h3⟩=>
  ⟨fun b=>H' b∧w0.heap.size≤b,fun b hb=>⟨hb.2,h1 b hb.1⟩,.inl (h3.mono (fun b hb=>by
    rcases Nat.lt_or_ge b w0.heap.size with h|h
    ·exact .inl (h2 b hb h)
    ·exact .inr ⟨hb,h⟩) (fun _ _=>rfl))⟩
 have plain:Rep0 w H cv r→Yu w0 w H0.h cv r:=fun h=>base ⟨H,hc.mem.uk,low,h⟩
 cases r with
 |o e sz cs=>
  simp only[jb]at h;cases v<;>simp only[]at h;case ow sz' i n=>
   obtain⟨ba,cap,e1,ho,hm,hcp,ha⟩:=hr.fD;obtain⟨u,hu,hor⟩:=hc.mem.obj i _ h;rw[ho]at hu;cases hu;rcases hor.bd with ⟨h',_⟩|⟨_,hsz,n',xs,hown,hra,hnm⟩
   ·cases h'
   ·refine⟨fun b=>H b∧w0.heap.size≤b,fun b hb=>⟨hb.2,hc.mem.uk b hb.1⟩,.inr (.inl ⟨e,sz,cs,n',xs,rfl,hsz,ownB hown (fun b hb=>(hor.ow b hb).resolve_right (hE0 b)),hra.mono (fun b hb=>?_) (fun _ _=>rfl),hor.cl (nY rfl),hnm,fun b hb hN=>?_⟩)⟩
    ·rcases Nat.lt_or_ge b w0.heap.size with h|h
     ·exact .inl (low b hb h)
     ·exact .inr ⟨hb,h⟩
    ·have:=(hor.fz b hb).1 hN.1;cases this
  case nl=>
   obtain⟨rfl,hsz⟩:=h;have e1:=hr.jJ;subst e1;refine⟨fun _=>False,fun b hb=>hb.elim,.inr (.inl ⟨e,sz,[],0,[],rfl,hsz,World.ownsRow_nil _ _ _ _,⟨rfl,fun j v x h=>by simp at h⟩,fun x hx=>by(cases hx),Nat.zero_le _,fun b hb=>?_⟩)⟩;cases hb
 |l sz cs=>
  obtain⟨hsz,hok,he⟩:=h;obtain⟨H1,ik,hm1,hfr,_⟩:=hc.mem.freeze (iR (ob:=s.ob) v);have:=oG hc.mem hsz hr hok (.inl (by rw[he];rfl)) ik.hH hfr;rw[he]at this;exact base ⟨H1,hm1.uk,fun b h hb=>(hm1.low b h hb).resolve_right (hE0 b),this⟩
 |any=>exact plain (.any _)
 |i k n=>obtain⟨rfl,_⟩:=h;exact plain (by cases hr with|base h=>exact h)
 |b x=>obtain⟨rfl,_⟩:=h;exact plain (by cases hr with|base h=>exact h)
 |s x=>obtain⟨rfl,_⟩:=h;exact plain (by cases hr with|base h=>exact h)
 |g x=>obtain⟨rfl,_⟩:=h;exact plain (by cases hr with|base h=>exact h)
 |ip x k=>obtain⟨rfl,_⟩:=h;exact plain (by cases hr with|base h=>exact h)
 |c x=>obtain⟨rfl,_⟩:=h;exact plain (by cases hr with|base h=>exact h)
 |f n=>obtain⟨rfl,_⟩:=h;exact plain (by cases hr with|base h=>exact h)
 |z x y=>obtain⟨rfl,_⟩:=h;exact plain (by cases hr with|base h=>exact h)
 |t vs=>obtain⟨rfl,h⟩:=h;simp[V.aQ]at h
 |ow sz i n=>obtain⟨rfl,h⟩:=h;simp[V.aQ]at h
 |sl sz i off n=>obtain⟨rfl,h⟩:=h;simp[V.aQ]at h
 |pt i n=>obtain⟨rfl,h⟩:=h;simp[V.aQ]at h
 |nl=>obtain⟨rfl,h⟩:=h;simp[V.aQ]at h
 |un=>obtain⟨rfl,h⟩:=h;simp[V.aQ]at h
 |fr x=>obtain⟨rfl,h⟩:=h;simp[V.aQ]at h
 |mu x cs=>obtain⟨rfl,h⟩:=h;simp[V.aQ]at h
 |tw a b c d=>obtain⟨rfl,h⟩:=h;simp[V.aQ]at h
 |to a b c d=>obtain⟨rfl,h⟩:=h;simp[V.aQ]at h
 |fc f x=>obtain⟨rfl,_⟩:=h;exact plain (by cases hr with|base h=>exact h)
 |kn x y=>obtain⟨rfl,_⟩:=h;exact plain (by cases hr with|base h=>exact h)
theorem Me(hE0:∀b,¬H0.e b){w:World}{H:Nat→Prop}{ov:Nat→Option Value}{a:Act}{s:St}(hc:Conc w0 H0 w H ov N a s){cv:Value}{v r:V}(hr:Rep w H ov cv v)(h:iC s v r):
 Rep0 w (fun b=>w0.heap.size≤b∧b<w.heap.size) cv r:=by
 unfold iC at h
 split at h
 ·rename_i sz cs;obtain⟨hsz,hfl,h⟩:=h;split at h
  ·rename_i z i n;have hrr:=oG hc.mem hsz hr (by trivial) (.inl (by rw[h];rfl)) (H':=fun _=>True) (fun _ _=>trivial) (fun _ _ _ _ _ _ _=>trivial);rw[h]at hrr;obtain⟨a',m,cap,f,b,o,e1,h1,h2,h3,h4,h5,h6,h7⟩:=hrr.nZ;subst e1;have hb:∀b',blk (.slice a' m cap)=some b'→w0.heap.size≤b'∧b'<w.heap.size:=fun b' hb'=>by
    obtain⟨_,_,_,ho,_⟩:=hr.fD;simp only[rd]at h;cases hob:s.ob i with
    |none=>rw[hob]at h;cases h
    |some oo=>
     obtain⟨u,hu,hor⟩:=hc.mem.obj i oo hob;rw[ho]at hu;cases hu;exact⟨(hor.lt hb').1.resolve_right (hE0 b'),(hor.lt hb').2⟩
   refine .l a' m cap sz cs f b o h1 h2 h3 h4 (h5.imp id fun h=>⟨h.1,hb b (by rw[h.1];rfl)⟩) h6 fun j x hx=>Fh ?_ (h7 j x hx)
   have:=List.any_eq_false.1 (show(cs.any fun x=>match x with| .i _ _| .b _| .s _=>false|_=>true)=false from hfl) x (List.mem_of_getElem? hx);cases x<;>simp_all
  ·subst h;have e1:=hr.jJ;subst e1;exact .l none 0 0 sz [] (fun _=>undef) 0 0 hsz sy (Nat.zero_le _) (Nat.le_refl _) (.inl rfl) (fun j hj=>by simp at hj) (fun j x hx=>by simp at hx)
  ·exact h.elim
 ·rw[h]at hr;rw[hr.bP];exact .i _ _
 ·rw[h]at hr;rw[hr.lK];exact .b _
 ·exact h.elim
theorem FP(hE0:∀b,¬H0.e b){w:World}{H:Nat→Prop}{ov:Nat→Option Value}{a:Act}{s:St}(hc:Conc w0 H0 w H ov N a s):∀(ts:List Nat) (rs:List V),lY s ts rs→
 aj w (fun b=>w0.heap.size≤b∧b<w.heap.size) (ts.map fun t=>a.tmps.getD t undef) rs
 |[],[],_=>⟨rfl,fun j v x h=>by simp at h⟩
 |[],_::_,h=>h.elim
 |_::_,[],h=>h.elim
 |t::ts,r::rs,h=>by
  obtain⟨h1,h2⟩:=h;have ih:=FP hE0 hc ts rs h2;refine⟨by simpa using ih.1,fun j v x hv hx=>?_⟩;cases j with
  |zero=>
   simp only[List.map_cons,List.getElem?_cons_zero,Option.some.injEq]at hv hx;subst hv;subst hx;exact Me hE0 hc (hc.env t) h1
  |succ j=>exact ih.2 j v x (by simpa using hv) (by simpa using hx)
theorem xR{w:World}{H:Nat→Prop}{ov:Nat→Option Value}{a:Act}{s:St}(hc:Conc w0 H0 w H ov N a s):∀(ts:List Nat) (rs:List V),iW s ts rs→
 ts.length=rs.length∧∃up,dQ s.ob up∧(∀k x,(k,x)∈up→∃t,t∈ts∧(k,x)∈eF s.ob (s.get t))∧∀H':Nat→Prop,(∀b,H b→H' b)→(∀k y u b,(k,y)∈up→ov k=some u→blk u=some b→H' b)→∀(j:Nat) (t:Nat) (r:V),ts[j]? =some t→rs[j]? =some r→Rep0 w H' (a.tmps.getD t undef) r
 |[],[],_=>⟨rfl,[],dQ.nil,(fun _ _ h=>by cases h),fun H' _ _ j t r h=>by simp at h⟩
 |[],_::_,h=>by simp[iW]at h
 |_::_,[],h=>by simp[iW]at h
 |t::ts,r::rs,h=>by
  obtain⟨h1,h2⟩:=h;obtain⟨hl,up,hup,hkey,gX⟩:=xR hc ts rs h2;have one:∃EL,dQ s.ob EL∧(∀k x,(k,x)∈EL→(k,x)∈eF s.ob (s.get t))∧∀H':Nat→Prop,(∀b,H b→H' b)→(∀k y u b,(k,y)∈EL→ov k=some u→blk u=some b→H' b)→Rep0 w H' (a.tmps.getD t undef) r:=by
   have hr:=hc.env t;have same:s.get t=r→r.aQ=true→∃EL,dQ s.ob EL∧(∀k x,(k,x)∈EL→(k,x)∈eF s.ob (s.get t))∧∀H':Nat→Prop,(∀b,H b→H' b)→(∀k y u b,(k,y)∈EL→ov k=some u→blk u=some b→H' b)→Rep0 w H' (a.tmps.getD t undef) r:=fun e hok=>by
    rw[e]at hr;generalize a.tmps.getD t undef=cv at hr;refine⟨[],dQ.nil,(fun _ _ h=>by cases h),fun H' hH _=>?_⟩;cases hr with
    |base h=>exact h.mono hH (fun _ _=>rfl)
    |ow=>simp[V.aQ]at hok
    |sl=>simp[V.aQ]at hok
    |pt=>simp[V.aQ]at hok
    |tw=>simp[V.aQ]at hok
   cases r with
   |o e sz cs=>exact h1.elim
   |l sz cs=>
    obtain⟨hsz,hok,he⟩:=h1;refine⟨eF s.ob (s.get t),iR _,(fun _ _ h=>h),fun H' hH hfr=>?_⟩;have:=oG hc.mem hsz hr hok (.inl (by rw[he];rfl)) hH hfr;rw[he]at this;exact this
   |any=>exact⟨[],dQ.nil,(fun _ _ h=>by cases h),fun H' _ _=> .any _⟩
   |_=>exact same h1.1 h1.2
  obtain⟨EL,hup1,hkey1,P5⟩:=one;refine⟨by simp[hl],EL++up,hup1.append hup,(fun k x h=>(List.mem_append.1 h).elim (fun h=>⟨t,List.mem_cons_self,hkey1 k x h⟩) fun h=>by obtain⟨t',h1,h2⟩:=hkey k x h;exact⟨t',List.mem_cons_of_mem _ h1,h2⟩),fun H' hH hfr j t' r' ht hr=>?_⟩;cases j with
  |zero=>simp at ht hr;subst ht;subst hr;exact P5 H' hH fun k y u b hk=>hfr k y u b (List.mem_append.2 (.inl hk))
  |succ j=>exact gX H' hH (fun k y u b hk=>hfr k y u b (List.mem_append.2 (.inr hk))) j t' r' (by simpa using ht) (by simpa using hr)
theorem FQ{w:World}{H:Nat→Prop}{ov:Nat→Option Value}{a:Act}{s:St}(hc:Conc w0 H0 w H ov N a s):∀(ts:List Nat) (rs:List V),iW s ts rs→
 ts.length=rs.length∧∃up,dQ s.ob up∧∀H':Nat→Prop,(∀b,H b→H' b)→(∀k y u b,(k,y)∈up→ov k=some u→blk u=some b→H' b)→∀(j:Nat) (t:Nat) (r:V),ts[j]? =some t→rs[j]? =some r→Rep0 w H' (a.tmps.getD t undef) r
 |[],[],_=>⟨rfl,[],dQ.nil,fun H' _ _ j t r h=>by simp at h⟩
 |[],_::_,h=>by simp[iW]at h
 |_::_,[],h=>by simp[iW]at h
 |t::ts,r::rs,h=>by
  obtain⟨h1,h2⟩:=h;obtain⟨hl,up,hup,gX⟩:=FQ hc ts rs h2;have one:∃EL,dQ s.ob EL∧∀H':Nat→Prop,(∀b,H b→H' b)→(∀k y u b,(k,y)∈EL→ov k=some u→blk u=some b→H' b)→Rep0 w H' (a.tmps.getD t undef) r:=by
   have hr:=hc.env t;have same:s.get t=r→r.aQ=true→∃EL,dQ s.ob EL∧∀H':Nat→Prop,(∀b,H b→H' b)→(∀k y u b,(k,y)∈EL→ov k=some u→blk u=some b→H' b)→Rep0 w H' (a.tmps.getD t undef) r:=fun e hok=>by
    rw[e]at hr;generalize a.tmps.getD t undef=cv at hr;refine⟨[],dQ.nil,fun H' hH _=>?_⟩;cases hr with
    |base h=>exact h.mono hH (fun _ _=>rfl)
    |ow=>simp[V.aQ]at hok
    |sl=>simp[V.aQ]at hok
    |pt=>simp[V.aQ]at hok
    |tw=>simp[V.aQ]at hok
   cases r with
   |o e sz cs=>exact h1.elim
   |l sz cs=>
    obtain⟨hsz,hok,he⟩:=h1;refine⟨eF s.ob (s.get t),iR _,fun H' hH hfr=>?_⟩;have:=oG hc.mem hsz hr hok (.inl (by rw[he];rfl)) hH hfr;rw[he]at this;exact this
   |any=>exact⟨[],dQ.nil,fun H' _ _=> .any _⟩
   |_=>exact same h1.1 h1.2
  obtain⟨EL,hup1,P5⟩:=one;refine⟨by simp[hl],EL++up,hup1.append hup,fun H' hH hfr j t' r' ht hr=>?_⟩;cases j with
  |zero=>simp at ht hr;subst ht;subst hr;exact P5 H' hH fun k y u b hk=>hfr k y u b (List.mem_append.2 (.inl hk))
  |succ j=>exact gX H' hH (fun k y u b hk=>hfr k y u b (List.mem_append.2 (.inr hk))) j t' r' (by simpa using ht) (by simpa using hr)
theorem pF(hE0:∀b,¬H0.e b){w:World}{H:Nat→Prop}{ov:Nat→Option Value}{a:Act}{s:St}(hc:Conc w0 H0 w H ov N a s){ts:List Nat}{r:V}(h:fM s ts r):Yu w0 w H0.h (xQ a.tmps ts) r:=by
 match ts with
 |[]=>
  simp only[fM]at h;subst h;exact⟨fun _=>False,fun b hb=>hb.elim,.inl (.t [] [] rfl fun j v x h=>by simp at h)⟩
 |[t]=>exact PZ hE0 hc (hc.env t) h
 |t::t'::ts=>
  simp only[fM]at h;cases r<;>(try simp only[]at h);case fr r'=>
   cases r'<;>(try exact h.elim);case t rs=>
    have:=FP hE0 hc _ _ h;exact⟨fun b=>w0.heap.size≤b∧b<w.heap.size,fun b hb=>hb,.inr (.inr ⟨_,rfl,.t _ _ this.1 this.2⟩)⟩
  case t rs=>
   obtain⟨hl,up,hup,gX⟩:=FQ hc _ _ h;obtain⟨H1,ik,hm1,hfr,_⟩:=hc.mem.freeze hup;refine⟨fun b=>H1 b∧w0.heap.size≤b,fun b hb=>⟨hb.2,hm1.uk b hb.1⟩,.inl ?_⟩;have:Rep0 w H1 (.tuple ((t::t'::ts).map fun t=>a.tmps.getD t undef).toArray) (.t rs):=by
    refine .t _ _ (by simpa using hl) fun j v x h1 h2=>?_
    simp only[List.getElem?_map,Option.map_eq_some_iff]at h1;obtain⟨q,hq,rfl⟩:=h1;exact gX H1 ik.hH hfr j q x hq h2
   exact this.mono (fun b hb=>by
    rcases Nat.lt_or_ge b w0.heap.size with h|h
    ·exact .inl ((hm1.low b hb h).resolve_right (hE0 b))
    ·exact .inr ⟨hb,h⟩) (fun _ _=>rfl)
theorem ah.plain{f:FuncId}{args:List V}{r:V}(h:ah P J f args (.fr r))(hr':r.Aa=false:=by rfl):ah P J f args r:= .of0 hr' fun w H vs hJ hT hH hr=>by
 refine(h w H vs hJ hT hH hr).mono ?_;rintro e w' ⟨v,rfl,hb,N,hN,hres⟩;refine⟨v,rfl,hb,N,hN,.inl ?_⟩;rcases hres with hres|⟨_,_,_,_,_,h,_⟩|⟨r',h,hres⟩
 ·cases hres
 ·cases h
 ·cases h;exact hres.mono (fun _ h=> .inr h) (fun _ _=>rfl)
theorem ah.mk(jP:P.follows .mixedOrders=true)(hJs:∀w e w',J w→aI w e w'→J w'){f:FuncId}{fn:Func}{c:Code}{ac:AC}{ts:List Nat}{args:List V}{r:V}(hf:P.funcs[f]? =some fn)(hb:fn.body=some c)(hc:dW P fn.ntmps c=some ac)(hts:bG fn.results.toList=some ts)(hn':Nat.ble args.length fn.ntmps=true)(hmu:r.Aa=false)
 (hv:r_ (ah P J) (iJ P) ac (fun e s=>match e with| .normal=>fM s ts r| .ret=>fM s ts r| .exit _=>False) (pq args)):ah P J f args r:=by
 have hn:args.length≤fn.ntmps:=Nat.le_of_ble_eq_true hn'
 refine .of0 hmu ?_
 intro w H vs hJ hT hH gX
 refine calls_of_wp hf hb ?_
 have hlen:vs.length=args.length:=gX.1
 have hsz:(vs.toArray++Array.replicate (fn.ntmps-vs.toArray.size) undef).size=fn.ntmps:=by simp;omega
 have iE:Conc w ⟨H,fun _=>False,[]⟩ w H (fun _=>none) fn.ntmps {tmps:=vs.toArray++Array.replicate (fn.ntmps-vs.toArray.size) undef,defers:=[]} (pq args):=by
  refine⟨⟨aI.refl _ _,hT,hH,fun b hb _=> .inl hb,fun id o h=>(by cases h),fun i j oi oj vi vj b hij h=>(by cases h)⟩,hsz,rfl,fun _ _ h=>(by cases h),fun t=>?_,fun _ _=>rfl⟩;show Rep w H (fun _=>none) _ (lk (fC 0 args) t);rw[mJ];simp only[Nat.zero_le,if_true,Nat.sub_zero];by_cases ht:t<args.length
  ·have Ic:t<vs.length:=om;have:=gX.2 t vs[t] args[t] (List.getElem?_eq_getElem Ic) (List.getElem?_eq_getElem ht);simp only[Array.getD_eq_getD_getElem?,List.getD,List.getElem?_eq_getElem ht,Option.getD_some];rw[Array.getElem?_append_left (by simpa using Ic)];simp only[List.getElem?_toArray,List.getElem?_eq_getElem Ic,Option.getD_some];exact .up this
  ·have:args.getD t V.any= .any:=by simp[List.getD,List.getElem?_eq_none (Nat.le_of_not_lt ht)]
   rw[this];exact .any _
 refine wp_mono (iw (J:=J) (H0:=⟨H,fun _=>False,[]⟩) jP (fun w' hb=>hJs w _ w' hJ hb) c ac hc (fun _ _ h=>by cases h) _ _ _ w H (fun _=>none) iE hv) fun e a' w' hq=>?_
 cases e with
 |normal=>
  obtain⟨s',H',bJ,hr,hc'⟩:=hq;exact⟨hc'.BZ,_,aV hts _ _,_,rfl,hc'.mem.bel.below (fun _ h=>h),pF (fun _ h=>h) hc' hr⟩
 |ret=>
  obtain⟨s',H',bJ,hr,hc'⟩:=hq;exact⟨hc'.BZ,_,aV hts _ _,_,rfl,hc'.mem.bel.below (fun _ h=>h),pF (fun _ h=>h) hc' hr⟩
 |exit i=>obtain⟨s',H',bJ,hr,_⟩:=hq;exact hr.elim
 |goto l=>exact hq.elim
 |panic ch=>exact hq.elim
 |outgrown=>exact hq.elim
theorem ah.mkt(jP:P.follows .mixedOrders=true)(hJs:∀w e w',J w→aI w e w'→J w'){f:FuncId}{fn:Func}{c:Code}{ac:AC}{t0:Nat}{ts:List Nat}{args:List V}{e sz:Nat}{cs rs:List V}(hf:P.funcs[f]? =some fn)(hb:fn.body=some c)(hc:dW P fn.ntmps c=some ac)(hts:bG fn.results.toList=some (t0::ts))(hts1:ts≠[])(hn':Nat.ble args.length fn.ntmps=true)
 (hsz:0<sz)
 (hv:r_ (ah P J) (iJ P) ac (fun ex s=>match ex with| .normal| .ret=>(∃i n,s.get t0= .ow sz i n∧s.ob i=some {e,sz,cs,mu:=true,jl:=false}∧(ts.all fun t=>(eF s.ob (s.get t)).all fun q=>q.1 != i)=true)∧iW s ts rs| .exit _=>False) (pq args)):ah P J f args (.to e sz cs rs):=by
 have hn:args.length≤fn.ntmps:=Nat.le_of_ble_eq_true hn'
 refine⟨hsz,?_⟩
 intro w H vs hJ hT hH gX
 refine calls_of_wp hf hb ?_
 have hlen:vs.length=args.length:=gX.1
 have hsize:(vs.toArray++Array.replicate (fn.ntmps-vs.toArray.size) undef).size=fn.ntmps:=by simp;omega
 have iE:Conc w ⟨H,fun _=>False,[]⟩ w H (fun _=>none) fn.ntmps {tmps:=vs.toArray++Array.replicate (fn.ntmps-vs.toArray.size) undef,defers:=[]} (pq args):=by
  refine⟨⟨aI.refl _ _,hT,hH,fun b hb _=> .inl hb,fun id o h=>(by cases h),fun i j oi oj vi vj b hij h=>(by cases h)⟩,hsize,rfl,fun _ _ h=>(by cases h),fun t=>?_,fun _ _=>rfl⟩;show Rep w H (fun _=>none) _ (lk (fC 0 args) t);rw[mJ];simp only[Nat.zero_le,if_true,Nat.sub_zero];by_cases ht:t<args.length
  ·have Ic:t<vs.length:=om;have:=gX.2 t vs[t] args[t] (List.getElem?_eq_getElem Ic) (List.getElem?_eq_getElem ht);simp only[Array.getD_eq_getD_getElem?,List.getD,List.getElem?_eq_getElem ht,Option.getD_some];rw[Array.getElem?_append_left (by simpa using Ic)];simp only[List.getElem?_toArray,List.getElem?_eq_getElem Ic,Option.getD_some];exact .up this
  ·have:args.getD t V.any= .any:=by simp[List.getD,List.getElem?_eq_none (Nat.le_of_not_lt ht)]
   rw[this];exact .any _
 have last:∀(s':St) (H':Nat→Prop) (bJ:Nat→Option Value) (a':Act) (w':World),((∃i n,s'.get t0= .ow sz i n∧s'.ob i=some {e,sz,cs,mu:=true,jl:=false}∧(ts.all fun t=>(eF s'.ob (s'.get t)).all fun q=>q.1 != i)=true)∧iW s' ts rs)→Conc w ⟨H,fun _=>False,[]⟩ w' H' bJ fn.ntmps a' s'→
  a'.defers=[]∧∃r,(results fn a'.tmps).run P w'= .ok r w'∧∃(u:Value) (us:List Value) (n:Nat) (xs:List Value) (N:Nat→Prop),Ending.returned r= .returned (.tuple (u::us).toArray)∧Below w.heap.size w w'∧w'.ownsRow w.heap.size e sz u n xs∧(∀b,N b→w.heap.size≤b∧b<w'.heap.size)∧(∀b,blk u=some b→¬N b)∧
   aj w' (fun b=>H b∨N b) xs cs∧(∀x,x∈cs→x.cell=true)∧n≤maxLen∧aj w' (fun b=>H b∨N b) us rs:=by
  rintro s' H' bJ a' w' ⟨⟨i,n,h1,h2,h4⟩,h3⟩ hc'
  have hr:=hc'.env t0
  rw[h1]at hr
  obtain⟨ba,cap,e1,ho,_⟩:=hr.fD
  obtain⟨u,hu,hor⟩:=hc'.mem.obj i _ h2
  rw[ho]at hu;cases hu
  obtain⟨hl,up,hup,hkey,gX⟩:=xR hc' ts rs h3
  obtain⟨H1,ik,hm1,hfr,Vl⟩:=hc'.mem.freeze hup
  rcases hor.bd with ⟨h',_⟩|⟨_,_,n',xs',hown',DF,hnm'⟩
  ·cases h'
  ·have hin:∀b,H1 b→H b∨(H1 b∧w.heap.size≤b):=fun b hb=>by
    rcases Nat.lt_or_ge b w.heap.size with h|h
    ·exact .inl ((hm1.low b hb h).resolve_right (fun h=>h))
    ·exact .inr ⟨hb,h⟩
   refine⟨hc'.BZ,_,aV hts _ _,a'.tmps.getD t0 undef,ts.map fun t=>a'.tmps.getD t undef,n',xs',fun b=>H1 b∧w.heap.size≤b,?_,hc'.mem.bel.below (fun _ h=>h),ownB hown' (fun b hb=>(hor.ow b hb).resolve_right (fun h=>h)),fun b hb=>⟨hb.2,hm1.uk b hb.1⟩,fun b hb hN=>?_,DF.mono (fun b hb=>hin b (ik.hH b hb)) (fun _ _=>rfl),hor.cl (nY rfl),hnm',⟨by simpa using hl,fun j v x h5 h6=>?_⟩⟩
   ·match ts,hts1 with
    |t1::ts',_=>rfl
   ·rcases Vl b hN.1 with h5|⟨k,x,u2,h5,h6,h7⟩
    ·have:=(hor.fz b hb).1 h5;cases this
    ·have hki:k≠i:=fun e=>by
      obtain⟨t,ht,hkt⟩:=hkey k x h5;have:=List.all_eq_true.1 (List.all_eq_true.1 h4 t ht) _ hkt;simp[e]at this
     obtain⟨ok,hok,_⟩:=hup k x h5;exact hc'.mem.sep i k _ ok _ u2 b hki.symm h2 hok ho h6 hb h7
   ·simp only[List.getElem?_map,Option.map_eq_some_iff]at h5;obtain⟨q,hq,rfl⟩:=h5;exact(gX H1 ik.hH hfr j q x hq h6).mono hin (fun _ _=>rfl)
 refine wp_mono (iw (J:=J) (H0:=⟨H,fun _=>False,[]⟩) jP (fun w' hb=>hJs w _ w' hJ hb) c ac hc (fun _ _ h=>by cases h) _ _ _ w H (fun _=>none) iE hv) fun ex a' w' hq=>?_
 cases ex with
 |normal=>obtain⟨s',H',bJ,hr,hc'⟩:=hq;exact last s' H' bJ a' w' hr hc'
 |ret=>obtain⟨s',H',bJ,hr,hc'⟩:=hq;exact last s' H' bJ a' w' hr hc'
 |exit i=>obtain⟨s',H',bJ,hr,_⟩:=hq;exact hr.elim
 |goto l=>exact hq.elim
 |panic ch=>exact hq.elim
 |outgrown=>exact hq.elim
def isO:V→Bool
 | .o _ _ _=>true
 |_=>false
def vN:List V→List V
 |[]=>[]
 | .o _ sz cs::r=> .ow sz 0 (cs.length/sz)::vN r
 |v::r=>v::vN r
theorem FT:∀(vs:List V) (j:Nat),(vN vs)[j]? =(vs[j]?).map fun v=>match v with| .o _ sz cs=> .ow sz 0 (cs.length/sz)|v=>v
 |[],j=>by simp[vN]
 |v::r,0=>by cases v<;>simp[vN]
 |v::r,j+1=>by
  have:=FT r j;cases v<;>simpa[vN]using this
theorem FU:∀vs:List V,(vN vs).length=vs.length
 |[]=>rfl
 |v::r=>by cases v<;>simp[vN,FU r]
def P6(args:List V)(e sz:Nat)(cs:List V):St:={env:=fC 0 (vN args),lZ:=[(0,some {e,sz,cs,mu:=true,jl:=false})],nx:=1}
theorem ah.mkm(jP:P.follows .mixedOrders=true)(hJs:∀w e w',J w→aI w e w'→J w'){f:FuncId}{fn:Func}{c:Code}{ac:AC}{args:List V}{m e sz:Nat}{cs cs':List V}(hf:P.funcs[f]? =some fn)(hb:fn.body=some c)(hc:dW P fn.ntmps c=some ac)(hts:bG fn.results.toList=some [])(hn':Nat.ble args.length fn.ntmps=true)
 (hm:args[m]? =some (.o e sz cs)) (hone:((args.eraseIdx m).all fun x=>!isO x)=true) (hnod:FO m ac=true)
 (hv:r_ (ah P J) (iJ P) ac (fun ex s=>match ex with| .normal| .ret=>∃i,s.get m= .ow sz i (cs.length/sz)∧s.ob i=some {e,sz,cs:=cs',mu:=true,jl:=false}| .exit _=>False) (P6 args e sz cs)):ah P J f args (.mu (.t []) cs'):=by
 have hn:args.length≤fn.ntmps:=Nat.le_of_ble_eq_true hn'
 refine⟨m,e,sz,cs,hm,fun w H vs v n xs hJ hT hH hlen hvm gX hsz hown hra hcl hnm LY=>?_⟩
 refine calls_of_wp hf hb ?_
 have L6:m<args.length:=(List.getElem?_eq_some_iff.1 hm).1
 have hnn:cs.length/sz=n:=by rw[←hra.1,hown.1,Nat.mul_div_cancel _ hsz]
 have hsize:(vs.toArray++Array.replicate (fn.ntmps-vs.toArray.size) undef).size=fn.ntmps:=by simp;omega
 have hget:∀t,t<args.length→((vs.toArray++Array.replicate (fn.ntmps-vs.toArray.size) undef).getD t undef)=vs.getD t undef:=fun t ht=>by
  simp only[Array.getD_eq_getD_getElem?,List.getD];rw[Array.getElem?_append_left (by simp;omega)];simp
 have hvd:vs.getD m undef=v:=by rw[List.getD,hvm];rfl
 have iE:Conc w ⟨H,fun b=>blk v=some b,[(m,v)]⟩ w H (fun i=>if i=0 then some v else none) fn.ntmps {tmps:=vs.toArray++Array.replicate (fn.ntmps-vs.toArray.size) undef,defers:=[]} (P6 args e sz cs):=by
  refine⟨⟨aI.refl _ _,hT,hH,fun b hb _=> .inl hb,fun id o h=>?_,fun i j oi oj vi vj b hij h h'=>?_⟩,hsize,rfl,fun m' v' h=>?_,fun t=>?_,fun id hid=>?_⟩
  ·have h':(if 0=id then some ({e,sz,cs,mu:=true,jl:=false}:Ob)else none)=some o:=h;by_cases h0:0=id
   ·rw[if_pos h0]at h';subst h0;cases h';exact⟨v,sy,dU.row hown hsz hra hcl hnm LY (fun b hb=> .inr hb) _⟩
   ·rw[if_neg h0]at h';cases h'
  ·have h1:(if 0=i then some ({e,sz,cs,mu:=true,jl:=false}:Ob)else none)=some oi:=h;have h2:(if 0=j then some ({e,sz,cs,mu:=true,jl:=false}:Ob)else none)=some oj:=h';by_cases h0:0=i
   ·by_cases h3:0=j
    ·exact absurd (h0.symm.trans h3) hij
    ·rw[if_neg h3]at h2;cases h2
   ·rw[if_neg h0]at h1;cases h1
  ·cases List.mem_singleton.1 h;show(vs.toArray++Array.replicate (fn.ntmps-vs.toArray.size) undef).getD m undef=v;rw[hget m L6,hvd]
  ·show Rep w H _ ((vs.toArray++Array.replicate (fn.ntmps-vs.toArray.size) undef).getD t undef) (lk (fC 0 (vN args)) t);rw[mJ];simp only[Nat.zero_le,if_true,Nat.sub_zero];by_cases ht:t<args.length
   ·rw[hget t ht];have hl:=FT args t;rw[List.getElem?_eq_getElem ht,Option.map_some]at hl;rw[show(vN args).getD t V.any=(match args[t]with| .o _ sz cs=> .ow sz 0 (cs.length/sz)|v=>v)from by rw[List.getD_eq_getElem?_getD,hl];rfl];by_cases Ie:t=m
    ·subst Ie;rw[hvd];rw[List.getElem?_eq_getElem ht]at hm;cases hm':args[t]with
     |o e1 sz1 cs1=>
      rw[hm']at hm;cases hm;simp only[hnn];exact lG hown hnm sy
     |_=>rw[hm']at hm;cases hm
    ·have hx:=gX t (vs[t]' om) args[t] Ie (List.getElem?_eq_getElem om) (List.getElem?_eq_getElem ht);have hno:isO args[t]=false:=by
      have:=List.all_eq_true.1 hone args[t] (List.mem_eraseIdx_iff_getElem?.2 ⟨t,Ie,List.getElem?_eq_getElem ht⟩);simpa using this
     rw[show vs.getD t undef=vs[t]' om from by rw[List.getD_eq_getElem?_getD,List.getElem?_eq_getElem om];rfl];cases hm':args[t]with
     |o e1 sz1 cs1=>rw[hm']at hno;cases hno
     |_=>rw[hm']at hx;exact .up hx
   ·have hl:=FU args;have:(vN args).getD t V.any= .any:=by rw[List.getD,List.getElem?_eq_none om];rfl
    rw[this];exact .any _
  ·show(if id=0 then some v else none)=none;rw[if_neg];have:1≤id:=hid;omega
 have last:∀(s':St) (H':Nat→Prop) (bJ:Nat→Option Value) (a':Act) (w':World),(∃i,s'.get m= .ow sz i (cs.length/sz)∧s'.ob i=some {e,sz,cs:=cs',mu:=true,jl:=false})→Conc w ⟨H,fun b=>blk v=some b,[(m,v)]⟩ w' H' bJ fn.ntmps a' s'→
  a'.defers=[]∧∃r,(results fn a'.tmps).run P w'= .ok r w'∧∃rv,Ending.returned r= .returned rv∧aI w (fun b=>blk v=some b) w'∧Rep0 w' H rv (.t [])∧V.iI (.t [])=false∧(∀x,x∈cs'→x.cell=true)∧∃(xs':List Value) (N:Nat→Prop),w'.ownsRow 0 e sz v n xs'∧(∀b,N b→w.heap.size≤b∧b<w'.heap.size)∧aj w' (fun b=>H b∨N b) xs' cs':=by
  rintro s' H' bJ a' w' ⟨i,h1,h2⟩ hc'
  have hk:=hc'.kp m v (List.mem_singleton.2 rfl)
  have hr:=hc'.env m
  rw[hk,h1]at hr
  obtain⟨ba,cap,e1,ho,_⟩:=hr.fD
  obtain⟨u,hu,hor⟩:=hc'.mem.obj i _ h2
  rw[ho]at hu;cases hu
  rcases hor.bd with ⟨h',_⟩|⟨_,_,n',xs',hown',DF,_⟩
  ·cases h'
  ·have en:n'=n:=by
    have hn1:v= .slice ba (cs.length/sz) cap:=e1;rcases hown'.2 with ⟨h3,h4⟩|⟨g,cap',cur,h3,_⟩
    ·rw[hn1]at h3;simp only[Value.slice.injEq]at h3;omega
    ·rw[hn1]at h3;cases h3;exact hnn
   subst en;exact⟨hc'.BZ,_,aV hts _ _,_,rfl,hc'.mem.bel,.t [] [] rfl (fun j v x h=>by simp at h),rfl,hor.cl (nY rfl),xs',fun b=>H' b∧w.heap.size≤b,hown',fun b hb=>⟨hb.2,hc'.mem.uk b hb.1⟩,DF.mono (fun b hb=>by
    rcases Nat.lt_or_ge b w.heap.size with hl|hl
    ·rcases hc'.mem.low b hb hl with h3|h3
     ·exact .inl h3
     ·have:=(hor.fz b h3).1 hb;cases this
    ·exact .inr ⟨hb,hl⟩) (fun _ _=>rfl)⟩
 refine wp_mono (iw (J:=J) (H0:=⟨H,fun b=>blk v=some b,[(m,v)]⟩) jP (fun w' hb=>hJs w _ w' hJ hb) c ac hc (fun _ _ h=>by cases List.mem_singleton.1 h;exact hnod) _ _ _ w H _ iE hv) fun ex a' w' hq=>?_
 cases ex with
 |normal=>obtain⟨s',H',bJ,hr,hc'⟩:=hq;exact last s' H' bJ a' w' hr hc'
 |ret=>obtain⟨s',H',bJ,hr,hc'⟩:=hq;exact last s' H' bJ a' w' hr hc'
 |exit i=>obtain⟨s',H',bJ,hr,_⟩:=hq;exact hr.elim
 |goto l=>exact hq.elim
 |panic ch=>exact hq.elim
 |outgrown=>exact hq.elim
end
end Go.Proofs.YtcgfgifjkkmmcaaGreatDoor.Ab
namespace Go.Proofs.YtcgfgifjkkmmcaaGreatDoor.Ab
open Go Go.RowKit
inductive Fr where
 |c (c:AC)
 |b (id:Nat)
section
variable (F G:Nat→List V→V→Prop)
def vm:List Fr→(Ex→St→Prop)→St→Prop
 |[],Q,s=>Q .normal s
 | .b _::k,Q,s=>vm k Q s
 | .c c::k,Q,s=>r_ F G c (fun e s'=>match e with
    | .normal=>vm k Q s'
    | .exit i=>yS i k Q s'
    | .ret=>Q .ret s') s
where yS (i:Nat):List Fr→(Ex→St→Prop)→St→Prop
 |[],Q,s=>Q (.exit i) s
 | .b j::k,Q,s=>if i=j then vm k Q s else yS i k Q s
 | .c _::k,Q,s=>yS i k Q s
def rg(dr:Bool)(l:List AO)(s:St)(K:St→Prop):Prop:=match dr with|true=>Hf F G l s K|false=>Vq F G l s K
def fin(dr m:Bool)(d:Option Nat)(v:V)(up:List (Nat×Option Ob))(r:List AO)(s:St)(K:St→Prop):Prop:=
 match dr with
 |true=>chk (v.eU s.nx=true∧(m||up.all (fun p=>p.1==s.nx))=true) (Hf F G r (s.qZ d v up) K)
 |false=>Vq F G r (s.qZ d v up) K
def go(dr m:Bool)(op:a_)(d:Option Nat)(r:List AO)(s:St)(K:St→Prop):Prop:=ev F G s.val s.ob s.nx (fun v up=>fin F G dr m d v up r s K) op
def gdo(dr:Bool)(v:V)(want:Bool)(op:a_)(d:Option Nat)(r:List AO)(s:St)(K:St→Prop):Prop:=
 match want with
 |true=>(match v with| .b x=>cnd (.b x) (rg F G dr (⟨d,none,op⟩::r) s K) (rg F G dr r (s.qZ d .un []) K)| .un=>rg F G dr r (s.qZ d .un []) K|_=>False)
 |false=>(match v with| .b x=>cnd (.b x) (rg F G dr r (s.qZ d .un []) K) (rg F G dr (⟨d,none,op⟩::r) s K)| .un=>rg F G dr r (s.qZ d .un []) K|_=>False)
def ldp(dr m:Bool)(ob:Option Ob)(ag:Bool)(n k:Nat)(d:Option Nat)(r:List AO)(s:St)(K:St→Prop):Prop:=
 match ob with
 |some o=>if ag then chk (k+n≤o.cs.length∧vH o=false) (fin F G dr m d (.g ((o.cs.drop k).take n)) [] r s K)else chk (k<o.cs.length) (fin F G dr m d (o.cs.getD k .un) [] r s K)
 |none=>False
def stkp(dr m:Bool)(ob:Option Ob)(j k:Nat)(v:V)(d:Option Nat)(r:List AO)(s:St)(K:St→Prop):Prop:=
 match ob with
 |some o=>chk (vH o=true∧isRef v=true∧o.mu=true∧k+1≤o.cs.length) (fin F G dr m d .un [(j,some {o with cs:=setAt o.cs k [v]})] r s K)
 |none=>False
def stp(dr m:Bool)(ob:Option Ob)(n j k:Nat)(v:V)(d:Option Nat)(r:List AO)(s:St)(K:St→Prop):Prop:=
 match ob with
 |some o=>chk (okR s.ob v∧o.mu=true∧(eF s.ob v).all (fun q=>q.1 != j)=true∧(rd s.ob 1 v).cells.length=n∧k+n≤o.cs.length∧(rd s.ob 1 v).cells.all V.cell=true)
   (fin F G dr m d .un ((j,some {o with cs:=setAt o.cs k (rd s.ob 1 v).cells})::eF s.ob v) r s K)
 |none=>False
def bldp(dr m:Bool)(ob:Nat→Option Ob)(zero:List V)(ps:List (Nat×Nat×V))(d:Option Nat)(r:List AO)(s:St)(K:St→Prop):Prop:=
 chk (jZ ob (ps.map fun p=>p.2.2)∧fitAll zero.length (ps.map fun p=>(p.1,(rd ob 1 p.2.2).cells))=true∧(ps.all fun p=>(rd ob 1 p.2.2).cells.length==p.2.1)=true)
  (fin F G dr m d (.g (jc zero (ps.map fun p=>(p.1,(rd ob 1 p.2.2).cells)))) (ps.flatMap fun p=>eF ob p.2.2) r s K)
def bslp(dr m:Bool)(ob:Nat→Option Ob)(e sz n:Nat)(zero:List V)(ps:List (Nat×V))(d:Option Nat)(r:List AO)(s:St)(K:St→Prop):Prop:=
 chk (jZ ob (ps.map fun p=>p.2)∧fitAll zero.length (ps.map fun p=>(p.1*sz,(rd ob 1 p.2).cells))=true∧(ps.all fun p=>(rd ob 1 p.2).cells.length==sz)=true)
  (fin F G dr m d (.ow sz s.nx n) ((s.nx,some {e,sz,cs:=jc zero (ps.map fun p=>(p.1*sz,(rd ob 1 p.2).cells)),mu:=true,jl:=false})::ps.flatMap fun p=>eF ob p.2) r s K)
def appq(dr m:Bool)(ob:Option Ob)(e sz bytes j n:Nat)(u:V)(s':Nat)(xs:List V)(s1:Nat)(d:Option Nat)(r:List AO)(s:St)(K:St→Prop):Prop:=
 match ob with
 |some o=>chk (okR s.ob u∧s1=sz∧s'=sz∧o.e=e∧o.sz=sz∧o.mu=true∧o.jl=false∧xs.all V.cell=true∧(n+xs.length/sz)*bytes≤70368744177664∧n+xs.length/sz≤1099511627776)
   (fin F G dr m d (.ow sz s.nx (n+xs.length/sz)) [(j,none),(s.nx,some {o with cs:=o.cs++xs})] r s K)
 |none=>False
def appp(dr m:Bool)(ob:Nat→Option Ob)(e sz bytes:Nat)(v u ru:V)(d:Option Nat)(r:List AO)(s:St)(K:St→Prop):Prop:=
 match v,ru with
 | .nl,.l s' xs=>chk (okR s.ob u∧s'=sz∧xs.all V.cell=true∧xs.length/sz*bytes≤70368744177664∧xs.length/sz≤1099511627776)
    (fin F G dr m d (.ow sz s.nx (xs.length/sz)) [(s.nx,some {e,sz,cs:=xs,mu:=true,jl:=false})] r s K)
 | .ow s1 j n,.l s' xs=>appq F G dr m (ob j) e sz bytes j n u s' xs s1 d r s K
 |_,_=>False
def w_(dr m:Bool)(args:List (Nat×V))(res:V)(d:Option Nat)(r:List AO)(s:St)(K:St→Prop):Prop:=
 match res with
 | .o e sz cs=>chk (0<sz) (fin F G dr m d (.ow sz s.nx (cs.length/sz)) ((s.nx,some {e,sz,cs,mu:=true,jl:=false})::if res.iI then args.flatMap fun p=>eF s.ob p.2 else[]) r s K)
 | .fr res=>fin F G dr m d res [] r s K
 | .to e sz cs rs=>fin F G dr m d (.tw sz s.nx (cs.length/sz) rs) ((s.nx,some {e,sz,cs,mu:=true,jl:=false})::if(V.o e sz cs).iI||(V.t rs).iI then args.flatMap fun p=>eF s.ob p.2 else[]) r s K
 | .mu _ _=>False
 |res=>fin F G dr m d res (if res.iI then args.flatMap fun p=>eF s.ob p.2 else[]) r s K
def mcq(dr m:Bool)(ob:Option Ob)(f k j:Nat)(args:List (Nat×V))(d:Option Nat)(r:List AO)(s:St)(K:St→Prop):Prop:=
 match ob with
 |some o=>
  chk (jZ s.ob (args.map fun p=>p.2)∧(args.all fun p=>(rd s.ob p.1 p.2).aQ)=true∧o.mu=true∧o.jl=false∧((args.eraseIdx k).all fun p=>(eF s.ob p.2).all fun q=>q.1 != j)=true)<|
  ∃res cs',F f ((args.map fun p=>rd s.ob p.1 p.2).set k (.o o.e o.sz o.cs)) (.mu res cs')∧res.iI=false∧fin F G dr m d res ((j,some {o with cs:=cs'})::(args.eraseIdx k).flatMap fun p=>eF s.ob p.2) r s K
 |none=>False
def mcp(dr m:Bool)(f k:Nat)(v:Option V)(args:List (Nat×V))(d:Option Nat)(r:List AO)(s:St)(K:St→Prop):Prop:=
 match v with
 |some (.ow _ j _)=>mcq F G dr m (s.ob j) f k j args d r s K
 |_=>False
def ocr(dr m:Bool)(f j e sz:Nat)(cs:List V)(d:Option Nat)(r:List AO)(s:St)(K:St→Prop):Prop:=
 ∃cs',F f [.o e sz cs] (.mu (.sl e sz 0 0) cs')∧fin F G dr m d (.ow sz s.nx (cs'.length/sz)) [(j,none),(s.nx,some {e,sz,cs:=cs',mu:=true,jl:=false})] r s K
def clp(dr m:Bool)(f:Nat)(args:List (Nat×V))(d:Option Nat)(r:List AO)(s:St)(K:St→Prop):Prop:=
 chk (jZ s.ob (args.map fun p=>p.2)∧(args.all fun p=>(rd s.ob p.1 p.2).aQ)=true) (∃n res,F f (args.map fun p=>Ox n s.ob p.1 p.2) res∧w_ F G dr m args res d r s K)
def isp(dr m:Bool)(neg:Bool)(e:Prop)(d:Option Nat)(r:List AO)(s:St)(K:St→Prop):Prop:=
 ∀t:Bool,(t=true→e)→fin F G dr m d (.b (t != neg)) [] r s K
def bxp(dr m:Bool)(ob:Nat→Option Ob)(e:Nat)(v:V)(cs:List V)(d:Option Nat)(r:List AO)(s:St)(K:St→Prop):Prop:=
 chk (okR ob v∧cs.all V.cell=true) (fin F G dr m d (.pt s.nx 0) ((s.nx,some {e,sz:=cs.length,cs:=cs,mu:=true,jl:=true})::eF ob v) r s K)
def cpyq(dr m:Bool)(ob:Option Ob)(sz j off n:Nat)(u:V)(s':Nat)(xs:List V)(s1:Nat)(d:Option Nat)(r:List AO)(s:St)(K:St→Prop):Prop:=
 match ob with
 |some o=>chk (okR s.ob u∧s1=sz∧s'=sz∧o.mu=true∧off+n*sz≤o.cs.length∧xs.all V.cell=true)
   (fin F G dr m d (.i .i64 ((min (xs.length/sz) n:Nat):Int)) [(j,some {o with cs:=setAt o.cs off (xs.take (n*sz))})] r s K)
 |none=>False
def cpyp(dr m:Bool)(ob:Nat→Option Ob)(sz:Nat)(v u ru:V)(d:Option Nat)(r:List AO)(s:St)(K:St→Prop):Prop:=
 match v,ru with
 | .sl s1 j off n,.l s' xs=>cpyq F G dr m (ob j) sz j off n u s' xs s1 d r s K
 |_,_=>False
def xlp(dr m:Bool)(f:Nat)(args:List V)(d:Option Nat)(r:List AO)(s:St)(K:St→Prop):Prop:=
 ∃res,G f args res∧fin F G dr m d res [] r s K
end
def a_.sb(s:St):a_→a_
 | .mv x=> .mv (.k (s.val x))
 | .pick c a b=> .pick (.k (s.val c)) (.k (s.val a)) (.k (s.val b))
 | .bin op x y=> .bin op (.k (s.val x)) (.k (s.val y))
 | .OZ n x y=> .OZ n (.k (s.val x)) (.k (s.val y))
 | .un op x=> .un op (.k (s.val x))
 | .Ou k x=> .Ou k (.k (s.val x))
 | .six x y=> .six (.k (s.val x)) (.k (s.val y))
 | .idx n x y=> .idx n (.k (s.val x)) (.k (s.val y))
 | .ld a n x=> .ld a n (.k (s.val x))
 | .st n x y=> .st n (.k (s.val x)) (.k (s.val y))
 | .stk x y=> .stk (.k (s.val x)) (.k (s.val y))
 | .zT n x=> .zT n (.k (s.val x))
 | .mk e sz b z x y=> .mk e sz b z (.k (s.val x)) (.k (s.val y))
 | .sub n x lo hi=> .sub n (.k (s.val x)) (lo.map fun x=> .k (s.val x)) (hi.map fun x=> .k (s.val x))
 | .len x=> .len (.k (s.val x))
 | .app e sz b x y=> .app e sz b (.k (s.val x)) (.k (s.val y))
 | .ext x i=> .ext (.k (s.val x)) i
 | .nc x=> .nc (.k (s.val x))
 | .mm m x y=> .mm m (.k (s.val x)) (.k (s.val y))
 | .JZ n x=> .JZ n (.k (s.val x))
 | .Ov z ps=> .Ov z ps
 | .Dz e sz n z ps=> .Dz e sz n z ps
 | .al e z=> .al e z
 | .call f args=> .call f args
 | .rV f args=> .rV f args
 | .bx e x=> .bx e (.k (s.val x))
 | .J3 sz x y=> .J3 sz (.k (s.val x)) (.k (s.val y))
 | .oU f m args=> .oU f m args
 | .bad=> .bad
section
variable {F G:Nat→List V→V→Prop} {dr m:Bool} {d:Option Nat} {r:List AO} {s:St} {K:St→Prop}
theorem YD{ob:Nat→Option Ob}{id:Nat}{K:V→List (Nat×Option Ob)→Prop}(op:a_):ev F G s.val ob id K (op.sb s)=ev F G s.val ob id K op:=by
 cases op<;>first|rfl|skip
 all_goals
  simp only[a_.sb,ev,Option.map_map]
  rfl
theorem rg_nil:rg F G dr [] s K=K s:=by cases dr<;>rfl
theorem Vy{op:a_}:rg F G dr (⟨d,none,op⟩::r) s K=go F G dr op.mut (op.sb s) d r s K:=by
 cases dr
 ·show Vq F G _ s K=_;unfold go;rw[YD];rfl
 ·show Hf F G _ s K=_;unfold go;rw[YD];rfl
theorem P7{op:a_}{t:Nat}{want:Bool}:rg F G dr (⟨d,some (t,want),op⟩::r) s K=gdo F G dr (s.get t) want op d r s K:=by
 cases dr<;>cases want<;>(simp only[rg,Vq,Hf,gv,gdo];rfl)
theorem gdo_tt{op:a_}:gdo F G dr (.b true) true op d r s K=rg F G dr (⟨d,none,op⟩::r) s K:=vO
theorem gdo_ft{op:a_}:gdo F G dr (.b false) true op d r s K=rg F G dr r (s.qZ d .un []) K:=tq
theorem gdo_tf{op:a_}:gdo F G dr (.b true) false op d r s K=rg F G dr r (s.qZ d .un []) K:=vO
theorem gdo_ff{op:a_}:gdo F G dr (.b false) false op d r s K=rg F G dr (⟨d,none,op⟩::r) s K:=tq
theorem gdo_un{op:a_}{want:Bool}:gdo F G dr .un want op d r s K=rg F G dr r (s.qZ d .un []) K:=by cases want<;>rfl
theorem fin_f{v:V}{up:List (Nat×Option Ob)}:fin F G false m d v up r s K=rg F G false r (s.qZ d v up) K:=rfl
theorem fin_t{v:V}{up:List (Nat×Option Ob)}:fin F G true m d v up r s K=chk (v.eU s.nx=true∧(m||up.all (fun p=>p.1==s.nx))=true) (rg F G true r (s.qZ d v up) K):=rfl
theorem ldp_f{o:Ob}{n k:Nat}:ldp F G dr m (some o) false n k d r s K=chk (k<o.cs.length) (fin F G dr m d (o.cs.getD k .un) [] r s K):=rfl
theorem ldp_t{o:Ob}{n k:Nat}:ldp F G dr m (some o) true n k d r s K=chk (k+n≤o.cs.length∧vH o=false) (fin F G dr m d (.g ((o.cs.drop k).take n)) [] r s K):=rfl
theorem stkp_s{o:Ob}{j k:Nat}{v:V}:stkp F G dr m (some o) j k v d r s K=chk (vH o=true∧isRef v=true∧o.mu=true∧k+1≤o.cs.length) (fin F G dr m d .un [(j,some {o with cs:=setAt o.cs k [v]})] r s K):=rfl
theorem P8{z i n:Nat}:isRef (.ow z i n)=true:=rfl
theorem P9:isRef .nl=true:=rfl
theorem stp_s{o:Ob}{n j k:Nat}{v:V}:stp F G dr m (some o) n j k v d r s K=chk (okR s.ob v∧o.mu=true∧(eF s.ob v).all (fun q=>q.1 != j)=true∧(rd s.ob 1 v).cells.length=n∧k+n≤o.cs.length∧(rd s.ob 1 v).cells.all V.cell=true)
 (fin F G dr m d .un ((j,some {o with cs:=setAt o.cs k (rd s.ob 1 v).cells})::eF s.ob v) r s K):=rfl
theorem appq_s{o:Ob}{e sz bytes j n:Nat}{u:V}{s':Nat}{xs:List V}{s1:Nat}:appq F G dr m (some o) e sz bytes j n u s' xs s1 d r s K=chk (okR s.ob u∧s1=sz∧s'=sz∧o.e=e∧o.sz=sz∧o.mu=true∧o.jl=false∧xs.all V.cell=true∧(n+xs.length/sz)*bytes≤70368744177664∧n+xs.length/sz≤1099511627776)
 (fin F G dr m d (.ow sz s.nx (n+xs.length/sz)) [(j,none),(s.nx,some {o with cs:=o.cs++xs})] r s K):=rfl
theorem cpyq_s{o:Ob}{sz j off n:Nat}{u:V}{s':Nat}{xs:List V}{s1:Nat}:cpyq F G dr m (some o) sz j off n u s' xs s1 d r s K=chk (okR s.ob u∧s1=sz∧s'=sz∧o.mu=true∧off+n*sz≤o.cs.length∧xs.all V.cell=true)
 (fin F G dr m d (.i .i64 ((min (xs.length/sz) n:Nat):Int)) [(j,some {o with cs:=setAt o.cs off (xs.take (n*sz))})] r s K):=rfl
theorem Vz{ob:Nat→Option Ob}{sz j off n:Nat}{u:V}{s':Nat}{xs:List V}{s1:Nat}:cpyp F G dr m ob sz (.sl s1 j off n) u (.l s' xs) d r s K=cpyq F G dr m (ob j) sz j off n u s' xs s1 d r s K:=rfl
theorem VA{ob:Nat→Option Ob}{e sz bytes:Nat}{u:V}{s':Nat}{xs:List V}:appp F G dr m ob e sz bytes .nl u (.l s' xs) d r s K=chk (okR s.ob u∧s'=sz∧xs.all V.cell=true∧xs.length/sz*bytes≤70368744177664∧xs.length/sz≤1099511627776)
 (fin F G dr m d (.ow sz s.nx (xs.length/sz)) [(s.nx,some {e,sz,cs:=xs,mu:=true,jl:=false})] r s K):=rfl
theorem VB{ob:Nat→Option Ob}{e sz bytes j n:Nat}{u:V}{s':Nat}{xs:List V}{s1:Nat}:appp F G dr m ob e sz bytes (.ow s1 j n) u (.l s' xs) d r s K=appq F G dr m (ob j) e sz bytes j n u s' xs s1 d r s K:=rfl
theorem go_mv{v:V}:go F G dr m (.mv (.k v)) d r s K=fin F G dr m d v [] r s K:=rfl
theorem MB{v u:V}:go F G dr m (.pick (.k (.b true)) (.k v) (.k u)) d r s K=fin F G dr m d v [] r s K:=vO
theorem MC{v u:V}:go F G dr m (.pick (.k (.b false)) (.k v) (.k u)) d r s K=fin F G dr m d u [] r s K:=tq
theorem Ig{k k':IntKind}{a b:Int}:go F G dr m (.bin .add (.k (.i k a)) (.k (.i k' b))) d r s K=chk (k=k') (fin F G dr m d (.i k (k.wrap (a+b))) [] r s K):=rfl
theorem Ih{k k':IntKind}{a b:Int}:go F G dr m (.bin .sub (.k (.i k a)) (.k (.i k' b))) d r s K=chk (k=k') (fin F G dr m d (.i k (k.wrap (a-b))) [] r s K):=rfl
theorem Ii{k k':IntKind}{a b:Int}:go F G dr m (.bin .mul (.k (.i k a)) (.k (.i k' b))) d r s K=chk (k=k') (fin F G dr m d (.i k (k.wrap (a*b))) [] r s K):=rfl
theorem Ij{k k':IntKind}{a b:Int}:go F G dr m (.bin .and (.k (.i k a)) (.k (.i k' b))) d r s K=chk (k=k') (fin F G dr m d (.i k (bits .and k a b)) [] r s K):=rfl
theorem MF{k k':IntKind}{a b:Int}:go F G dr m (.bin .or (.k (.i k a)) (.k (.i k' b))) d r s K=chk (k=k') (fin F G dr m d (.i k (bits .or k a b)) [] r s K):=rfl
theorem Ik{k k':IntKind}{a b:Int}:go F G dr m (.bin .xor (.k (.i k a)) (.k (.i k' b))) d r s K=chk (k=k') (fin F G dr m d (.i k (bits .xor k a b)) [] r s K):=rfl
theorem BF{k k':IntKind}{a b:Int}:go F G dr m (.bin .andNot (.k (.i k a)) (.k (.i k' b))) d r s K=chk (k=k') (fin F G dr m d (.i k (bits .andNot k a b)) [] r s K):=rfl
theorem Il{k k':IntKind}{a b:Int}:go F G dr m (.bin .eql (.k (.i k a)) (.k (.i k' b))) d r s K=chk (k=k') (fin F G dr m d (.b (decide (a=b))) [] r s K):=rfl
theorem Io{k k':IntKind}{a b:Int}:go F G dr m (.bin .neq (.k (.i k a)) (.k (.i k' b))) d r s K=chk (k=k') (fin F G dr m d (.b (decide (¬a=b))) [] r s K):=rfl
theorem Ip{k k':IntKind}{a b:Int}:go F G dr m (.bin .lss (.k (.i k a)) (.k (.i k' b))) d r s K=chk (k=k') (fin F G dr m d (.b (decide (a<b))) [] r s K):=rfl
theorem Iq{k k':IntKind}{a b:Int}:go F G dr m (.bin .leq (.k (.i k a)) (.k (.i k' b))) d r s K=chk (k=k') (fin F G dr m d (.b (decide (a≤b))) [] r s K):=rfl
theorem Ir{k k':IntKind}{a b:Int}:go F G dr m (.bin .gtr (.k (.i k a)) (.k (.i k' b))) d r s K=chk (k=k') (fin F G dr m d (.b (decide (b<a))) [] r s K):=rfl
theorem Iu{k k':IntKind}{a b:Int}:go F G dr m (.bin .geq (.k (.i k a)) (.k (.i k' b))) d r s K=chk (k=k') (fin F G dr m d (.b (decide (b≤a))) [] r s K):=rfl
theorem Iw{k k':IntKind}{a b:Int}:go F G dr m (.bin .quo (.k (.i k a)) (.k (.i k' b))) d r s K=chk (k=k'∧b≠0) (fin F G dr m d (.i k (k.wrap (a.tdiv b))) [] r s K):=rfl
theorem Iy{k k':IntKind}{a b:Int}:go F G dr m (.bin .rem (.k (.i k a)) (.k (.i k' b))) d r s K=chk (k=k'∧b≠0) (fin F G dr m d (.i k (a.tmod b)) [] r s K):=rfl
theorem Iz{k k':IntKind}{a b:Int}:go F G dr m (.bin .shl (.k (.i k a)) (.k (.i k' b))) d r s K=chk (0≤b) (fin F G dr m d (.i k (k.wrap (a*2^(min b.toNat k.bits)))) [] r s K):=rfl
theorem IB{k k':IntKind}{a b:Int}:go F G dr m (.bin .shr (.k (.i k a)) (.k (.i k' b))) d r s K=chk (0≤b) (fin F G dr m d (.i k (a.fdiv (2^(min b.toNat k.bits)))) [] r s K):=rfl
theorem IC{a b:List UInt8}:go F G dr m (.bin .add (.k (.s a)) (.k (.s b))) d r s K=chk (a.length+b.length≤9223372036854775807) (fin F G dr m d (.s (a++b)) [] r s K):=rfl
theorem IE{a b:List UInt8}:go F G dr m (.bin .eql (.k (.s a)) (.k (.s b))) d r s K=fin F G dr m d (.b (a==b)) [] r s K:=rfl
theorem IG{a b:List UInt8}:go F G dr m (.bin .neq (.k (.s a)) (.k (.s b))) d r s K=fin F G dr m d (.b (!(a==b))) [] r s K:=rfl
theorem go_eqb{neg x y:Bool}:go F G dr m (.OZ neg (.k (.b x)) (.k (.b y))) d r s K=fin F G dr m d (.b (if neg then !(x==y)else x==y)) [] r s K:=rfl
theorem MG{x:Bool}:go F G dr m (.un .not (.k (.b x))) d r s K=fin F G dr m d (.b !x) [] r s K:=rfl
theorem MH{k:IntKind}{a:Int}:go F G dr m (.un .neg (.k (.i k a))) d r s K=fin F G dr m d (.i k (k.wrap (0-a))) [] r s K:=rfl
theorem MI{k:IntKind}{a:Int}:go F G dr m (.un .xor (.k (.i k a))) d r s K=fin F G dr m d (.i k (bits .xor k (if k.signed then-1 else k.max) a)) [] r s K:=rfl
theorem II{n:Int}:go F G dr m (.un .neg (.k (.f n))) d r s K=fin F G dr m d (.f (-n)) [] r s K:=rfl
theorem go_cvt{k k':IntKind}{a:Int}:go F G dr m (.Ou k (.k (.i k' a))) d r s K=fin F G dr m d (.i k (k.wrap a)) [] r s K:=rfl
theorem go_six{l:List UInt8}{k:IntKind}{a:Int}:go F G dr m (.six (.k (.s l)) (.k (.i k a))) d r s K=chk (0≤a∧a<l.length) (fin F G dr m d (.i .u8 (l.getD a.toNat 0).toNat) [] r s K):=rfl
theorem P_{sz z:Nat}{cs:List V}{k:IntKind}{a:Int}:go F G dr m (.idx sz (.k (.l z cs)) (.k (.i k a))) d r s K=chk (z=sz∧0≤a∧a.toNat*sz<cs.length) (fin F G dr m d (.ip cs (a.toNat*sz)) [] r s K):=rfl
theorem MJ{sz z j n:Nat}{k:IntKind}{a:Int}:go F G dr m (.idx sz (.k (.ow z j n)) (.k (.i k a))) d r s K=chk (z=sz∧0≤a∧a<n) (fin F G dr m d (.pt j (a.toNat*sz)) [] r s K):=rfl
theorem MK{sz z j off n:Nat}{k:IntKind}{a:Int}:go F G dr m (.idx sz (.k (.sl z j off n)) (.k (.i k a))) d r s K=chk (z=sz∧0≤a∧a<n) (fin F G dr m d (.pt j (off+a.toNat*sz)) [] r s K):=rfl
theorem uz{α β:Type}(g:α→β):∀(l:List α) (k:Nat),(l.map g).eraseIdx k=(l.eraseIdx k).map g
 |[],k=>rfl
 |x::r,0=>rfl
 |x::r,k+1=>by simp only[List.map_cons,List.eraseIdx_cons_succ,uz g r k]
theorem Qa{f k:Nat}{args:List (Nat×X)}:go F G dr m (.oU f k args) d r s K=mcp F G dr m f k ((args.map fun p=>(p.1,s.val p.2))[k]?.map (·.2)) (args.map fun p=>(p.1,s.val p.2)) d r s K:=by
 have e:((args.map fun p=>(p.1,s.val p.2))[k]?.map (·.2))=(args[k]?).map fun p=>s.val p.2:=by
  rw[List.getElem?_map];cases args[k]? <;>rfl
 have e2:((args.map fun p=>(p.1,s.val p.2)).eraseIdx k)=(args.eraseIdx k).map fun p=>(p.1,s.val p.2):=by rw[uz]
 rw[e];simp only[go,ev];cases(args[k]?).map fun p=>s.val p.2 with
 |none=>rfl
 |some v=>
  cases v<;>simp only[mcp];rename_i z j n;cases hj:s.ob j with
  |none=>rfl
  |some o=>
   simp only[mcq,e2,List.map_map,List.all_map,List.flatMap_map];rfl
theorem Qb{n q:Nat}{cs:List V}:go F G dr m (.ld false n (.k (.ip cs q))) d r s K=chk (q<cs.length) (fin F G dr m d (cs.getD q .un) [] r s K):=rfl
theorem ML{n q:Nat}{cs:List V}:go F G dr m (.ld true n (.k (.ip cs q))) d r s K=chk (q+n≤cs.length) (fin F G dr m d (.g ((cs.drop q).take n)) [] r s K):=rfl
theorem Qc{ag:Bool}{n j q:Nat}:go F G dr m (.ld ag n (.k (.pt j q))) d r s K=ldp F G dr m (s.ob j) ag n q d r s K:=rfl
theorem MM{j q:Nat}{v:V}:go F G dr m (.stk (.k (.pt j q)) (.k v)) d r s K=stkp F G dr m (s.ob j) j q v d r s K:=rfl
theorem Qd{n j q:Nat}{v:V}:go F G dr m (.st n (.k (.pt j q)) (.k v)) d r s K=stp F G dr m (s.ob j) n j q v d r s K:=rfl
theorem MN{off j q:Nat}:go F G dr m (.zT off (.k (.pt j q))) d r s K=fin F G dr m d (.pt j (q+off)) [] r s K:=rfl
theorem MO{off q:Nat}{cs:List V}:go F G dr m (.zT off (.k (.ip cs q))) d r s K=fin F G dr m d (.ip cs (q+off)) [] r s K:=rfl
theorem go_bld{zero:List V}{ps:List (Nat×Nat×X)}:go F G dr m (.Ov zero ps) d r s K=bldp F G dr m s.ob zero (ps.map fun p=>(p.1,p.2.1,s.val p.2.2)) d r s K:=by
 simp only[go,ev,bldp,List.map_map,List.all_map,List.flatMap_map];rfl
theorem go_bsl{e sz n:Nat}{zero:List V}{ps:List (Nat×X)}:go F G dr m (.Dz e sz n zero ps) d r s K=bslp F G dr m s.ob e sz n zero (ps.map fun p=>(p.1,s.val p.2)) d r s K:=by
 simp only[go,ev,bslp,List.map_map,List.all_map,List.flatMap_map];rfl
theorem go_mk{e sz bytes:Nat}{zero:List V}{k k':IntKind}{a b:Int}:go F G dr m (.mk e sz bytes zero (.k (.i k a)) (.k (.i k' b))) d r s K=chk (0≤a∧a≤b∧b*bytes≤281474976710656∧b≤1099511627776) (fin F G dr m d (.ow sz s.nx a.toNat) [(s.nx,some {e,sz,cs:=(List.replicate a.toNat zero).flatten,mu:=true,jl:=false})] r s K):=rfl
theorem MP{z sz:Nat}{cs:List V}:go F G dr m (.sub sz (.k (.l z cs)) none none) d r s K=chk (z=sz) (fin F G dr m d (.l z cs) [] r s K):=rfl
theorem MQ{z sz:Nat}{cs:List V}{k:IntKind}{a:Int}:go F G dr m (.sub sz (.k (.l z cs)) (some (.k (.i k a))) none) d r s K=chk (z=sz∧0≤a∧a.toNat*sz≤cs.length) (fin F G dr m d (.l z (cs.drop (a.toNat*sz))) [] r s K):=rfl
theorem MR{z sz:Nat}{cs:List V}{k':IntKind}{b:Int}:go F G dr m (.sub sz (.k (.l z cs)) none (some (.k (.i k' b)))) d r s K=chk (z=sz∧0≤b∧b.toNat*sz≤cs.length) (fin F G dr m d (.l z (cs.take (b.toNat*sz))) [] r s K):=rfl
theorem MS{z sz:Nat}{cs:List V}{k k':IntKind}{a b:Int}:go F G dr m (.sub sz (.k (.l z cs)) (some (.k (.i k a))) (some (.k (.i k' b)))) d r s K=chk (z=sz∧0≤a∧a≤b∧b.toNat*sz≤cs.length) (fin F G dr m d (.l z ((cs.take (b.toNat*sz)).drop (a.toNat*sz))) [] r s K):=rfl
theorem IJ{z j n sz:Nat}:go F G dr m (.sub sz (.k (.ow z j n)) none none) d r s K=chk (z=sz) (fin F G dr m d (.ow z j n) [] r s K):=rfl
theorem IK{z j n sz:Nat}{k:IntKind}{a:Int}:go F G dr m (.sub sz (.k (.ow z j n)) (some (.k (.i k a))) none) d r s K=chk (z=sz∧0≤a∧a≤n) (fin F G dr m d (.sl z j (a.toNat*sz) (n-a.toNat)) [] r s K):=rfl
theorem IL{z j n sz:Nat}{k':IntKind}{b:Int}:go F G dr m (.sub sz (.k (.ow z j n)) none (some (.k (.i k' b)))) d r s K=chk (z=sz∧0≤b∧b≤n) (fin F G dr m d (.sl z j 0 b.toNat) [] r s K):=rfl
theorem IM{z j n sz:Nat}{k k':IntKind}{a b:Int}:go F G dr m (.sub sz (.k (.ow z j n)) (some (.k (.i k a))) (some (.k (.i k' b)))) d r s K=chk (z=sz∧0≤a∧a≤b∧b≤n) (fin F G dr m d (.sl z j (a.toNat*sz) (b.toNat-a.toNat)) [] r s K):=rfl
theorem IP{z j off n sz:Nat}:go F G dr m (.sub sz (.k (.sl z j off n)) none none) d r s K=chk (z=sz) (fin F G dr m d (.sl z j off n) [] r s K):=rfl
theorem IQ{z j off n sz:Nat}{k:IntKind}{a:Int}:go F G dr m (.sub sz (.k (.sl z j off n)) (some (.k (.i k a))) none) d r s K=chk (z=sz∧0≤a∧a≤n) (fin F G dr m d (.sl z j (off+a.toNat*sz) (n-a.toNat)) [] r s K):=rfl
theorem IU{z j off n sz:Nat}{k':IntKind}{b:Int}:go F G dr m (.sub sz (.k (.sl z j off n)) none (some (.k (.i k' b)))) d r s K=chk (z=sz∧0≤b∧b≤n) (fin F G dr m d (.sl z j off b.toNat) [] r s K):=rfl
theorem IV{z j off n sz:Nat}{k k':IntKind}{a b:Int}:go F G dr m (.sub sz (.k (.sl z j off n)) (some (.k (.i k a))) (some (.k (.i k' b)))) d r s K=chk (z=sz∧0≤a∧a≤b∧b≤n) (fin F G dr m d (.sl z j (off+a.toNat*sz) (b.toNat-a.toNat)) [] r s K):=rfl
theorem MV{ba:Option Addr}{n c z sz:Nat}{cs:List V}{k':IntKind}{b:Int}:go F G dr m (.sub sz (.k (.kn (.slice ba n c) (.l z cs))) none (some (.k (.i k' b)))) d r s K=chk (z=sz∧0≤b∧b≤n∧0<c∧(∃g,ba=some ⟨g,0,none⟩)) (fin F G dr m d (.kn (.slice ba b.toNat c) (.l z (cs.take (b.toNat*sz)))) [] r s K):=rfl
theorem IW{sz:Nat}:go F G dr m (.sub sz (.k (.nl)) none none) d r s K=fin F G dr m d .nl [] r s K:=rfl
theorem IX{sz:Nat}{k:IntKind}{a:Int}:go F G dr m (.sub sz (.k (.nl)) (some (.k (.i k a))) none) d r s K=chk (a=0) (fin F G dr m d .nl [] r s K):=rfl
theorem IY{sz:Nat}{k':IntKind}{b:Int}:go F G dr m (.sub sz (.k (.nl)) none (some (.k (.i k' b)))) d r s K=chk (b=0) (fin F G dr m d .nl [] r s K):=rfl
theorem IZ{sz:Nat}{k k':IntKind}{a b:Int}:go F G dr m (.sub sz (.k (.nl)) (some (.k (.i k a))) (some (.k (.i k' b)))) d r s K=chk (a=0∧b=0) (fin F G dr m d .nl [] r s K):=rfl
theorem Qe{z:Nat}{cs:List V}:go F G dr m (.len (.k (.l z cs))) d r s K=fin F G dr m d (.i .i64 ((cs.length/z:Nat):Int)) [] r s K:=rfl
theorem MW{z j n:Nat}:go F G dr m (.len (.k (.ow z j n))) d r s K=fin F G dr m d (.i .i64 n) [] r s K:=rfl
theorem MX{z j off n:Nat}:go F G dr m (.len (.k (.sl z j off n))) d r s K=fin F G dr m d (.i .i64 n) [] r s K:=rfl
theorem MZ:go F G dr m (.len (.k .nl)) d r s K=fin F G dr m d (.i .i64 0) [] r s K:=rfl
theorem go_app{e sz bytes:Nat}{v u:V}:go F G dr m (.app e sz bytes (.k v) (.k u)) d r s K=appp F G dr m s.ob e sz bytes v (yQ u) (rd s.ob sz (yQ u)) d r s K:=rfl
theorem go_cpy{sz:Nat}{v u:V}:go F G dr m (.J3 sz (.k v) (.k u)) d r s K=cpyp F G dr m s.ob sz (vP v) u (rd s.ob sz u) d r s K:=rfl
theorem go_al{e:Nat}{zero:List V}:go F G dr m (.al e zero) d r s K=fin F G dr m d (.pt s.nx 0) [(s.nx,some {e,sz:=zero.length,cs:=zero,mu:=true,jl:=true})] r s K:=rfl
theorem VC{sz j n:Nat}{rs:List V}:go F G dr m (.ext (.k (.tw sz j n rs)) 0) d r s K=fin F G dr m d (.ow sz j n) [] r s K:=rfl
theorem VD{sz j n:Nat}{rs:List V}:go F G dr m (.ext (.k (.tw sz j n rs)) 1) d r s K=chk (0<rs.length) (fin F G dr m d (rs.getD 0 .un) [] r s K):=rfl
theorem VE{sz j n:Nat}{rs:List V}:go F G dr m (.ext (.k (.tw sz j n rs)) 2) d r s K=chk (1<rs.length) (fin F G dr m d (rs.getD 1 .un) [] r s K):=rfl
theorem go_ext{vs:List V}{ix:Nat}:go F G dr m (.ext (.k (.t vs)) ix) d r s K=chk (ix<vs.length) (fin F G dr m d (vs.getD ix .un) [] r s K):=rfl
theorem Qg{j q:Nat}:go F G dr m (.nc (.k (.pt j q))) d r s K=fin F G dr m d (.pt j q) [] r s K:=rfl
theorem Qh{cs:List V}{q:Nat}:go F G dr m (.nc (.k (.ip cs q))) d r s K=fin F G dr m d (.ip cs q) [] r s K:=rfl
theorem go_mm{mx:Bool}{k k':IntKind}{a b:Int}:go F G dr m (.mm mx (.k (.i k a)) (.k (.i k' b))) d r s K=chk (k=k') (fin F G dr m d (.i k (if mx then max a b else min a b)) [] r s K):=rfl
theorem go_call{f:Nat}{args:List (Nat×X)}:go F G dr m (.call f args) d r s K=clp F G dr m f (args.map fun p=>(p.1,s.val p.2)) d r s K:=by
 simp only[go,ev,clp,List.map_map,List.all_map];congr 1;refine congrArg Exists (funext fun n=>?_);refine congrArg Exists (funext fun res=>?_);refine congr (congrArg And rfl) ?_;cases res<;>simp only[w_,List.flatMap_map]
theorem iP{f j e sz:Nat}{cs cs':List V}(hf:F f [.o e sz cs] (.mu (.sl e sz 0 0) cs'))(h:fin F G dr m d (.ow sz s.nx (cs'.length/sz)) [(j,none),(s.nx,some {e,sz,cs:=cs',mu:=true,jl:=false})] r s K):ocr F G dr m f j e sz cs d r s K:=⟨cs',hf,h⟩
theorem Qi{f:Nat}{args:List X}:go F G dr m (.rV f args) d r s K=xlp F G dr m f (args.map s.val) d r s K:=rfl
theorem go_bx{e:Nat}{v:V}:go F G dr m (.bx e (.k v)) d r s K=bxp F G dr m s.ob e v (rd s.ob 1 v).cells d r s K:=rfl
theorem M_{neg:Bool}:go F G dr m (.JZ neg (.k .nl)) d r s K=fin F G dr m d (.b (!neg)) [] r s K:=rfl
theorem Qj{neg:Bool}{z:Nat}{cs:List V}:go F G dr m (.JZ neg (.k (.l z cs))) d r s K=isp F G dr m neg (cs=[]) d r s K:=rfl
theorem Na{neg:Bool}{z j n:Nat}:go F G dr m (.JZ neg (.k (.ow z j n))) d r s K=isp F G dr m neg (n=0) d r s K:=rfl
theorem isp_mk{neg:Bool}{e:Prop}(h:∀t:Bool,(t=true→e)→fin F G dr m d (.b (t != neg)) [] r s K):isp F G dr m neg e d r s K:=h
theorem Qk{f:Nat}{args:List (Nat×V)}(res:V)(vs:List V)(h1:jZ s.ob (args.map fun p=>p.2))(h2:(args.all fun p=>(rd s.ob p.1 p.2).aQ)=true)(hv:(args.map fun p=>rd s.ob p.1 p.2)=vs)(hf:F f vs res)(hk:w_ F G dr m args res d r s K):clp F G dr m f args d r s K:=
 ⟨⟨h1,h2⟩,false,res,hv▸hf,hk⟩
theorem ny{f:Nat}{args:List V}(res:V)(hf:G f args res)(hk:fin F G dr m d res [] r s K):xlp F G dr m f args d r s K:=⟨res,hf,hk⟩
theorem clr_o{args:List (Nat×V)}{e sz:Nat}{cs:List V}:w_ F G dr m args (.o e sz cs) d r s K=chk (0<sz) (fin F G dr m d (.ow sz s.nx (cs.length/sz)) ((s.nx,some {e,sz,cs,mu:=true,jl:=false})::if(V.o e sz cs).iI then args.flatMap fun p=>eF s.ob p.2 else[]) r s K):=rfl
theorem clr_to{args:List (Nat×V)}{e sz:Nat}{cs rs:List V}:w_ F G dr m args (.to e sz cs rs) d r s K=fin F G dr m d (.tw sz s.nx (cs.length/sz) rs) ((s.nx,some {e,sz,cs,mu:=true,jl:=false})::if(V.o e sz cs).iI||(V.t rs).iI then args.flatMap fun p=>eF s.ob p.2 else[]) r s K:=rfl
theorem clr_fr{args:List (Nat×V)}{v:V}:w_ F G dr m args (.fr v) d r s K=fin F G dr m d v [] r s K:=rfl
theorem clr_i{args:List (Nat×V)}{k:IntKind}{n:Int}:w_ F G dr m args (.i k n) d r s K=fin F G dr m d (.i k n) [] r s K:=rfl
theorem clr_b{args:List (Nat×V)}{x:Bool}:w_ F G dr m args (.b x) d r s K=fin F G dr m d (.b x) [] r s K:=rfl
theorem clr_s{args:List (Nat×V)}{x:List UInt8}:w_ F G dr m args (.s x) d r s K=fin F G dr m d (.s x) [] r s K:=rfl
theorem clr_l{args:List (Nat×V)}{sz:Nat}{cs:List V}:w_ F G dr m args (.l sz cs) d r s K=fin F G dr m d (.l sz cs) (args.flatMap fun p=>eF s.ob p.2) r s K:=rfl
theorem clr_t{args:List (Nat×V)}{vs:List V}:w_ F G dr m args (.t vs) d r s K=fin F G dr m d (.t vs) (if(V.t vs).iI then args.flatMap fun p=>eF s.ob p.2 else[]) r s K:=rfl
theorem clr_g{args:List (Nat×V)}{vs:List V}:w_ F G dr m args (.g vs) d r s K=fin F G dr m d (.g vs) (if(V.g vs).iI then args.flatMap fun p=>eF s.ob p.2 else[]) r s K:=rfl
variable {Q:Ex→St→Prop} {k:List Fr}
theorem vm_nil:vm F G [] Q s=Q .normal s:=by simp only[vm]
theorem vm_b{id:Nat}:vm F G (.b id::k) Q s=vm F G k Q s:=by simp only[vm]
theorem Ql{a b:AC}:vm F G (.c (.seq a b)::k) Q s=vm F G (.c a:: .c b::k) Q s:=by
 simp only[vm,r_,vm.yS];all_goals first|rfl|(congr 1;done)|(congr 1;funext e s';cases e<;>rfl)
theorem vm_blk{id:Nat}{c:AC}:vm F G (.c (.blk id c)::k) Q s=vm F G (.c c:: .b id::k) Q s:=by
 simp only[vm,r_,vm.yS];all_goals first|rfl|(congr 1;done)|(congr 1;funext e s';cases e<;>rfl)
theorem VF:vm F G (.c .skip::k) Q s=vm F G k Q s:=by simp only[vm,r_]
theorem vm_ret:vm F G (.c .ret::k) Q s=Q .ret s:=by simp only[vm,r_]
theorem VG{i:Nat}:vm F G (.c (.exit i)::k) Q s=vm.yS F G i k Q s:=by simp only[vm,r_]
theorem VH{i:Nat}:vm.yS F G i [] Q s=Q (.exit i) s:=by simp only[vm.yS]
theorem vmx_b{i j:Nat}:vm.yS F G i (.b j::k) Q s=if i=j then vm F G k Q s else vm.yS F G i k Q s:=by simp only[vm.yS]
theorem vmx_c{i:Nat}{c:AC}:vm.yS F G i (.c c::k) Q s=vm.yS F G i k Q s:=by simp only[vm.yS]
theorem ay{l:List AO}(h:∀K:St→Prop,(∀s',vm F G k Q s'→K s')→rg F G false l s K):vm F G (.c (.reg l)::k) Q s:=by
 have:=h (vm F G k Q) fun _ h=>h
 simp only[vm,r_];exact this
theorem aB{l:List AO}(h:∀K:St→Prop,(∀s',vm F G k Q s'→K s')→rg F G true l s K):vm F G (.c (.Vu l)::k) Q s:=by
 have:=h (vm F G k Q) fun _ h=>h
 simp only[vm,r_];exact this
theorem au{cf:List (Nat×Nat)}{l:List AO}(h:∀K:St→Prop,(∀s',chk (jy s' cf) (vm F G k Q s')→K s')→rg F G true l s K):vm F G (.c (.Ce cf l)::k) Q s:=by
 have:=h (fun s'=>chk (jy s' cf) (vm F G k Q s')) fun _ h=>h
 simp only[vm,r_];exact this
theorem I4{s:St}{p:Prop}:chk (jy s []) p=p:=by simp[chk,jy]
theorem FW{s:St}{x y:Nat}{r:List (Nat×Nat)}{p:Prop}:chk (jy s ((x,y)::r)) p=chk (Yy (s.get x).ref (s.get y).ref) (chk (jy s r) p):=by simp[chk,jy,and_assoc]
theorem ref_i{q:IntKind}{n:Int}:V.ref (.i q n)=none:=rfl
theorem ref_b{x:Bool}:V.ref (.b x)=none:=rfl
theorem ref_s{x:List UInt8}:V.ref (.s x)=none:=rfl
theorem ref_l{z:Nat}{x:List V}:V.ref (.l z x)=none:=rfl
theorem ref_g{x:List V}:V.ref (.g x)=none:=rfl
theorem ref_t{x:List V}:V.ref (.t x)=none:=rfl
theorem ref_ip{x:List V}{n:Nat}:V.ref (.ip x n)=none:=rfl
theorem ref_nl:V.ref .nl=none:=rfl
theorem ref_un:V.ref .un=none:=rfl
theorem VI:V.ref .any=none:=rfl
theorem ref_c{x:Value}:V.ref (.c x)=none:=rfl
theorem ref_kn{v:Value}{x:V}:V.ref (.kn v x)=none:=rfl
theorem ref_pt{i n:Nat}:V.ref (.pt i n)=some i:=rfl
theorem ref_ow{z i n:Nat}:V.ref (.ow z i n)=some i:=rfl
theorem ref_sl{z i o n:Nat}:V.ref (.sl z i o n)=some i:=rfl
theorem apr_n1{a:Option Nat}{p:Prop}:chk (Yy none a) p=p:=by simp[chk,Yy]
theorem apr_n2{a:Option Nat}{p:Prop}:chk (Yy a none) p=p:=by cases a<;>simp[chk,Yy]
theorem apr_ss{a b:Nat}{p:Prop}:chk (Yy (some a) (some b)) p=if a=b then False else p:=by by_cases h:a=b<;>simp[chk,Yy,h]
def vmc(F G:Nat→List V→V→Prop)(v:V)(a b:AC)(k:List Fr)(Q:Ex→St→Prop)(s:St):Prop:=cnd v (vm F G (.c a::k) Q s) (vm F G (.c b::k) Q s)
theorem VJ{x:X}{a b:AC}:vm F G (.c (.cond x a b)::k) Q s=vmc F G (s.val x) a b k Q s:=by simp only[vm,r_,vmc]
theorem vmc_t{a b:AC}:vmc F G (.b true) a b k Q s=vm F G (.c a::k) Q s:=vO
theorem vmc_f{a b:AC}:vmc F G (.b false) a b k Q s=vm F G (.c b::k) Q s:=tq
theorem vmc_mk{t:Bool}{a b:AC}(h1:t=true→vm F G (.c a::k) Q s)(h2:t=false→vm F G (.c b::k) Q s):vmc F G (.b t) a b k Q s:=rW h1 h2
theorem Nc{c:AC}(ms:List (Nat×Nat×Nat))(X:Type)(mk:X→St)(I:X→Prop)(μ:X→Nat)(x0:X)(r0:List (Nat×Nat))(h0:I x0)(hms:St.lL ms s)(hle:(St.pg ms s).le r0 (mk x0))
 (round:∀x,I x→∀Q':Ex→St→Prop,(∀s' ms' x' r',I x'→μ x'<μ x→St.lL ms' s'→(St.pg ms' s').le r' (mk x')→Q' .normal s')→(∀i s',vm.yS F G i k Q s'→Q' (.exit i) s')→(∀s',Q .ret s'→Q' .ret s')→vm F G [.c c] Q' (mk x)):
 vm F G (.c (.loop c)::k) Q s:=by
 simp only[vm,r_]
 refine⟨X,mk,I,μ,⟨ms,x0,r0,h0,hms,hle⟩,fun x hx=>?_⟩
 have:=round x hx (fun e s'=>match e with| .normal=>∃ms' x' r,I x'∧μ x'<μ x∧St.lL ms' s'∧(St.pg ms' s').le r (mk x')| .exit i=>vm.yS F G i k Q s'| .ret=>Q .ret s')
  (fun s' ms' x' r' h1 h2 h3 h4=>⟨ms',x',r',h1,h2,h3,h4⟩) (fun i s' h=>h) (fun s' h=>h)
 simp only[vm,vm.yS]at this
 have e:(fun(e:Ex) (s':St)=>match e with
  | .normal=>(match Ex.normal with| .normal=>∃ms' x' r,I x'∧μ x'<μ x∧St.lL ms' s'∧(St.pg ms' s').le r (mk x')| .exit i=>vm.yS F G i k Q s'| .ret=>Q .ret s')
  | .exit i=>(match Ex.exit i with| .normal=>∃ms' x' r,I x'∧μ x'<μ x∧St.lL ms' s'∧(St.pg ms' s').le r (mk x')| .exit i=>vm.yS F G i k Q s'| .ret=>Q .ret s')
  | .ret=>(match Ex.ret with| .normal=>∃ms' x' r,I x'∧μ x'<μ x∧St.lL ms' s'∧(St.pg ms' s').le r (mk x')| .exit i=>vm.yS F G i k Q s'| .ret=>Q .ret s'))=
  (fun(e:Ex) (s':St)=>match e with| .normal=>∃ms' x' r,I x'∧μ x'<μ x∧St.lL ms' s'∧(St.pg ms' s').le r (mk x')| .exit i=>vm.yS F G i k Q s'| .ret=>Q .ret s'):=by
  funext e s';cases e<;>rfl
 simp only[]at this e
 exact this
theorem FX{c:AC}(ms:List (Nat×Nat×Nat))(X:Type)(mk:X→St)(I:X→Prop)(μ:X→Nat)(x0:X)(r0:List (Nat×Nat))(h0:I x0)(hms:St.lL ms s)(hle:(St.pg ms s).le r0 (mk x0))
 (round:∀x,I x→∀Q':Ex→St→Prop,(∀s' x' r',I x'→μ x'<μ x→s'.le r' (mk x')→Q' .normal s')→(∀i s',vm.yS F G i k Q s'→Q' (.exit i) s')→(∀s',Q .ret s'→Q' .ret s')→vm F G [.c c] Q' (mk x)):
 vm F G (.c (.loop c)::k) Q s:=
 Nc ms X mk I μ x0 r0 h0 hms hle fun x hx Q' hQ he hr=>round x hx Q' (fun s' x' r' h1 h2 h3=>hQ s' [] x' r' h1 h2 trivial h3) he hr
theorem wF{c:AC}(X:Type)(mk:X→St)(I:X→Prop)(μ:X→Nat)(x0:X)(r0:List (Nat×Nat))(h0:I x0)(hle:s.le r0 (mk x0))
 (round:∀x,I x→∀Q':Ex→St→Prop,(∀s' x' r',I x'→μ x'<μ x→s'.le r' (mk x')→Q' .normal s')→(∀i s',vm.yS F G i k Q s'→Q' (.exit i) s')→(∀s',Q .ret s'→Q' .ret s')→vm F G [.c c] Q' (mk x)):
 vm F G (.c (.loop c)::k) Q s:=FX [] X mk I μ x0 r0 h0 trivial hle round
theorem dG{ac:AC}(h:vm F G [.c ac] Q s):r_ F G ac Q s:=by
 simp only[vm,vm.yS]at h;have e:(fun(e:Ex) (s':St)=>match e with| .normal=>Q .normal s'| .exit i=>Q (.exit i) s'| .ret=>Q .ret s')=Q:=by funext e s';cases e<;>rfl
 rw[e]at h;exact h
theorem aft_s{env:List (Nat×V)}{lZ up:List (Nat×Option Ob)}{nx t:Nat}{v:V}:St.qZ ⟨env,lZ,nx⟩ (some t) v up=⟨(t,v)::env,up++lZ,nx+1⟩:=rfl
theorem aft_n{env:List (Nat×V)}{lZ up:List (Nat×Option Ob)}{nx:Nat}{v:V}:St.qZ ⟨env,lZ,nx⟩ none v up=⟨env,up++lZ,nx+1⟩:=rfl
theorem YE{env:List (Nat×V)}{lZ:List (Nat×Option Ob)}{nx t:Nat}:St.val ⟨env,lZ,nx⟩ (.t t)=lk env t:=rfl
theorem YF{v:V}:s.val (.k v)=v:=rfl
theorem YG{env:List (Nat×V)}{lZ:List (Nat×Option Ob)}{nx t:Nat}:St.get ⟨env,lZ,nx⟩ t=lk env t:=rfl
theorem ob_t{env:List (Nat×V)}{lZ:List (Nat×Option Ob)}{nx t:Nat}:St.ob ⟨env,lZ,nx⟩ t=lo lZ t:=rfl
theorem nx_t{env:List (Nat×V)}{lZ:List (Nat×Option Ob)}{nx:Nat}:St.nx ⟨env,lZ,nx⟩=nx:=rfl
theorem VK{i t:Nat}{o:Option Ob}{l:List (Nat×Option Ob)}:lo ((i,o)::l) t=if i=t then o else lo l t:=rfl
theorem lo_nil{t:Nat}:lo [] t=none:=rfl
theorem Qm{p:Prop}:chk True p=p:=by simp[chk]
theorem VL{p q u:Prop}:chk (p∧q) u=chk p (chk q u):=by simp[chk,and_assoc]
end
end Go.Proofs.YtcgfgifjkkmmcaaGreatDoor.Ab
namespace Go.Proofs.YtcgfgifjkkmmcaaGreatDoor.Ab
open Go Go.RowKit
theorem YH(k:Nat)(v:V)(r:List (Nat×V))(t:Nat):lk ((k,v)::r) t=if k=t then v else lk r t:=rfl
theorem VM(l:List (Nat×Option Ob)):[]++l=l:=rfl
theorem Qn(x:Nat×Option Ob)(l r:List (Nat×Option Ob)):(x::l)++r=x::(l++r):=rfl
def rdo:Option Ob→V
 |some o=>if o.jl then .any else .l o.sz o.cs
 |none=> .any
def rds(off n:Nat):Option Ob→V
 |some o=>if o.jl then .any else .l o.sz ((o.cs.drop off).take (n*o.sz))
 |none=> .any
def fro(id:Nat):Option Ob→List (Nat×Option Ob)
 |some o=>[(id,some {o with mu:=false})]
 |none=>[]
def oks(off n:Nat):Option Ob→Prop
 |some o=>off+n*o.sz≤o.cs.length
 |none=>False
section
variable {ob:Nat→Option Ob} {z:Nat}
theorem rdo_s{e sz:Nat}{cs:List V}{mu:Bool}:rdo (some ⟨e,sz,cs,mu,false⟩)= .l sz cs:=rfl
theorem rds_s{off n e sz:Nat}{cs:List V}{mu:Bool}:rds off n (some ⟨e,sz,cs,mu,false⟩)= .l sz ((cs.drop off).take (n*sz)):=rfl
theorem fro_s{id e sz:Nat}{cs:List V}{mu v:Bool}:fro id (some ⟨e,sz,cs,mu,v⟩)=[(id,some ⟨e,sz,cs,false,v⟩)]:=rfl
theorem oks_s{off n e sz:Nat}{cs:List V}{mu v:Bool}:oks off n (some ⟨e,sz,cs,mu,v⟩)=(off+n*sz≤cs.length):=rfl
theorem rd_i{k:IntKind}{n:Int}:rd ob z (.i k n)= .i k n:=rfl
theorem rd_b{x:Bool}:rd ob z (.b x)= .b x:=rfl
theorem rd_s{l:List UInt8}:rd ob z (.s l)= .s l:=rfl
theorem rd_l{s:Nat}{cs:List V}:rd ob z (.l s cs)= .l s cs:=rfl
theorem rd_g{cs:List V}:rd ob z (.g cs)= .g cs:=rfl
theorem rd_t{cs:List V}:rd ob z (.t cs)= .t cs:=rfl
theorem rd_ip{cs:List V}{k:Nat}:rd ob z (.ip cs k)= .ip cs k:=rfl
theorem rd_c{v:Value}:rd ob z (.c v)= .c v:=rfl
theorem rd_nl:rd ob z .nl= .l z []:=rfl
theorem rd_ow{s id n:Nat}:rd ob z (.ow s id n)=rdo (ob id):=by simp only[rd,rdo];cases ob id<;>rfl
theorem rd_sl{s id off n:Nat}:rd ob z (.sl s id off n)=rds off n (ob id):=by simp only[rd,rds];cases ob id<;>rfl
theorem okR_i{k:IntKind}{n:Int}:okR ob (.i k n)=True:=rfl
theorem okR_b{x:Bool}:okR ob (.b x)=True:=rfl
theorem okR_s{l:List UInt8}:okR ob (.s l)=True:=rfl
theorem okR_l{s:Nat}{cs:List V}:okR ob (.l s cs)=True:=rfl
theorem okR_g{cs:List V}:okR ob (.g cs)=True:=rfl
theorem okR_t{cs:List V}:okR ob (.t cs)=True:=rfl
theorem okR_ip{cs:List V}{k:Nat}:okR ob (.ip cs k)=True:=rfl
theorem okR_c{v:Value}:okR ob (.c v)=True:=rfl
theorem okR_nl:okR ob .nl=True:=rfl
theorem okR_ow{s id n:Nat}:okR ob (.ow s id n)=True:=rfl
theorem okR_sl{s id off n:Nat}:okR ob (.sl s id off n)=oks off n (ob id):=by simp only[okR,oks];cases ob id<;>rfl
theorem Qo:jZ ob []=True:=rfl
theorem Nh{v:V}{r:List V}:jZ ob (v::r)=(okR ob v∧jZ ob r):=rfl
theorem frz_i{k:IntKind}{n:Int}:eF ob (.i k n)=[]:=rfl
theorem frz_b{x:Bool}:eF ob (.b x)=[]:=rfl
theorem VN{l:List UInt8}:eF ob (.s l)=[]:=rfl
theorem frz_l{s:Nat}{cs:List V}:eF ob (.l s cs)=[]:=rfl
theorem frz_g{cs:List V}:eF ob (.g cs)=[]:=rfl
theorem frz_t{cs:List V}:eF ob (.t cs)=[]:=rfl
theorem frz_ip{cs:List V}{k:Nat}:eF ob (.ip cs k)=[]:=rfl
theorem frz_c{v:Value}:eF ob (.c v)=[]:=rfl
theorem frz_nl:eF ob .nl=[]:=rfl
theorem frz_ow{s id n:Nat}:eF ob (.ow s id n)=fro id (ob id):=by simp only[eF,fro];cases ob id<;>rfl
theorem frz_sl{s id off n:Nat}:eF ob (.sl s id off n)=fro id (ob id):=by simp only[eF,fro];cases ob id<;>rfl
theorem okA_i{k:IntKind}{n:Int}:V.aQ (.i k n)=true:=rfl
theorem okA_b{x:Bool}:V.aQ (.b x)=true:=rfl
theorem okA_s{l:List UInt8}:V.aQ (.s l)=true:=rfl
theorem okA_l{s:Nat}{cs:List V}:V.aQ (.l s cs)=true:=rfl
theorem okA_g{cs:List V}:V.aQ (.g cs)=true:=rfl
theorem okA_ip{cs:List V}{k:Nat}:V.aQ (.ip cs k)=true:=rfl
theorem okA_c{v:Value}:V.aQ (.c v)=true:=rfl
theorem okA_kn{v:Value}{x:V}:V.aQ (.kn v x)=true:=rfl
theorem VO{cs:List V}:V.cells (.g cs)=cs:=rfl
theorem VP{k:IntKind}{n:Int}:V.cells (.i k n)=[.i k n]:=rfl
theorem VQ{x:Bool}:V.cells (.b x)=[.b x]:=rfl
theorem VR{l:List UInt8}:V.cells (.s l)=[.s l]:=rfl
theorem VS{s:Nat}{cs:List V}:V.cells (.l s cs)=[.l s cs]:=rfl
theorem VT{v:Value}:V.cells (.c v)=[.c v]:=rfl
theorem rl_kn{nx:Nat}{v:Value}{x:V}:V.eU nx (.kn v x)=true:=rfl
theorem okR_kn{ob:Nat→Option Ob}{v:Value}{x:V}:okR ob (.kn v x)=True:=rfl
theorem frz_kn{ob:Nat→Option Ob}{v:Value}{x:V}:eF ob (.kn v x)=[]:=rfl
theorem Qp{v:Value}{x:V}:V.cells (.kn v x)=[.kn v x]:=rfl
theorem VU{a:Option Addr}{n c:Nat}{x:V}:V.cell (.kn (.slice a n c) x)=true:=rfl
theorem Qq{a:Option Addr}{n c:Nat}:V.cell (.c (.slice a n c))=true:=rfl
theorem rd_kn{ob:Nat→Option Ob}{sz:Nat}{v:Value}{x:V}:rd ob sz (.kn v x)= .kn v x:=rfl
theorem unk_kn{v:Value}{s:Nat}{cs:List V}:yQ (.kn v (.l s cs))= .l s cs:=rfl
theorem unk_l{s:Nat}{cs:List V}:yQ (.l s cs)= .l s cs:=rfl
theorem unk_ow{s j n:Nat}:yQ (.ow s j n)= .ow s j n:=rfl
theorem unk_sl{s j o n:Nat}:yQ (.sl s j o n)= .sl s j o n:=rfl
theorem unk_nl:yQ .nl= .nl:=rfl
theorem cell_i{k:IntKind}{n:Int}:V.cell (.i k n)=true:=rfl
theorem cell_b{x:Bool}:V.cell (.b x)=true:=rfl
theorem cell_s{l:List UInt8}:V.cell (.s l)=true:=rfl
theorem jM{s:Nat}{cs:List V}:V.cell (.l s cs)=true:=rfl
theorem sA_nil{cs:List V}{k:Nat}:setAt cs k []=cs:=rfl
theorem VV{cs:List V}{k:Nat}{v:V}{r:List V}:setAt cs k (v::r)=setAt (cs.set k v) (k+1) r:=rfl
theorem Qr{cs:List V}:jc cs []=cs:=rfl
theorem Nj{cs:List V}{k:Nat}{vs:List V}{r:List (Nat×List V)}:jc cs ((k,vs)::r)=jc (setAt cs k vs) r:=rfl
theorem fA_nil{n:Nat}:fitAll n []=true:=rfl
theorem VW{n k:Nat}{vs:List V}{r:List (Nat×List V)}:fitAll n ((k,vs)::r)=(decide (k+vs.length≤n)&&vs.all V.cell&&fitAll n r):=rfl
theorem all_nil(p:V→Bool):([]:List V).all p=true:=rfl
theorem all_cons(p:V→Bool)(v:V)(r:List V):(v::r).all p=(p v&&r.all p):=rfl
theorem Qs(p:Nat×Option Ob→Bool):([]:List (Nat×Option Ob)).all p=true:=rfl
theorem Nk(p:Nat×Option Ob→Bool)(v:Nat×Option Ob)(r:List (Nat×Option Ob)):(v::r).all p=(p v&&r.all p):=rfl
theorem len_nil:([]:List V).length=0:=rfl
theorem Qu(v:V)(r:List V):(v::r).length=r.length+1:=rfl
theorem set_z(v u:V)(r:List V):(v::r).set 0 u=u::r:=rfl
theorem set_s(v u:V)(r:List V)(n:Nat):(v::r).set (n+1) u=v::r.set n u:=rfl
theorem getD_z(v u:V)(r:List V):(v::r).getD 0 u=v:=rfl
theorem getD_s(v u:V)(r:List V)(n:Nat):(v::r).getD (n+1) u=r.getD n u:=rfl
end
section
variable {F G:Nat→List V→V→Prop} {dr m:Bool} {d:Option Nat} {r:List AO} {s:St} {K:St→Prop}
theorem bld_eq{ob:Nat→Option Ob}{zero:List V}{ps:List (Nat×Nat×V)}:bldp F G dr m ob zero ps d r s K=chk (jZ ob (ps.map fun p=>p.2.2)∧fitAll zero.length (ps.map fun p=>(p.1,(rd ob 1 p.2.2).cells))=true∧(ps.all fun p=>(rd ob 1 p.2.2).cells.length==p.2.1)=true)
 (fin F G dr m d (.g (jc zero (ps.map fun p=>(p.1,(rd ob 1 p.2.2).cells)))) (ps.flatMap fun p=>eF ob p.2.2) r s K):=rfl
theorem bsl_eq{ob:Nat→Option Ob}{e sz n:Nat}{zero:List V}{ps:List (Nat×V)}:bslp F G dr m ob e sz n zero ps d r s K=chk (jZ ob (ps.map fun p=>p.2)∧fitAll zero.length (ps.map fun p=>(p.1*sz,(rd ob 1 p.2).cells))=true∧(ps.all fun p=>(rd ob 1 p.2).cells.length==sz)=true)
 (fin F G dr m d (.ow sz s.nx n) ((s.nx,some {e,sz,cs:=jc zero (ps.map fun p=>(p.1*sz,(rd ob 1 p.2).cells)),mu:=true,jl:=false})::ps.flatMap fun p=>eF ob p.2) r s K):=rfl
end
def V.nf:V→Bool
 | .i _ _| .b _| .s _=>false
 |_=>true
def kN:List V→Bool
 |[]=>false
 |v::r=>v.nf||kN r
theorem Ag(cs:List V):(cs.any fun x=>match x with| .i _ _| .b _| .s _=>false|_=>true)=kN cs:=by
 induction cs with
 |nil=>rfl
 |cons v r ih=>simp only[List.any_cons,kN,ih];cases v<;>rfl
theorem hasL_t{cs:List V}:V.iI (.t cs)=kN cs:=Ag cs
theorem hasL_g{cs:List V}:V.iI (.g cs)=kN cs:=Ag cs
theorem hasL_o{e z:Nat}{cs:List V}:V.iI (.o e z cs)=kN cs:=Ag cs
theorem VX:kN []=false:=rfl
theorem Qv{v:V}{r:List V}:kN (v::r)=(v.nf||kN r):=rfl
theorem nf_i{k:IntKind}{n:Int}:V.nf (.i k n)=false:=rfl
theorem nf_b{x:Bool}:V.nf (.b x)=false:=rfl
theorem nf_s{l:List UInt8}:V.nf (.s l)=false:=rfl
theorem nf_l{z:Nat}{cs:List V}:V.nf (.l z cs)=true:=rfl
theorem lX{cs:List V}:V.nf (.g cs)=true:=rfl
theorem nf_c{v:Value}:V.nf (.c v)=true:=rfl
theorem or_f(x:Bool):(false||x)=x:=rfl
theorem or_t(x:Bool):(true||x)=true:=rfl
theorem rl_i{nx:Nat}{k:IntKind}{n:Int}:V.eU nx (.i k n)=true:=rfl
theorem rl_b{nx:Nat}{x:Bool}:V.eU nx (.b x)=true:=rfl
theorem rl_s{nx:Nat}{l:List UInt8}:V.eU nx (.s l)=true:=rfl
theorem rl_l{nx z:Nat}{cs:List V}:V.eU nx (.l z cs)=true:=rfl
theorem rl_g{nx:Nat}{cs:List V}:V.eU nx (.g cs)=true:=rfl
theorem rl_t{nx:Nat}{cs:List V}:V.eU nx (.t cs)=true:=rfl
theorem rl_ip{nx:Nat}{cs:List V}{k:Nat}:V.eU nx (.ip cs k)=true:=rfl
theorem rl_nl{nx:Nat}:V.eU nx .nl=true:=rfl
theorem rl_un{nx:Nat}:V.eU nx .un=true:=rfl
theorem rl_any{nx:Nat}:V.eU nx .any=true:=rfl
theorem rl_c{nx:Nat}{v:Value}:V.eU nx (.c v)=true:=rfl
theorem rl_ow{nx z j n:Nat}(h:j≤nx):V.eU nx (.ow z j n)=true:=by simp[V.eU,h]
theorem rl_sl{nx z j off n:Nat}(h:j≤nx):V.eU nx (.sl z j off n)=true:=by simp[V.eU,h]
theorem rl_pt{nx j off:Nat}(h:j≤nx):V.eU nx (.pt j off)=true:=by simp[V.eU,h]
def Sw:= an @hasL_t (an @hasL_g (an @hasL_o (an @VX (an @Qv (an @nf_i (an @nf_b (an @nf_s (an @nf_l (an @lX (an @nf_c (an @or_f (an @or_t (an @rl_i (an @rl_b (an @rl_s (an @rl_l (an @rl_g (an @rl_t (an @rl_ip (an @rl_nl (an @rl_un (an @rl_any (an @rl_c (an @rl_ow (an @rl_sl (an @rl_pt (an @rdo_s (an @rds_s (an @fro_s (an @oks_s (an @rd_i (an @rd_b (an @rd_s (an @rd_l (an @rd_g (an @rd_t (an @rd_ip (an @rd_c (an @rd_nl (an @rd_ow (an @rd_sl (an @okR_i (an @okR_b (an @okR_s (an @okR_l (an @okR_g (an @okR_t (an @okR_ip (an @okR_c (an @okR_nl (an @okR_ow (an @okR_sl (an @Qo (an @Nh (an @frz_i (an @frz_b (an @VN (an @frz_l (an @frz_g (an @frz_t (an @frz_ip (an @frz_c (an @frz_nl (an @frz_ow (an @frz_sl (an @okA_i (an @okA_b (an @okA_s (an @okA_l (an @okA_g (an @okA_ip (an (an @okA_c @okA_kn) (an @VO (an @VP (an @VQ (an @VR (an @VS (an (an @VT (an @Qp (an @VU (an @Qq (an @rd_kn (an @rl_kn (an @okR_kn @frz_kn))))))) (an @cell_i (an @cell_b (an @cell_s (an @jM (an @sA_nil (an @VV (an @Qr (an @Nj (an @fA_nil (an @VW (an @all_nil (an @all_cons (an @Qs (an @Nk (an @len_nil (an @Qu (an @set_z (an @set_s (an @getD_z (an @getD_s (an @bld_eq (an @bsl_eq (an @rg_nil (an @Vy (an @P7 (an @gdo_tt (an @gdo_ft (an @gdo_tf (an @gdo_ff (an @gdo_un (an @fin_f (an @fin_t (an @ldp_f (an (an @ldp_t @OY) (an (an @stp_s (an @stkp_s (an @MM (an @P8 @P9)))) (an @appq_s (an @VA (an @VB (an @go_mv (an @MB (an @MC (an @Ig (an @Ih (an @Ii (an @Ij (an @MF (an @Ik (an @BF (an @Il (an @Io (an @Ip (an @Iq (an @Ir (an @Iu (an @Iw (an @Iy (an @Iz (an @IB (an @IC (an @IE (an @IG (an @go_eqb (an @MG (an @MH (an @MI (an @go_cvt (an @go_six (an @P_ (an @MJ (an @MK (an @Qb (an @ML (an @Qc (an @Qd (an @MN (an @MO (an @go_bld (an @go_bsl (an @go_mk (an @MP (an @MQ (an @MR (an @MS (an @IJ (an @IK (an @IL (an @IM (an @IP (an @IQ (an @IU (an @IV (an (an @MV (an @unk_kn (an @unk_l (an @unk_ow (an @unk_sl (an @unk_nl @IW)))))) (an @IX (an @IY (an @IZ (an @Qe (an @MW (an @MX (an @MZ (an @go_app (an @go_al (an @go_ext (an @Qg (an @Qh (an @go_mm (an @go_call (an @Qi (an @M_ (an @Qj (an @Na (an @clr_o (an @clr_i (an @clr_b (an @clr_s (an @clr_l (an @clr_t (an @clr_g (an @aft_s (an @aft_n (an @YE (an @YF (an @YG (an @ob_t (an @nx_t (an @VK (an @lo_nil (an @Qm (an @VL (an @YH (an @VM (an @Qn (an @decide_true @decide_false))))))))))))))))))))))))))))))))))))))))))))))))))))))))))))))))))))))))))))))))))))))))))))))))))))))))))))))))))))))))))))))))))))))))))))))))))))))))))))))))))))))))))))))))))))))))))))))))))))))))))))))))))
section
variable {s:St} {r:List (Nat×Nat)} {nx t:Nat}
theorem le_mk{env:List (Nat×V)}{lZ:List (Nat×Option Ob)}:s.le r ⟨env,lZ,nx⟩=(leE s r nx env∧leO s r nx lZ∧leN r lZ):=rfl
theorem VY:leE s r nx []=True:=rfl
theorem Qw{v:V}{l:List (Nat×V)}:leE s r nx ((t,v)::l)=(DN s r nx t v∧leE s r nx l):=rfl
theorem VZ:leO s r nx []=True:=rfl
theorem Qx{o:Option Ob}{l:List (Nat×Option Ob)}:leO s r nx ((t,o)::l)=(t<nx∧s.ob (rn r t)=o∧U_ o∧leO s r nx l):=rfl
theorem V3:leN r []=True:=rfl
theorem Qy{o:Option Ob}{l:List (Nat×Option Ob)}:leN r ((t,o)::l)=((l.all fun p=>rn r p.1 != rn r t)=true∧leN r l):=rfl
theorem rn_nil:rn [] t=t:=rfl
theorem V4{k v:Nat}:rn ((k,v)::r) t=if k=t then v else rn r t:=rfl
theorem V6:DN s r nx t .any=True:=rfl
theorem leV_i{k:IntKind}{n:Int}:DN s r nx t (.i k n)=(s.get t= .i k n):=rfl
theorem leV_b{x:Bool}:DN s r nx t (.b x)=(s.get t= .b x):=rfl
theorem leV_s{l:List UInt8}:DN s r nx t (.s l)=(s.get t= .s l):=rfl
theorem leV_l{z:Nat}{cs:List V}:DN s r nx t (.l z cs)=(s.get t= .l z cs):=rfl
theorem leV_g{cs:List V}:DN s r nx t (.g cs)=(s.get t= .g cs):=rfl
theorem leV_t{cs:List V}:DN s r nx t (.t cs)=(s.get t= .t cs):=rfl
theorem leV_nl:DN s r nx t .nl=(s.get t= .nl):=rfl
theorem leV_c{v:Value}:DN s r nx t (.c v)=(s.get t= .c v):=rfl
theorem leV_ow{z i n:Nat}:DN s r nx t (.ow z i n)=(i<nx∧s.get t= .ow z (rn r i) n):=rfl
theorem leV_sl{z i off n:Nat}:DN s r nx t (.sl z i off n)=(i<nx∧vP (s.get t)= .sl z (rn r i) off n):=rfl
theorem leV_pt{i off:Nat}:DN s r nx t (.pt i off)=(i<nx∧s.get t= .pt (rn r i) off):=rfl
theorem Qz:St.pg [] s=s:=rfl
theorem Nl{e z:Nat}{env:List (Nat×V)}{lZ:List (Nat×Option Ob)}{l:List (Nat×Nat×Nat)}:St.pg ((t,e,z)::l) ⟨env,lZ,nx⟩=St.pg l ⟨(t,.ow z nx 0)::env,(nx,some {e,sz:=z,cs:=[],mu:=true,jl:=false})::lZ,nx+1⟩:=rfl
theorem Np:St.lL [] s=True:=rfl
theorem I5{e z:Nat}{env:List (Nat×V)}{lZ:List (Nat×Option Ob)}{l:List (Nat×Nat×Nat)}:St.lL ((t,e,z)::l) ⟨env,lZ,nx⟩=(lk env t= .nl∧0<z∧St.lL l ⟨(t,.ow z nx 0)::env,(nx,some {e,sz:=z,cs:=[],mu:=true,jl:=false})::lZ,nx+1⟩):=rfl
theorem ow_eq{z i n z' i' n':Nat}:(V.ow z i n=V.ow z' i' n')=(z=z'∧i=i'∧n=n'):=sy
theorem iV{k k':IntKind}{n n':Int}:(V.i k n=V.i k' n')=(k=k'∧n=n'):=sy
theorem b_eq{x y:Bool}:(V.b x=V.b y)=(x=y):=sy
theorem Nq{z z':Nat}{cs cs':List V}:(V.l z cs=V.l z' cs')=(z=z'∧cs=cs'):=sy
theorem o_eq{e e' z z':Nat}{cs cs':List V}{m m' v v':Bool}:((some ⟨e,z,cs,m,v⟩:Option Ob)=some ⟨e',z',cs',m',v'⟩)=(e=e'∧z=z'∧cs=cs'∧m=m'∧v=v'):=sy
end
def Sv:= an @vm_nil (an @vm_b (an @Ql (an @vm_blk (an @VF (an @vm_ret (an @VG (an @VH (an @vmx_b (an @vmx_c (an @VJ (an @vmc_t (an @vmc_f (an @YE (an @YF (an @I4 (an @FW (an @YG (an @ref_i (an @ref_b (an @ref_s (an @ref_l (an @ref_g (an @ref_t (an @ref_ip (an @ref_nl (an @ref_un (an @VI (an (an @ref_c @ref_kn) (an @ref_pt (an @ref_ow (an @ref_sl (an @apr_n1 (an @apr_n2 (an @apr_ss @YH))))))))))))))))))))))))))))))))))
def Sl:= an @Qz (an @Nl (an @Np (an @I5 (an @le_mk (an @VY (an @Qw (an @VZ (an (an @Qx (an @ZR (an @ZT @OY))) (an @V3 (an @Qy (an @rn_nil (an @V4 (an @V6 (an @leV_i (an @leV_b (an @leV_s (an @leV_l (an @leV_g (an @leV_t (an @leV_nl (an @leV_c (an @leV_ow (an @leV_sl (an @leV_pt (an @ow_eq (an @iV (an @b_eq (an @Nq @o_eq))))))))))))))))))))))))))))
def fRc(i:Nat)(v:V)(l:List (Nat×Nat)):List (Nat×Nat):=
 match v with
 | .ow _ j _| .sl _ j _ _| .pt j _=>(i,j)::l
 |_=>l
def fR(s:St):List (Nat×V)→List (Nat×Nat)
 |[]=>[]
 |(t,.ow _ i _)::r|(t,.sl _ i _ _)::r|(t,.pt i _)::r=>fRc i (s.get t) (fR s r)
 |_::r=>fR s r
def St.leA(s s':St):Prop:=s.le (fR s s'.env) s'
section
variable {F G:Nat→List V→V→Prop} {s:St} {Q:Ex→St→Prop} {k:List Fr}
theorem leA_mk{env env':List (Nat×V)}{lZ obs':List (Nat×Option Ob)}{nx nx':Nat}:St.leA ⟨env,lZ,nx⟩ ⟨env',obs',nx'⟩=St.le ⟨env,lZ,nx⟩ (fR ⟨env,lZ,nx⟩ env') ⟨env',obs',nx'⟩:=rfl
theorem fR_nil:fR s []=[]:=rfl
theorem fR_ow{t z i n:Nat}{r:List (Nat×V)}:fR s ((t,.ow z i n)::r)=fRc i (s.get t) (fR s r):=rfl
theorem fR_sl{t z i o n:Nat}{r:List (Nat×V)}:fR s ((t,.sl z i o n)::r)=fRc i (s.get t) (fR s r):=rfl
theorem fR_pt{t i o:Nat}{r:List (Nat×V)}:fR s ((t,.pt i o)::r)=fRc i (s.get t) (fR s r):=rfl
theorem fR_i{t:Nat}{k:IntKind}{n:Int}{r:List (Nat×V)}:fR s ((t,.i k n)::r)=fR s r:=rfl
theorem fR_b{t:Nat}{x:Bool}{r:List (Nat×V)}:fR s ((t,.b x)::r)=fR s r:=rfl
theorem fR_s{t:Nat}{l:List UInt8}{r:List (Nat×V)}:fR s ((t,.s l)::r)=fR s r:=rfl
theorem fR_l{t z:Nat}{cs:List V}{r:List (Nat×V)}:fR s ((t,.l z cs)::r)=fR s r:=rfl
theorem fR_g{t:Nat}{cs:List V}{r:List (Nat×V)}:fR s ((t,.g cs)::r)=fR s r:=rfl
theorem fR_t{t:Nat}{cs:List V}{r:List (Nat×V)}:fR s ((t,.t cs)::r)=fR s r:=rfl
theorem fR_nl{t:Nat}{r:List (Nat×V)}:fR s ((t,.nl)::r)=fR s r:=rfl
theorem fR_c{t:Nat}{v:Value}{r:List (Nat×V)}:fR s ((t,.c v)::r)=fR s r:=rfl
theorem fR_any{t:Nat}{r:List (Nat×V)}:fR s ((t,.any)::r)=fR s r:=rfl
theorem fRc_ow{i z j n:Nat}{l:List (Nat×Nat)}:fRc i (.ow z j n) l=(i,j)::l:=rfl
theorem fRc_sl{i z j o n:Nat}{l:List (Nat×Nat)}:fRc i (.sl z j o n) l=(i,j)::l:=rfl
theorem Ku{z i n:Nat}:vP (.ow z i n)= .sl z i 0 n:=rfl
theorem Kv{z i o n:Nat}:vP (.sl z i o n)= .sl z i o n:=rfl
theorem sl_eq{z i o n z' i' o' n':Nat}:(V.sl z i o n=V.sl z' i' o' n')=(z=z'∧i=i'∧o=o'∧n=n'):=sy
theorem fRc_pt{i j o:Nat}{l:List (Nat×Nat)}:fRc i (.pt j o) l=(i,j)::l:=rfl
def Sa0:= an @leA_mk (an @fR_nil (an @fR_ow (an @fR_sl (an @fR_pt (an @fR_i (an @fR_b (an @fR_s (an @fR_l (an @fR_g (an @fR_t (an @fR_nl (an @fR_c (an @fR_any (an @fRc_ow (an @fRc_sl (an @fRc_pt (an @Ku (an @Kv @sl_eq))))))))))))))))))
theorem leV_f{s:St}{r:List (Nat×Nat)}{nx t:Nat}{n:Int}:DN s r nx t (.f n)=(s.get t= .f n):=rfl
theorem leV_z{s:St}{r:List (Nat×Nat)}{nx t:Nat}{a b:Int}:DN s r nx t (.z a b)=(s.get t= .z a b):=rfl
theorem f_eq{a b:Int}:(V.f a=V.f b)=(a=b):=sy
theorem z_eq{a b c e:Int}:(V.z a b=V.z c e)=(a=c∧b=e):=sy
theorem fR_f{t:Nat}{n:Int}{r:List (Nat×V)}:fR s ((t,.f n)::r)=fR s r:=rfl
theorem fR_z{t:Nat}{a b:Int}{r:List (Nat×V)}:fR s ((t,.z a b)::r)=fR s r:=rfl
def Sa:= an Sa0 (an @leV_f (an @leV_z (an @f_eq (an @z_eq (an @fR_f @fR_z)))))
theorem aF{c:AC}(ms:List (Nat×Nat×Nat))(X:Type)(mk:X→St)(I:X→Prop)(μ:X→Nat)(x0:X)(h0:I x0)(hms:St.lL ms s)(hle:(St.pg ms s).leA (mk x0))
 (round:∀x,I x→∀Q':Ex→St→Prop,(∀s' x',I x'→μ x'<μ x→s'.leA (mk x')→Q' .normal s')→(∀i s',vm.yS F G i k Q s'→Q' (.exit i) s')→(∀s',Q .ret s'→Q' .ret s')→vm F G [.c c] Q' (mk x)):
 vm F G (.c (.loop c)::k) Q s:=
 FX ms X mk I μ x0 _ h0 hms hle fun x hx Q' hQ he hr=>round x hx Q' (fun s' x' h1 h2 h3=>hQ s' x' _ h1 h2 h3) he hr
end
section
variable {F G:Nat→List V→V→Prop} {dr m:Bool} {d:Option Nat} {r:List AO} {s:St} {K:St→Prop} {ob:Nat→Option Ob}
theorem bxp_eq{e:Nat}{v:V}{cs:List V}:bxp F G dr m ob e v cs d r s K=chk (okR ob v∧cs.all V.cell=true) (fin F G dr m d (.pt s.nx 0) ((s.nx,some {e,sz:=cs.length,cs:=cs,mu:=true,jl:=true})::eF ob v) r s K):=rfl
end
theorem Bt_len(l:List UInt8):(Bt l).length=l.length:=by simp[Bt]
theorem Bt_nf(l:List UInt8):kN (Bt l)=false:=by
 induction l with
 |nil=>rfl
 |cons x r ih=>simpa[Bt,kN,V.nf]using ih
def Sx:= an @VC (an @VD (an @VE (an @clr_to (an @go_cpy (an @Vz (an @cpyq_s (an @Ku (an @Kv (an @clr_fr (an @go_bx (an @bxp_eq (an Bt_len Bt_nf))))))))))))
theorem Sb:(∀{α β:Type} {f:α→β},List.map f []=[])∧(∀{α β:Type} {f:α→β} {a:α} {l:List α},List.map f (a::l)=f a::List.map f l)∧
 (∀{α β:Type} {f:α→β} {a:α},Option.map f (some a)=some (f a))∧(∀{α β:Type} {f:α→β},Option.map f none=none)∧
 (∀{α:Type} {p:α→Bool},List.all [] p=true)∧(∀{α:Type} {p:α→Bool} {a:α} {l:List α},List.all (a::l) p=(p a&&List.all l p))∧
 (∀{α β:Type} {f:α→List β},List.flatMap f []=[])∧(∀{α β:Type} {f:α→List β} {a:α} {l:List α},List.flatMap f (a::l)=f a++List.flatMap f l)∧
 (∀b:Bool,(b&&true)=b)∧(∀b:Bool,(true&&b)=b)∧(∀b:Bool,(b&&b)=b)∧(∀{α:Type} {a:α},List.replicate 0 a=[])∧(∀{α:Type},([]:List (List α)).flatten=[])∧
 (∀p:Prop,(p∧True)=p)∧(∀p:Prop,(True∧p)=p)∧((!true)=false)∧((!false)=true)∧((¬True)=False)∧((¬False)=True)∧
 (∀{α:Type} {a:List α},a++[]=a)∧(∀n:Nat,(n≤n)=True)∧(∀a:Int,- -a=a)∧
 (∀{α:Type} {a:List α},a.drop 0=a)∧(∀{α:Type} {a:α} {l:List α} {n:Nat},(a::l).drop (n+1)=l.drop n)∧(∀{α:Type} {n:Nat},([]:List α).drop n=[])∧
 (∀{α:Type} {a:List α},a.take 0=[])∧(∀{α:Type} {a:α} {l:List α} {n:Nat},(a::l).take (n+1)=a::l.take n)∧(∀{α:Type} {n:Nat},([]:List α).take n=[]):=
 ⟨List.map_nil,List.map_cons,Option.map_some _ _,Option.map_none _,List.all_nil,List.all_cons,List.flatMap_nil,List.flatMap_cons,Bool.and_true,Bool.true_and,Bool.and_self,List.replicate_zero,List.flatten_nil,
   and_true,true_and,Bool.not_true,Bool.not_false,not_true_eq_false,not_false_eq_true,List.append_nil _,fun n=>eq_true (Nat.le_refl n),Int.neg_neg,List.drop_zero,List.drop_succ_cons,List.drop_nil,List.take_zero,List.take_succ_cons,List.take_nil⟩
section
variable {F G:Nat→List V→V→Prop} {dr m:Bool} {d:Option Nat} {r:List AO} {s:St} {K:St→Prop}
theorem qA{f:Nat}{args:List (Nat×V)}(res:V)(vs:List V)(hf:F f vs res)(hv:(args.map fun p=>rd s.ob p.1 p.2)=vs)
 (hk:chk (jZ s.ob (args.map fun p=>p.2)) (chk ((args.all fun p=>(rd s.ob p.1 p.2).aQ)=true) (w_ F G dr m args res d r s K))):clp F G dr m f args d r s K:=
 Qk res vs hk.1 hk.2.1 hv hf hk.2.2
theorem V7{f:Nat}{args:List (Nat×V)}(res:V)(vs:List V)(hf:F f vs res)(hv:(args.map fun p=>Ox true s.ob p.1 p.2)=vs)
 (hk:chk (jZ s.ob (args.map fun p=>p.2)) (chk ((args.all fun p=>(rd s.ob p.1 p.2).aQ)=true) (w_ F G dr m args res d r s K))):clp F G dr m f args d r s K:=
 ⟨⟨hk.1,hk.2.1⟩,true,res,hv▸hf,hk.2.2⟩
end
section
variable (F G:Nat→List V→V→Prop) (dr m:Bool)
def clq(f:Nat)(vs:List V)(args:List (Nat×V))(d:Option Nat)(r:List AO)(s:St)(K:St→Prop):Prop:=
 ∃res,F f vs res∧chk (jZ s.ob (args.map fun p=>p.2)) (chk ((args.all fun p=>(rd s.ob p.1 p.2).aQ)=true) (w_ F G dr m args res d r s K))
end
section
variable {F G:Nat→List V→V→Prop} {dr m:Bool} {d:Option Nat} {r:List AO} {s:St} {K:St→Prop}
theorem kL{f:Nat}{args:List (Nat×V)}(h:clq F G dr m f (args.map fun p=>rd s.ob p.1 p.2) args d r s K):clp F G dr m f args d r s K:=
 let ⟨res,hf,hk⟩:=h
 qA res _ hf rfl hk
theorem iL{f:Nat}{vs:List V}{res:V}{args:List (Nat×V)}(hf:F f vs res)(hk:chk (jZ s.ob (args.map fun p=>p.2)) (chk ((args.all fun p=>(rd s.ob p.1 p.2).aQ)=true) (w_ F G dr m args res d r s K))):clq F G dr m f vs args d r s K:=⟨res,hf,hk⟩
end
section
variable {ob:Nat→Option Ob} {z:Nat}
theorem rdd_f{n:Int}:rd ob z (.f n)= .f n:=rfl
theorem rdd_z{a b:Int}:rd ob z (.z a b)= .z a b:=rfl
theorem okR_f{n:Int}:okR ob (.f n)=True:=rfl
theorem okR_z{a b:Int}:okR ob (.z a b)=True:=rfl
theorem frz_f{n:Int}:eF ob (.f n)=[]:=rfl
theorem frz_z{a b:Int}:eF ob (.z a b)=[]:=rfl
theorem okA_f{n:Int}:V.aQ (.f n)=true:=rfl
theorem okA_z{a b:Int}:V.aQ (.z a b)=true:=rfl
theorem rl_f{nx:Nat}{n:Int}:V.eU nx (.f n)=true:=rfl
theorem rl_z{nx:Nat}{a b:Int}:V.eU nx (.z a b)=true:=rfl
theorem nf_f{n:Int}:V.nf (.f n)=true:=rfl
theorem nf_z{a b:Int}:V.nf (.z a b)=true:=rfl
end
section
variable {F G:Nat→List V→V→Prop} {dr m:Bool} {d:Option Nat} {r:List AO} {s:St} {K:St→Prop}
theorem clr_f{args:List (Nat×V)}{n:Int}:w_ F G dr m args (.f n) d r s K=fin F G dr m d (.f n) [] r s K:=rfl
theorem clr_z{args:List (Nat×V)}{a b:Int}:w_ F G dr m args (.z a b) d r s K=fin F G dr m d (.z a b) [] r s K:=rfl
end
theorem QA{k:IntKind}{n:Int}(h:n.natAbs<9007199254740992):yw (.nm .i2f) [.i k n]=some (.f n):=if_pos h
theorem QB{n:Int}(h: -9223372036854775808≤n∧n≤9223372036854775807):yw (.nm (.f2i .i64)) [.f n]=some (.i .i64 n):=if_pos h
theorem QC{a b:Int}:yw (.nm .mkz) [.f a,.f b]=some (.z a b):=rfl
theorem V8{a b:Int}:yw (.nm .re) [.z a b]=some (.f a):=rfl
theorem V9{a b:Int}:yw (.nm .im) [.z a b]=some (.f b):=rfl
theorem Nr{a b c e:Int}(h:(a+c).natAbs<9007199254740992∧(b+e).natAbs<9007199254740992):yw (.nm .zadd) [.z a b,.z c e]=some (.z (a+c) (b+e)):=if_pos h
theorem Ns{a b c e:Int}(h:(a-c).natAbs<9007199254740992∧(b-e).natAbs<9007199254740992):yw (.nm .zsub) [.z a b,.z c e]=some (.z (a-c) (b-e)):=if_pos h
theorem Nu{a b c e:Int}(h:(a*c).natAbs+(b*e).natAbs<9007199254740992∧(a*e).natAbs+(b*c).natAbs<9007199254740992):yw (.nm .zmul) [.z a b,.z c e]=some (.z (a*c-b*e) (a*e+b*c)):=if_pos h
def Sg:= an @rdd_f (an @rdd_z (an @okR_f (an @okR_z (an @frz_f (an @frz_z (an @okA_f (an @okA_z (an @rl_f (an @rl_z (an @nf_f (an @nf_z (an @clr_f (an @clr_z (an @QA (an @QB (an @QC (an @V8 (an @V9 (an @Nr (an @Ns (an @Nu @II)))))))))))))))))))))
section
variable (F G:Nat→List V→V→Prop) (dr m:Bool)
def mcr(f k j:Nat)(o:Ob)(vs:List V)(args:List (Nat×V))(d:Option Nat)(r:List AO)(s:St)(K:St→Prop):Prop:=
 ∃res cs',F f vs (.mu res cs')∧chk (jZ s.ob (args.map fun p=>p.2)) (chk ((args.all fun p=>(rd s.ob p.1 p.2).aQ)=true) (chk (o.mu=true) (chk (o.jl=false) (chk (((args.eraseIdx k).all fun p=>(eF s.ob p.2).all fun q=>q.1 != j)=true)
  (chk (res.iI=false) (fin F G dr m d res ((j,some {o with cs:=cs'})::(args.eraseIdx k).flatMap fun p=>eF s.ob p.2) r s K))))))
end
section
variable {F G:Nat→List V→V→Prop} {dr m:Bool} {d:Option Nat} {r:List AO} {s:St} {K:St→Prop}
theorem mcp_ow{f k z j n:Nat}{args:List (Nat×V)}:mcp F G dr m f k (some (.ow z j n)) args d r s K=mcq F G dr m (s.ob j) f k j args d r s K:=rfl
theorem kM{f k j:Nat}{o:Ob}{args:List (Nat×V)}(h:mcr F G dr m f k j o ((args.map fun p=>rd s.ob p.1 p.2).set k (.o o.e o.sz o.cs)) args d r s K):mcq F G dr m (some o) f k j args d r s K:=by
 obtain⟨res,cs',h1,h2,h3,h4,h5,h6,h7,h8⟩:=h;exact⟨⟨h2,h3,h4,h5,h6⟩,res,cs',h1,h7,h8⟩
theorem iM{f k j:Nat}{o:Ob}{vs:List V}{res:V}{cs':List V}{args:List (Nat×V)}(hf:F f vs (.mu res cs'))(h:chk (jZ s.ob (args.map fun p=>p.2)) (chk ((args.all fun p=>(rd s.ob p.1 p.2).aQ)=true) (chk (o.mu=true) (chk (o.jl=false) (chk (((args.eraseIdx k).all fun p=>(eF s.ob p.2).all fun q=>q.1 != j)=true)
 (chk (res.iI=false) (fin F G dr m d res ((j,some {o with cs:=cs'})::(args.eraseIdx k).flatMap fun p=>eF s.ob p.2) r s K))))))):mcr F G dr m f k j o vs args d r s K:=⟨res,cs',hf,h⟩
end
theorem setV_0{v x:V}{r:List V}:(v::r).set 0 x=x::r:=rfl
theorem setV_s{v x:V}{r:List V}{n:Nat}:(v::r).set (n+1) x=v::r.set n x:=rfl
theorem eraV_0{v:Nat×V}{r:List (Nat×V)}:(v::r).eraseIdx 0=r:=rfl
theorem eraV_s{v:Nat×V}{r:List (Nat×V)}{n:Nat}:(v::r).eraseIdx (n+1)=v::r.eraseIdx n:=rfl
theorem getV_0{v:Nat×V}{r:List (Nat×V)}:(v::r)[0]? =some v:=rfl
theorem getV_s{v:Nat×V}{r:List (Nat×V)}{n:Nat}:(v::r)[n+1]? =r[n]? :=rfl
theorem V_:V.iI (.t [])=false:=rfl
theorem mapS{v:Nat×V}{g:Nat×V→V}:(some v).map g=some (g v):=rfl
theorem OU{args:List V}{e sz:Nat}{cs:List V}:P6 args e sz cs=⟨fC 0 (vN args),[(0,some ⟨e,sz,cs,true,false⟩)],1⟩:=rfl
section
variable {ob:Nat→Option Ob} {z:Nat}
theorem okR_fc{f:Nat}{cs:List V}:okR ob (.fc f cs)=True:=rfl
theorem rd_fc{f:Nat}{cs:List V}:rd ob z (.fc f cs)= .fc f cs:=rfl
theorem frz_fc{f:Nat}{cs:List V}:eF ob (.fc f cs)=[]:=rfl
theorem okA_fc{f:Nat}{cs:List V}:V.aQ (.fc f cs)=true:=rfl
theorem rl_fc{nx f:Nat}{cs:List V}:V.eU nx (.fc f cs)=true:=rfl
theorem nf_fc{f:Nat}{cs:List V}:V.nf (.fc f cs)=true:=rfl
end
def Sm:=an @Qa (an @mcp_ow (an @setV_0 (an @setV_s (an @eraV_0 (an @eraV_s (an @getV_0 (an @getV_s (an V_ (an @mapS (an @okR_fc (an @rd_fc (an @frz_fc (an @okA_fc (an @rl_fc (an @nf_fc (an Bool.true_or (an Bool.or_true (an Bool.false_or Bool.or_false))))))))))))))))))
theorem fZ{args:List V}:pq args=⟨fC 0 args,[],0⟩:=rfl
def S0:= an Sm (an Sg (an Sw (an Sx (an Sb (an @decide_eq_true_eq (an @decide_true (an @decide_false (an @ZU @Int.cast_ofNat_Int))))))))
end Go.Proofs.YtcgfgifjkkmmcaaGreatDoor.Ab
namespace Go.Proofs.YtcgfgifjkkmmcaaGreatDoor.Ab
open Go Go.RowKit
theorem Nv{w:World}{B e sz n:Nat}{v:Value}{xs:List Value}{cs:List V}{H:Nat→Prop}(hsz:0<sz)(ho:w.ownsRow B e sz v n xs)(hr:aj w H xs cs)(hm:n≤maxLen)(hH:∀b,blk v=some b→H b):Rep0 w H v (.l sz cs):=by
 have ho':=ho;rcases ho.2 with ⟨rfl,rfl⟩|⟨g,cap,cur,rfl,hb,hh,hnc,hcm,hcs,htake⟩
 ·have h0:cs.length=0:=by rw[←hr.1,ho.1,Nat.zero_mul]
  exact .l none 0 0 sz cs (fun _=>undef) 0 0 hsz (by rw[h0,Nat.zero_mul]) (Nat.zero_le _) (Nat.le_refl _) (.inl (List.eq_nil_of_length_eq_zero h0)) (fun j hj=>om) (fun j x hx=>by
   have:=(List.getElem?_eq_some_iff.1 hx).1;omega)
 ·refine .l _ n cap sz cs (fun j=>xs.getD j undef) g 0 hsz (by rw[←hr.1,ho.1]) hm hnc (.inr ⟨rfl,hH g rfl⟩) (fun j hj=>?_) (fun j x hx=>?_)
  ·have hj':j<xs.length:=by rw[hr.1];exact hj
   rw[Nat.zero_add,ho'.cellAt j (by rw[←ho.1];exact hj'),List.getElem?_eq_getElem hj',List.getD_eq_getElem?_getD,List.getElem?_eq_getElem hj'];rfl
  ·have hj:j<cs.length:=(List.getElem?_eq_some_iff.1 hx).1;have hj':j<xs.length:=by rw[hr.1];exact hj
   have:=hr.2 j xs[j] x (List.getElem?_eq_getElem hj') hx;rw[List.getD_eq_getElem?_getD,List.getElem?_eq_getElem hj'];exact this
theorem ah.frozen{P:Program}{J:World→Prop}{f:FuncId}{args:List V}{e sz:Nat}{cs:List V}(h:ah P J f args (.o e sz cs)):ah P J f args (.l sz cs):= .of0 rfl fun w H vs hJ hT hH hr=>by
 refine(h w H vs hJ hT hH hr).mono ?_;rintro x w' ⟨v,rfl,hb,N,hN,hres⟩;rcases hres with hres|⟨e',sz',cs',n,xs,h1,hsz,ho,hra,_,hm,hno⟩|⟨r',h,_⟩
 ·cases hres
 ·cases h1;refine⟨v,rfl,hb,fun b=>N b∨blk v=some b,fun b hb'=>?_,.inl ?_⟩
  ·rcases hb' with h2|h2
   ·exact hN b h2
   ·rcases ho.2 with ⟨rfl,_⟩|⟨g,cap,cur,rfl,hbg,hh,_⟩
    ·cases h2
    ·cases h2;exact⟨hbg,(Array.getElem?_eq_some_iff.1 hh).1⟩
  ·exact Nv hsz ho (hra.mono (fun b h=>h.elim .inl fun h=> .inr (.inl h)) (fun _ _=>rfl)) hm (fun b h=> .inr (.inr h))
 ·cases h
end Go.Proofs.YtcgfgifjkkmmcaaGreatDoor.Ab
namespace Go.Proofs.YtcgfgifjkkmmcaaGreatDoor.Ab
open Go Go.RowKit
theorem ai{a b:Prop}(x:a)(y:b):a∧b:=⟨x,y⟩
theorem qc{B p q:Prop}(b:B)(k:q)(h:PLift B→PLift q→p:=by
 intro bz hq;repeat first|(refine hK _ ?_;clear hK K)|simp only[Sv,↓reduceIte,Nat.reduceEqDiff]|((first|refine ay (fun K hK=>?_)|refine aB (fun K hK=>?_)|refine au (fun K hK=>?_)|refine kL ?_|(apply iL;assumption)|refine kM ?_|(apply iM;assumption)|(apply iP;assumption));simp(disch:=(first|omega|assumption)) only[S1,seval,-Int.reduceToNat,-List.reduceReplicate,a_.sb,a_.mut,bZ,↓Bool.false_eq_true,beq_self_eq_true,ite_self,bz.down])
 exact hq.down):p:=h ⟨b⟩ ⟨k⟩
theorem prQ{B p q:Prop}(b:B)(k:q)(h:PLift B→PLift q→p:=by
 intro bz hq;repeat first|(refine hK _ ?_;clear hK K)|simp only[Sv,↓reduceIte,Nat.reduceEqDiff]|((first|refine ay (fun K hK=>?_)|refine aB (fun K hK=>?_)|refine au (fun K hK=>?_));simp(disch:=(first|omega|assumption)) only[S1,seval,-Int.reduceToNat,-List.reduceReplicate,a_.sb,a_.mut,bZ,↓Bool.false_eq_true,beq_self_eq_true,ite_self,bz.down])
 exact hq.down):p:=h ⟨b⟩ ⟨k⟩
theorem aJ{B p q:Prop}(b:B)(k:q)(h:PLift B→PLift q→p:=by
 intro bz hq;repeat first|(refine hK _ ?_;clear hK K)|((first|refine ay (fun K hK=>?_)|refine aB (fun K hK=>?_)|refine au (fun K hK=>?_));simp(disch:=(first|omega|assumption)) only[S1,seval,-Int.reduceToNat,-List.reduceReplicate,a_.sb,a_.mut,bZ,↓Bool.false_eq_true,beq_self_eq_true,ite_self,bz.down];refine hK _ ?_;clear hK K)|simp only[Sv,↓reduceIte,Nat.reduceEqDiff]
 exact hq.down):p:=h ⟨b⟩ ⟨k⟩
theorem dM{B p q:Prop}(b:B)(k:q)(h:PLift B→PLift q→p:=by
 intro bz hq;simp(disch:=(first|omega|assumption)) only[S1,seval,-Int.reduceToNat,-List.reduceReplicate,a_.sb,a_.mut,bZ,↓Bool.false_eq_true,beq_self_eq_true,ite_self,bz.down];exact hq.down):p:=h ⟨b⟩ ⟨k⟩
theorem jX{B p:Prop}(b:B)(h:PLift B→p:=by
 intro bz;simp(disch:=(first|omega|assumption)) only[fM,iW,jb,lY,iC,V.aQ,and_true,true_and,S1,seval,-Int.reduceToNat,-List.reduceReplicate,a_.sb,a_.mut,bZ,↓Bool.false_eq_true,beq_self_eq_true,ite_self,bz.down]):p:=h ⟨b⟩
theorem rcQ{B p:Prop}(b:B)(h:PLift B→p:=by
 intro bz;simp(disch:=(first|omega|assumption)) only[xB,rO,oP,ET,EU,zK,EW,EX,rP,zM,zO,oQ,mY,fM,iW,jb,lY,iC,V.aQ,and_true,true_and,S1,seval,-Int.reduceToNat,-List.reduceReplicate,a_.sb,a_.mut,bZ,↓Bool.false_eq_true,beq_self_eq_true,ite_self,bz.down]):p:=h ⟨b⟩
theorem uI{B p q:Prop}(b:B)(k:q)(h:PLift B→PLift q→p:=by
 intro bz hq;simp(disch:=(first|omega|assumption)) only[fM,iW,jb,lY,iC,V.aQ,and_true,true_and,S1,seval,-Int.reduceToNat,-List.reduceReplicate,a_.sb,a_.mut,bZ,↓Bool.false_eq_true,beq_self_eq_true,ite_self,bz.down];exact hq.down):p:=h ⟨b⟩ ⟨k⟩
theorem jR{B p:Prop}(b:B)(h:PLift B→p:=by
 intro bz;refine qc bz.down ?_;exact jX bz.down):p:=h ⟨b⟩
theorem vM{B p:Prop}(b:B)(h:PLift B→p:=by
 intro bz;refine qc bz.down ?_;exact rcQ bz.down):p:=h ⟨b⟩
theorem wdO{B p q:Prop}(b:B)(k:q)(h:PLift B→PLift q→p:=by
 intro bz hq;refine qc bz.down ?_;refine uI bz.down ?_;exact hq.down):p:=h ⟨b⟩ ⟨k⟩
theorem YI{B p:Prop}(b:B)(h:PLift B→p:=by
 intro bz;refine prQ bz.down ?_;exact jX bz.down):p:=h ⟨b⟩
theorem pcQ{B p:Prop}(b:B)(h:PLift B→p:=by
 intro bz;refine prQ bz.down ?_;exact rcQ bz.down):p:=h ⟨b⟩
theorem UH{B p:Prop}(b:B)(h:PLift B→p:=by
 intro bz;first|rfl|(simp(disch:=(first|omega|assumption)) only[S1,seval,-Int.reduceToNat,-List.reduceReplicate,a_.sb,a_.mut,bZ,↓Bool.false_eq_true,beq_self_eq_true,ite_self,bz.down])):p:=h ⟨b⟩
theorem scQ{B p:Prop}(b:B)(h:PLift B→p:=by
 intro bz;simp(disch:=(first|omega|assumption)) only[S1,seval,-Int.reduceToNat,-List.reduceReplicate,a_.sb,a_.mut,bZ,↓Bool.false_eq_true,beq_self_eq_true,ite_self,bz.down]):p:=h ⟨b⟩
theorem mF{p:Prop}(h:p:=by
 simp(disch:=(first|omega|assumption)) only[Sl,Sa,Sw,↓reduceIte,Nat.reduceEqDiff,Nat.reduceLT,List.all_nil,List.all_cons,Nat.reduceBneDiff,Nat.reduceAdd,bne_iff_ne,ne_eq,reduceCtorEq,not_false_eq_true,not_true_eq_false,Bool.and_true,Bool.true_and,and_true,true_and,and_self]):p:=h
theorem jO{p:Prop}(h:p:=by
 simp(disch:=(first|omega|assumption)) only[Sl,Sa,Sw,↓reduceIte,Nat.reduceEqDiff,Nat.reduceLT,List.all_nil,List.all_cons,Nat.reduceBneDiff,Nat.reduceAdd,bne_iff_ne,ne_eq,reduceCtorEq,not_false_eq_true,not_true_eq_false,Bool.and_true,Bool.true_and,and_true,true_and,and_self,iV];repeat' first|rfl|omega|(simp only[List.length_append,List.length_cons,List.length_nil];done)|apply And.intro):p:=h
theorem nO{B p q:Prop}(b:B)(k:q)(h:PLift B→PLift q→p:=by
 intro bz hq;simp(disch:=(first|omega|assumption)) only[Sl,Sa,Sw,↓reduceIte,Nat.reduceEqDiff,Nat.reduceLT,List.all_nil,List.all_cons,Nat.reduceBneDiff,Nat.reduceAdd,bne_iff_ne,ne_eq,reduceCtorEq,not_false_eq_true,not_true_eq_false,Bool.and_true,Bool.true_and,and_true,true_and,and_self,iV,bz.down];exact hq.down):p:=h ⟨b⟩ ⟨k⟩
theorem lcQ{B p:Prop}(b:B)(h:PLift B→p:=by
 intro bz;simp(disch:=(first|omega|assumption)) only[Sl,Sa,Sw,↓reduceIte,Nat.reduceEqDiff,Nat.reduceLT,List.all_nil,List.all_cons,Nat.reduceBneDiff,Nat.reduceAdd,bne_iff_ne,ne_eq,reduceCtorEq,not_false_eq_true,not_true_eq_false,Bool.and_true,Bool.true_and,and_true,true_and,and_self,iV,bz.down]):p:=h ⟨b⟩
theorem pY{F G:Nat→List V→V→Prop}{dr m:Bool}{d:Option Nat}{r:List AO}{s:St}{K:St→Prop}{f:Nat}{args:List (Nat×V)}{res:V}{vs:List V}{B:Prop}(b:B)(hf:F f vs res)(hk:w_ F G dr m args res d r s K)
 (h1:PLift B→jZ s.ob (args.map fun p=>p.2):=by
   intro bz;exact scQ bz.down)
 (h2:PLift B→(args.all fun p=>(rd s.ob p.1 p.2).aQ)=true:=by
   intro bz;exact scQ bz.down)
 (hv:PLift B→(args.map fun p=>rd s.ob p.1 p.2)=vs:=by
   intro bz;exact UH bz.down):clp F G dr m f args d r s K:=Qk res vs (h1 ⟨b⟩) (h2 ⟨b⟩) (hv ⟨b⟩) hf hk
def bD:=ai (@List.length_nil V) (ai (@List.length_nil Nat) (@List.length_nil UInt8))
def QD:=ai (@List.length_cons V) (ai (@List.length_cons Nat) (@List.length_cons UInt8))
def BX:=ai (@List.nil_append V) (ai (@List.nil_append Nat) (@List.nil_append UInt8))
theorem I7:(∀a:Int,(a=a)=True)∧(∀a:Nat,(a=a)=True)∧(∀a:List UInt8,(a=a)=True)∧(∀a:Bool,(a=a)=True):=⟨fun a=>eq_self a,fun a=>eq_self a,fun a=>eq_self a,fun a=>eq_self a⟩
theorem neqA:(∀a b:Int,(a≠b)=¬(a=b))∧(∀a b:Nat,(a≠b)=¬(a=b))∧(∀a b:Bool,(a≠b)=¬(a=b)):=⟨fun a b=>rfl,fun a b=>rfl,fun a b=>rfl⟩
def qm(d s:Nat):AO:=⟨some d,none,.mv (.t s)⟩
def qr(d:Nat)(o:a_):AO:=⟨some d,none,o⟩
def qn(o:a_):AO:=⟨none,none,o⟩
theorem mkQ{P:Program}{J:World→Prop}(jP:P.follows .mixedOrders=true)(hJs:∀w e w',J w→aI w e w'→J w'){f:FuncId}{fn:Func}{c:Code}{ts:List Nat}{args:List V}{r:V}(hf:P.funcs[f]? =some fn)(ac:AC)
 (k:vm (ah P J) (iJ P) [.c ac] (fun e s=>match e with| .normal=>fM s ts r| .ret=>fM s ts r| .exit _=>False) (pq args))
 (hb:fn.body=some c:=by rfl) (hc:dW P fn.ntmps c=some ac:=by kernel_rfl) (hts:bG fn.results.toList=some ts:=by rfl) (hn':Nat.ble args.length fn.ntmps=true:=by rfl) (hmu:r.Aa=false:=by rfl):ah P J f args r:=
 ah.mk jP hJs hf hb hc hts hn' hmu (dG k)
noncomputable def gc(P:Program)(fn:Func):AC:=match fn.body with
 |some c=>(match dW P fn.ntmps c with|some a=>a|none=> .skip)
 |none=> .skip
theorem d_{P:Program}{J:World→Prop}(jP:P.follows .mixedOrders=true)(hJs:∀w e w',J w→aI w e w'→J w'){f:FuncId}{fn:Func}{c:Code}{ts:List Nat}{args:List V}{r:V}{q:Prop}(hf:P.funcs[f]? =some fn)(k:q)
 (hb:fn.body=some c:=by rfl) (hc:dW P fn.ntmps c=some (gc P fn):=by kernel_rfl) (hts:bG fn.results.toList=some ts:=by rfl) (hn':Nat.ble args.length fn.ntmps=true:=by rfl) (hmu:r.Aa=false:=by rfl)
 (h:PLift q→vm (ah P J) (iJ P) [.c (gc P fn)] (fun e s=>match e with| .normal=>fM s ts r| .ret=>fM s ts r| .exit _=>False) (pq args):=by
   intro hq;conv=>arg 3;reduce
   simp only[fZ,fC,Int.reduceOfNat,Int.reduceNegSucc];exact hq.down):ah P J f args r:=
 ah.mk jP hJs hf hb hc hts hn' hmu (dG (h ⟨k⟩))
theorem kf{p:Prop}(h:p:=by kernel_rfl):p:=h
