import Derived.Deep.LoopGhost
import Derived.Test.YtpopphdnlhihdaaGreatDoorGB
set_option linter.all false
set_option maxHeartbeats 10000000
namespace Go.Proofs.YtpopphdnlhihdaaGreatDoor.Ab
open Go Go.RowKit
inductive AC where
 |skip
 |reg (ops:List AO)
 |Us (ops:List AO)
 |SB (cf:List (Nat×Nat)) (ops:List AO)
 |seq (a b:AC)
 |cond (c:X) (a b:AC)
 |blk (id:Nat) (c:AC)
 |loop (c:AC)
 |exit (id:Nat)
 |ret
 deriving Inhabited
inductive Ex where
 |normal
 |exit (id:Nat)
 |ret
def jm(P:Program)(N:Nat):Code→Option AC
 | .skip=>some .skip
 | .label _=>some .skip
 | .region _ ops draw=>match cRg P N ops ops.toList with
   |some al=>if draw then(if Eu [] ops.toList al then some (.Us al)else if Eu (confs ops.toList al) ops.toList al then some (.SB (confs ops.toList al) al)else none)else some (.reg al)
   |none=>none
 | .seq a b=>match jm P N a,jm P N b with
   |some a,some b=>some (.seq a b)
   |_,_=>none
 | .cond c a b=>match cX c,jm P N a,jm P N b with
   |some c,some a,some b=>some (.cond c a b)
   |_,_,_=>none
 | .block id c=>match jm P N c with|some c=>some (.blk id c)|none=>none
 | .loop c=>match jm P N c with|some c=>some (.loop c)|none=>none
 | .scope c=>jm P N c
 | .exit id=>some (.exit id)
 | .ret=>some .ret
 |_=>none
def rn:List (Nat×Nat)→Nat→Nat
 |[],i=>i
 |(k,v)::r,i=>if k=i then v else rn r i
def Ku(s:St)(r:List (Nat×Nat))(nx t:Nat):V→Prop
 | .any=>True
 | .ow sz i n=>i<nx∧s.get t= .ow sz (rn r i) n
 | .sl sz i off n=>i<nx∧Dh (s.get t)= .sl sz (rn r i) off n
 | .pt i off=>i<nx∧s.get t= .pt (rn r i) off
 | .tw _ _ _ _=>False
 |v=>s.get t=v
def leE(s:St)(r:List (Nat×Nat))(nx:Nat):List (Nat×V)→Prop
 |[]=>True
 |(t,v)::l=>Ku s r nx t v∧leE s r nx l
def leO(s:St)(r:List (Nat×Nat))(nx:Nat):List (Nat×Option Ob)→Prop
 |[]=>True
 |(i,o)::l=>i<nx∧s.ob (rn r i)=o∧refN o∧leO s r nx l
def leN(r:List (Nat×Nat)):List (Nat×Option Ob)→Prop
 |[]=>True
 |(i,_)::l=>(l.all fun p=>rn r p.1 != rn r i)=true∧leN r l
def St.le(s:St)(r:List (Nat×Nat))(s':St):Prop:=leE s r s'.nx s'.env∧leO s r s'.nx s'.yx∧leN r s'.yx
def St.mat(s:St)(t e sz:Nat):St:={env:=(t,.ow sz s.nx 0)::s.env,yx:=(s.nx,some {e,sz,cs:=[],mu:=true,pg:=false})::s.yx,nx:=s.nx+1}
def St.xU:List (Nat×Nat×Nat)→St→St
 |[],s=>s
 |(t,e,sz)::l,s=>St.xU l (s.mat t e sz)
def St.uS:List (Nat×Nat×Nat)→St→Prop
 |[],_=>True
 |(t,e,sz)::l,s=>s.get t= .nl∧0<sz∧St.uS l (s.mat t e sz)
section
variable (F G:Nat→List V→V→Prop)
def yY:AC→(Ex→St→Prop)→St→Prop
 | .skip,Q,s=>Q .normal s
 | .reg ops,Q,s=>rgv F G ops s (Q .normal)
 | .Us ops,Q,s=>OH F G ops s (Q .normal)
 | .SB cf ops,Q,s=>OH F G ops s (fun s'=>chk (p_ s' cf) (Q .normal s'))
 | .seq a b,Q,s=>yY a (fun e s'=>match e with| .normal=>yY b Q s'| .exit i=>Q (.exit i) s'| .ret=>Q .ret s') s
 | .cond c a b,Q,s=>cnd (s.val c) (yY a Q s) (yY b Q s)
 | .blk id c,Q,s=>yY c (fun e s'=>match e with| .normal=>Q .normal s'| .exit j=>if j=id then Q .normal s' else Q (.exit j) s'| .ret=>Q .ret s') s
 | .loop c,Q,s=>∃(X:Type) (mk:X→St) (I:X→Prop) (μ:X→Nat),(∃ms x r,I x∧St.uS ms s∧(St.xU ms s).le r (mk x))∧
    ∀x,I x→yY c (fun e s'=>match e with| .normal=>∃ms x' r,I x'∧μ x'<μ x∧St.uS ms s'∧(St.xU ms s').le r (mk x')| .exit i=>Q (.exit i) s'| .ret=>Q .ret s') (mk x)
 | .exit id,Q,s=>Q (.exit id) s
 | .ret,Q,s=>Q .ret s
end
section
variable {P:Program} {J:World→Prop} {w0:World} {H0:HS} {N:Nat}
variable{H:Nat→Prop}{ov:Nat→Option Value}{t e sz:Nat}{cv:Value}{a:Act}{fn:Func}{ts:List Nat}{f:FuncId}{c:Code}
theorem leV_rep{w:World}{jZ:Nat→Option Value}{s:St}{r:List (Nat×Nat)}{nx:Nat}{v:V}(h:Ku s r nx t v)(c:Rep w H ov cv (s.get t))(G:∀i,i<nx→jZ i=ov (rn r i)):Rep w H jZ cv v:=by
 cases v with
 |any=>exact .any _
 |ow sz i n=>
  obtain⟨A,y⟩:=h;rw[y]at c;obtain⟨a,cap,rfl,l,g,C,I⟩:=c.jK;exact .ow sz i n cap a g C I (by rw[G i A];exact l)
 |sl sz i off n=>
  obtain⟨A,y⟩:=h;replace c:Rep w H ov cv (Dh (s.get t)):=by
   cases L:s.get t with
   |ow z j m=>rw[L]at c;exact Ej c
   |_=>rw[L]at c;exact c
  rw[y]at c;have E:=fun(J:off=0) (F:0<sz)=>Rep.RX F (J▸c)
  obtain⟨a,cap,u,rfl,l,g,C,I⟩:=c.sN;exact .sl a sz i off n cap u l g (by rw[G i A];exact C) I (fun J F=>by
   obtain⟨_,_,m,e,_,_,f⟩:=E J F;cases e;rw[C]at f;exact⟨m,dS f⟩)
 |pt i off=>
  obtain⟨A,y⟩:=h;rw[y]at c;obtain⟨b,u,rfl,l,g⟩:=c.uD;exact .pt i off b u (by rw[G i A];exact l) g
 |tw sz i n rs=>exact h.elim
 |_=>
  simp only[Ku]at h;rw[h]at c;cases c with
  |base h=>exact .base h
theorem SC{s:St}{r:List (Nat×Nat)}{nx:Nat}:∀{l:List (Nat×V)},leE s r nx l→∀t,lk l t= .any∨Ku s r nx t (lk l t)
 |[],_,t=> .inl rfl
 |(k,v)::l,h,t=>by
  simp only[lk];split
  ·rename_i e;subst e;exact .inr h.1
  ·exact SC h.2 t
theorem F8{s:St}{r:List (Nat×Nat)}{nx:Nat}:∀{l:List (Nat×Option Ob)},leO s r nx l→∀i o,lo l i=some o→i<nx∧s.ob (rn r i)=some o∧(CU o=false∨o.cs.all V.cell=true)
 |[],_,i,o,h=>by cases h
 |(k,v)::l,h,i,o,a=>by
  simp only[lo]at a;split at a
  ·rename_i e;subst e;exact⟨h.1,by rw[h.2.1,a],by have:=h.2.2.1;rw[a]at this;exact this⟩
  ·exact F8 h.2.2.2 i o a
theorem O6:∀{l:List (Nat×Option Ob)} {i:Nat} {o:Ob},lo l i=some o→(i,some o)∈l
 |[],i,o,h=>by cases h
 |(k,v)::l,i,o,h=>by
  simp only[lo]at h;split at h
  ·rename_i e;subst e;subst h;exact jM
  ·exact jD _ (O6 h)
theorem Xi{r:List (Nat×Nat)}:∀{l:List (Nat×Option Ob)},leN r l→∀{i j:Nat} {o p:Option Ob},(i,o)∈l→(j,p)∈l→i≠j→rn r i≠rn r j
 |[],_,i,j,o,p,h,_,_=>by cases h
 |(k,v)::l,h,i,j,o,p,f,a,c=>by
  rcases dZ.1 f with e|f
  ·cases e;rcases dZ.1 a with e|a
   ·cases e;exact absurd rfl c
   ·have:=dh.1 h.1 _ a;simp only[ku,ne_eq]at this;exact fun e=>this e.symm
  ·rcases dZ.1 a with e|a
   ·cases e;have:=dh.1 h.1 _ f;simpa using this
   ·exact Xi h.2 f a c
theorem Conc.weaken{w:World}{s s':St}{r:List (Nat×Nat)}(c:Conc w0 H0 w H ov N a s)(h:s.le r s'):∃jZ,Conc w0 H0 w H jZ N a s':=by
 obtain⟨P,z,O⟩:=h;refine⟨fun i=>if i<s'.nx then ov (rn r i)else none,⟨c.mem.bel,c.mem.tj,c.mem.Bo,c.mem.low,fun i o g=>?_,fun i j F E J I b y g G m l hb=>?_⟩,c.MJ,c.I7,c.kp,fun t=>?_,fun id M=>by simp;omega⟩
 ·obtain⟨f,C,A⟩:=F8 z i o g;obtain⟨v,L,u⟩:=c.mem.obj _ _ C;exact⟨v,by simp[f,L],u.any A _⟩
 ·obtain⟨f,C,_⟩:=F8 z i F g;obtain⟨A,Q,_⟩:=F8 z j E G;simp only[f,A,if_true]at m l;exact c.mem.sep _ _ F E J I b (Xi O (O6 g) (O6 G) y) C Q m l hb
 ·have u:=c.env t;rcases SC P t with f|f
  ·show Rep w H _ _ (lk s'.env t);rw[f];exact .any _
  ·exact leV_rep f u fun i g=>by simp[g]
theorem Conc.mat{w:World}{s:St}(c:Conc w0 H0 w H ov N a s)(ht:s.get t= .nl)(z:0<sz):∃jZ,Conc w0 H0 w H jZ N a (s.mat t e sz):=by
 have hnew:=c.new s.nx (aY _);have U:=c.noOb;have m:∀i,(s.mat t e sz).ob i=if s.nx=i then some {e,sz,cs:=[],mu:=true,pg:=false}else s.ob i:=fun i=>rfl
 have G:Ext w H ov w H (fun i=>if s.nx=i then some (.slice none 0 0)else ov i):=⟨fun _ h=>h,fun _ _=>rfl,fun i v h=>by
  try simp only[]
  split
  ·rename_i e;subst e;rw[hnew]at h;cases h
  ·exact h⟩
 refine⟨fun i=>if s.nx=i then some (.slice none 0 0)else ov i,⟨c.mem.bel,c.mem.tj,c.mem.Bo,c.mem.low,fun i o l=>?_,fun i j O M L J b C l A g f hb=>?_⟩,c.MJ,c.I7,c.kp,fun u=>?_,fun id y=>?_⟩
 ·rw[m]at l;try simp only[]
  split at l
  ·rename_i e1;cases l;refine⟨_,by rw[au e1],⟨fun x P=>(by cases P),fun b hb=>(by cases hb),fun b hb=>(by cases hb),.inr ⟨rfl,z,0,[],⟨sy,.inl ⟨rfl,rfl⟩⟩,⟨rfl,fun j v x E I=>(by cases E)⟩,aG _⟩⟩⟩
  ·rename_i e1;obtain⟨v,Q,T⟩:=c.mem.obj i o l;exact⟨v,by rw[ah e1];exact Q,T.mono G.ho (fun _ h=>h) (fun _ _=>rfl) (fun _ _=>rfl) (fun _ _ h=>h)⟩
 ·rw[m]at l A;try simp only[]at g f
  split at l
  ·rename_i e1;rw[au e1]at g;cases g;cases hb
  ·rename_i e1;rw[ah e1]at g;split at A
   ·rename_i F;rw[au F]at f;cases f;intro h;cases h
   ·rename_i F;rw[ah F]at f;exact c.mem.sep i j O M L J b C l A g f hb
 ·show Rep w H _ _ (lk ((t,.ow sz s.nx 0)::s.env) u);simp only[lk];split
  ·rename_i e1;subst e1;have:=c.env t;rw[ht]at this;rw[this.rq];exact .ow sz s.nx 0 0 none (aG _) (aY _) (.inl rfl) sy
  ·exact(c.env u).mono G
 ·have E:s.nx≤id:=Nat.le_of_succ_le y;have I:s.nx≠id:=Nat.ne_of_lt y;simp only[ah I];exact c.new id E
theorem Conc.xU{w:World}:∀{ms:List (Nat×Nat×Nat)} {ov:Nat→Option Value} {s:St},Conc w0 H0 w H ov N a s→St.uS ms s→∃jZ,Conc w0 H0 w H jZ N a (St.xU ms s)
 |[],ov,s,f,_=>⟨ov,f⟩
 |(t,e,sz)::l,ov,s,f,h=>by
  obtain⟨u,m,j⟩:=h;obtain⟨g,c⟩:=f.mat (e:=e) u m;exact Conc.xU (ms:=l) (s:=s.mat t e sz) c j
def Post(w0:World)(H0:HS)(N:Nat)(Q:Ex→St→Prop):Exit→Act→World→Prop
 | .normal,a,w=>∃s H ov,Q .normal s∧Conc w0 H0 w H ov N a s
 | .exit i,a,w=>∃s H ov,Q (.exit i) s∧Conc w0 H0 w H ov N a s
 | .ret,a,w=>∃s H ov,Q .ret s∧Conc w0 H0 w H ov N a s
 |_,_,_=>False
theorem rgd_chk{F G:Nat→List V→V→Prop}{l:List AO}{s:St}{K:St→Prop}(h:OH F G l s K):OH F G l s (fun s'=>chk (p_ s' []) (K s')):=by
 have e:(fun s'=>chk (p_ s' []) (K s'))=K:=by funext s';simp[chk,p_]
 rw[e];exact h
def Kv(m:Nat):AC→Bool
 | .reg ops| .Us ops| .SB _ ops=>ops.all fun o=>o.dst != some m
 | .seq a b| .cond _ a b=>Kv m a&&Kv m b
 | .blk _ c| .loop c=>Kv m c
 |_=>true
def IZ(H0:HS)(ac:AC):Prop:=∀m v,(m,v)∈H0.kp→Kv m ac=true
theorem G9{H0:HS}{ops:List AO}(h:IZ H0 (.reg ops)):∀o,o∈ops→nkp H0 o.dst:=fun o a m v c e=>by
 have:=dh.1 (h m v c) o a;rw[e]at this;simp at this
theorem Xj{H0:HS}{a b:AC}(h:IZ H0 (.seq a b)):IZ H0 a:=fun m v c=>by
 have:=h m v c;simp only[Kv,dA]at this;exact this.1
theorem Xk{H0:HS}{a b:AC}(h:IZ H0 (.seq a b)):IZ H0 b:=fun m v c=>by
 have:=h m v c;simp only[Kv,dA]at this;exact this.2
theorem nM(tN:P.follows .mixedOrders=true)(G:∀w',bT w0 H0.e w'→J w'):∀(c:Code) (ac:AC),jm P N c=some ac→IZ H0 ac→∀(Q:Ex→St→Prop) (s:St) (a:Act) (w:World) (H:Nat→Prop) (ov:Nat→Option Value),
 Conc w0 H0 w H ov N a s→yY (fC P J) (mG P) ac Q s→c.wp P (Post w0 H0 N Q) a w:=by
 intro c
 induction c with
 |skip=>intro ac h z Q s a w H ov u g;simp only[jm,fU]at h;subst h;exact wp_skip ⟨s,H,ov,g,u⟩
 |label l=>intro ac h z Q s a w H ov u g;simp only[jm,fU]at h;subst h;exact wp_label ⟨s,H,ov,g,u⟩
 |region rid ops draw=>
  intro ac h z Q s a w H ov u g;simp only[jm]at h;split at h
  ·rename_i al F;cases draw with
   |true=>
    simp only[if_true]at h;split at h
    ·rename_i hd;cases h;exact SA tN G u F hd (G9 z) (rgd_chk g) fun s' w' A m O hK j=>⟨s',A,m,hK,j⟩
    ·split at h
     ·rename_i hd;cases h;exact SA tN G u F hd (G9 z) (K:=Q .normal) g fun s' w' A m O hK j=>⟨s',A,m,hK,j⟩
     ·cases h
   |false=>
    simp only[aJ,if_false,fU]at h;subst h;exact wp_region_list (G6 G (K:=Q .normal) (fun s' w' A m O hK j=>⟨s',A,m,hK,j⟩) ops.toList al F (G9 z) u g)
  ·cases h
 |seq c d E C=>
  intro ac h z Q s a w H ov u g;simp only[jm]at h;split at h
  ·rename_i M d' L h2;cases h;refine wp_seq (wp_mono (E M L (Xj z) _ s a w H ov u g) fun e O w' hq=>?_);cases e with
   |normal=>obtain⟨s',A,m,hq,j⟩:=hq;exact C d' h2 (Xk z) Q s' O w' A m j hq
   |exit i=>exact hq
   |ret=>exact hq
   |goto l=>exact hq
   |panic ch=>exact hq
   |outgrown=>exact hq
  ·cases h
 |cond x c d E C=>
  intro ac h z Q s a w H ov u g;simp only[jm]at h;split at h
  ·rename_i T M d' h0 L h2;cases h;simp only[yY]at g;have hx:=u.val x T h0;cases hb:s.val T<;>rw[hb]at g hx<;>simp only[cnd]at g;case b t=>
    refine wp_cond_split hx.qH (fun ht=>E M L (Xj z) Q s a w H ov u (g.1 ht)) (fun ht=>C d' h2 (Xk z) Q s a w H ov u (g.2 ht))
  ·cases h
 |block id c U=>
  intro ac h z Q s a w H ov u g;simp only[jm]at h;split at h
  ·rename_i M L;cases h;refine wp_block (wp_mono (U M L z _ s a w H ov u g) fun e O w' hq=>?_);cases e with
   |normal=>exact hq
   |exit i=>
    obtain⟨s',A,m,hq,j⟩:=hq;simp only[Exit.inBlock];simp only[]at hq;split
    ·rename_i e;rw[au e]at hq;exact⟨s',A,m,hq,j⟩
    ·rename_i e;rw[ah e]at hq;exact⟨s',A,m,hq,j⟩
   |ret=>exact hq
   |goto l=>exact hq
   |panic ch=>exact hq
   |outgrown=>exact hq
  ·cases h
 |loop c U=>
  intro ac h z Q s a w H ov u g;simp only[jm]at h;split at h
  ·rename_i M L;cases h;simp only[yY]at g;obtain⟨X,mk,I,μ,⟨ms,x0,r0,hI0,hms,Z⟩,hround⟩:=g;obtain⟨ov00,hc00⟩:=u.xU hms;obtain⟨ov0,hc0⟩:=hc00.weaken Z;refine wp_loop_ghost (fun n a w=>∃x H ov,μ x=n∧I x∧Conc w0 H0 w H ov N a (mk x)) (μ x0) ⟨x0,H,ov0,rfl,hI0,hc0⟩ ?_;rintro n a1 w1 ⟨x,H1,ov1,rfl,hI,hc1⟩;refine wp_mono (U M L z _ (mk x) a1 w1 H1 ov1 hc1 (hround x hI)) fun e O w' hq=>?_
   cases e with
   |normal=>
    obtain⟨s',A,m,⟨ms',T,r',hI',hlt,Y,hle⟩,j⟩:=hq;obtain⟨ov3,hc3⟩:=j.xU Y;obtain⟨ov2,hc2⟩:=hc3.weaken hle;exact⟨μ T,hlt,T,A,ov2,rfl,hI',hc2⟩
   |exit i=>exact hq
   |ret=>exact hq
   |goto l=>exact hq
   |panic ch=>exact hq
   |outgrown=>exact hq
  ·cases h
 |scope c U=>
  intro ac h z Q s a w H ov u g;simp only[jm]at h;refine wp_scope_straight (wp_mono (U ac h z Q s a w H ov u g) fun e O w' hq=>?_);cases e<;>exact hq
 |exit id=>intro ac h z Q s a w H ov u g;simp only[jm,fU]at h;subst h;exact wp_exit ⟨s,H,ov,g,u⟩
 |ret=>intro ac h z Q s a w H ov u g;simp only[jm,fU]at h;subst h;exact wp_ret ⟨s,H,ov,g,u⟩
 |rangeFunc f ps c d E C=>intro ac h;simp[jm]at h
 |goto l=>intro ac h;simp[jm]at h
 |refuse y=>intro ac h;simp[jm]at h
def kR:List ResultVar→Option (List Nat)
 |[]=>some []
 | .tmp t::r=>match kR r with|some l=>some (t::l)|none=>none
 | .cell _ _::_=>none
def iK(s:St)(v r:V):Prop:=
 match r with
 | .o e sz cs=>(match v with| .ow _ i _=>s.ob i=some {e,sz,cs,mu:=true,pg:=false}| .nl=>cs=[]∧0<sz|_=>False)
 | .l sz cs=>0<sz∧okR s.ob v∧rd s.ob sz v= .l sz cs
 | .any=>True
 |r=>v=r∧r.aP=true
def iF(s:St):List Nat→List V→Prop
 |[],[]=>True
 |t::ts,r::rs=>(match r with| .o _ _ _=>False|r=>iK s (s.get t) r)∧iF s ts rs
 |_,_=>False
def fA(s:St)(v r:V):Prop:=
 match r with
 | .l sz cs=>0<sz∧V.nX (.t cs)=false∧
    (match v with| .ow z i n=>rd s.ob sz (.ow z i n)= .l sz cs| .nl=>cs=[]|_=>False)
 | .i k n=>v= .i k n
 | .b x=>v= .b x
 |_=>False
def jv(s:St):List Nat→List V→Prop
 |[],[]=>True
 |t::ts,r::rs=>fA s (s.get t) r∧jv s ts rs
 |_,_=>False
def dY(s:St)(ts:List Nat)(r:V):Prop:=
 match ts with
 |[]=>r= .t []
 |[t]=>iK s (s.get t) r
 |ts=>match r with| .t rs=>iF s ts rs| .fr (.t rs)=>jv s ts rs|_=>False
def eU:Nat→List V→List (Nat×V)
 |_,[]=>[]
 |k,v::r=>(k,v)::eU (k+1) r
theorem vF:∀(vs:List V) (k t:Nat),lk (eU k vs) t=if k≤t then vs.getD (t-k) .any else .any
 |[],k,t=>by simp[eU,lk]
 |v::r,k,t=>by
  simp only[eU,lk];split
  ·rename_i e;subst e;simp
  ·rename_i e;rw[vF r (k+1) t];by_cases h:k≤t
   ·rw[au om,au h];obtain⟨d,rfl⟩:∃d,t=k+1+d:=⟨t-(k+1),om⟩;rw[show k+1+d-(k+1)=d from om,show k+1+d-k=d+1 from om];rfl
   ·rw[ah om,ah h]
def xW(vs:List V):St:={env:=eU 0 vs,yx:=[],nx:=0}
def Ey(tmps:Array Value):List Nat→Value
 |[]=> .tuple #[]
 |[t]=>tmps.getD t undef
 |ts=> .tuple (ts.map fun t=>tmps.getD t undef).toArray
theorem mV(h:kR fn.results.toList=some ts)(tmps:Array Value)(w:World):(results fn tmps).run P w= .ok (Ey tmps ts) w:=by
 have g:fn.results.toList=ts.map ResultVar.tmp:=by
  have gen:∀(l:List ResultVar) (ts:List Nat),kR l=some ts→l=ts.map ResultVar.tmp:=fun l=>by
   induction l with
   |nil=>intro ts h;simp[kR]at h;subst h;rfl
   |cons x r c=>
    intro ts h;cases x with
    |tmp t=>
     simp only[kR]at h;split at h
     ·rename_i l hl;cases h;rw[c l hl];rfl
     ·cases h
    |cell a t=>simp[kR]at h
  exact gen _ _ h
 have f:fn.results=(ts.map ResultVar.tmp).toArray:=mQ g;have hrun:∀ts:List Nat,((ts.map ResultVar.tmp).mapM (fun x=>match x with
  |ResultVar.tmp t=>(pure (tmps.getD t undef):Sem Value)
  |ResultVar.cell a t=>do loadVar t (←asAddr (tmps.getD a undef)))).run P w= .ok (ts.map fun t=>tmps.getD t undef) w:=fun ts=>by
  induction ts with
  |nil=>rfl
  |cons t ts c=>simp only[dI,List.mapM_cons,Sem.run_bind,Sem.run_pure,Result.andThen_ok,c]
 unfold results;rw[f];simp only[Array.mapM_eq_mapM_toList,List.toList_toArray,Sem.run_bind,Sem.run_map];erw [hrun ts];simp only[Result.andThen_ok,Sem.run_pure];match ts with
 |[]=>rfl
 |[t]=>simp[Ey]
 |t::t'::ts=>simp[Ey]
variable{r:V}
theorem Xl(E:∀b,¬H0.e b){w:World}{s:St}(F:Conc w0 H0 w H ov N a s){v:V}(m:Rep w H ov cv v)(h:iK s v r):Res w0 w H0.h cv r:=by
 have low:∀b,H b→b<w0.heap.size→H0.h b:=fun b h hb=>(F.mem.low b h hb).resolve_right (E b)
 have base:∀{cv:Value} {r:V},(∃I:Nat→Prop,(∀b,I b→b<w.heap.size)∧(∀b,I b→b<w0.heap.size→H0.h b)∧Rep0 w I cv r)→Res w0 w H0.h cv r:=fun⟨I,h1,h2,h3⟩=>
  ⟨fun b=>I b∧w0.heap.size≤b,fun b hb=>⟨hb.2,h1 b hb.1⟩,.inl (h3.mono (fun b hb=>by
    rcases dW b w0.heap.size with h|h
    ·exact .inl (h2 b hb h)
    ·exact .inr ⟨hb,h⟩) (fun _ _=>rfl))⟩
 have plain:Rep0 w H cv r→Res w0 w H0.h cv r:=fun h=>base ⟨H,F.mem.Bo,low,h⟩
 cases r with
 |o e sz cs=>
  simp only[iK]at h;cases v<;>simp only[]at h;case ow sz' i n=>
   obtain⟨ba,cap,e1,Y,hm,Z,ha⟩:=m.jK;obtain⟨u,P,C⟩:=F.mem.obj i _ h;rw[Y]at P;cases P;rcases C.bd with ⟨h',_⟩|⟨_,A,T,xs,hown,J,M⟩
   ·cases h'
   ·refine⟨fun b=>H b∧w0.heap.size≤b,fun b hb=>⟨hb.2,F.mem.Bo b hb.1⟩,.inr (.inl ⟨e,sz,cs,T,xs,rfl,A,ownB hown (fun b hb=>(C.ow b hb).resolve_right (E b)),J.mono (fun b hb=>?_) (fun _ _=>rfl),C.cl (xe rfl),M,fun b hb hN=>?_⟩)⟩
    ·rcases dW b w0.heap.size with h|h
     ·exact .inl (low b hb h)
     ·exact .inr ⟨hb,h⟩
    ·have:=(C.fz b hb).1 hN.1;cases this
  case nl=>
   obtain⟨rfl,A⟩:=h;have e1:=m.rq;subst e1;refine⟨fun _=>False,fun b hb=>hb.elim,.inr (.inl ⟨e,sz,[],0,[],rfl,A,World.ownsRow_nil _ _ _ _,⟨rfl,fun j v x h=>by simp at h⟩,fun x U=>by(cases U),aG _,fun b hb=>?_⟩)⟩;cases hb
 |l sz cs=>
  obtain⟨A,L,Q⟩:=h;obtain⟨H1,kJ,G,O,_⟩:=F.mem.freeze (jk (ob:=s.ob) v);have:=ry F.mem A m L (.inl (by rw[Q];rfl)) kJ.hH O;rw[Q]at this;exact base ⟨H1,G.Bo,fun b h hb=>(G.low b h hb).resolve_right (E b),this⟩
 |any=>exact plain (.any _)
 |i k n=>obtain⟨rfl,_⟩:=h;exact plain (by cases m with|base h=>exact h)
 |b x=>obtain⟨rfl,_⟩:=h;exact plain (by cases m with|base h=>exact h)
 |s x=>obtain⟨rfl,_⟩:=h;exact plain (by cases m with|base h=>exact h)
 |g x=>obtain⟨rfl,_⟩:=h;exact plain (by cases m with|base h=>exact h)
 |ip x k=>obtain⟨rfl,_⟩:=h;exact plain (by cases m with|base h=>exact h)
 |c x=>obtain⟨rfl,_⟩:=h;exact plain (by cases m with|base h=>exact h)
 |f n=>obtain⟨rfl,_⟩:=h;exact plain (by cases m with|base h=>exact h)
 |z x y=>obtain⟨rfl,_⟩:=h;exact plain (by cases m with|base h=>exact h)
 |t vs=>obtain⟨rfl,h⟩:=h;simp[V.aP]at h
 |ow sz i n=>obtain⟨rfl,h⟩:=h;simp[V.aP]at h
 |sl sz i off n=>obtain⟨rfl,h⟩:=h;simp[V.aP]at h
 |pt i n=>obtain⟨rfl,h⟩:=h;simp[V.aP]at h
 |nl=>obtain⟨rfl,h⟩:=h;simp[V.aP]at h
 |un=>obtain⟨rfl,h⟩:=h;simp[V.aP]at h
 |fr x=>obtain⟨rfl,h⟩:=h;simp[V.aP]at h
 |mu x cs=>obtain⟨rfl,h⟩:=h;simp[V.aP]at h
 |tw a b c d=>obtain⟨rfl,h⟩:=h;simp[V.aP]at h
 |to a b c d=>obtain⟨rfl,h⟩:=h;simp[V.aP]at h
 |fc f x=>obtain⟨rfl,_⟩:=h;exact plain (by cases m with|base h=>exact h)
 |kn x y=>obtain⟨rfl,_⟩:=h;exact plain (by cases m with|base h=>exact h)
theorem Ut(J:∀b,¬H0.e b){w:World}{s:St}(M:Conc w0 H0 w H ov N a s){v:V}(c:Rep w H ov cv v)(h:fA s v r):
 Rep0 w (fun b=>w0.heap.size≤b∧b<w.heap.size) cv r:=by
 unfold fA at h
 split at h
 ·rename_i sz cs;obtain⟨g,I,h⟩:=h;split at h
  ·rename_i z i n;have y:=ry M.mem g c (by trivial) (.inl (by rw[h];rfl)) (H':=fun _=>True) (fun _ _=>trivial) (fun _ _ _ _ _ _ _=>trivial);rw[h]at y;obtain⟨O,m,cap,f,b,o,e1,h1,h2,h3,h4,Z,Y,U⟩:=y.vV;subst e1;have hb:∀F,blk (.slice O m cap)=some F→w0.heap.size≤F∧F<w.heap.size:=fun F E=>by
    obtain⟨_,_,_,Q,_⟩:=c.jK;simp only[rd]at h;cases C:s.ob i with
    |none=>rw[C]at h;cases h
    |some P=>
     obtain⟨u,L,A⟩:=M.mem.obj i P C;rw[Q]at L;cases L;exact⟨(A.lt E).1.resolve_right (J F),(A.lt E).2⟩
   refine .l O m cap sz cs f b o h1 h2 h3 h4 (Z.imp id fun h=>⟨h.1,hb b (by rw[h.1];rfl)⟩) Y fun j x G=>MW ?_ (U j x G)
   have:=List.any_eq_false.1 (show(cs.any fun x=>match x with| .i _ _| .b _| .s _=>false|_=>true)=false from I) x (dP G);cases x<;>simp_all
  ·subst h;have e1:=c.rq;subst e1;exact .l none 0 0 sz [] (fun _=>undef) 0 0 g sy (aG _) (aY _) (.inl rfl) (fun j T=>by simp at T) (fun j x G=>by simp at G)
  ·exact h.elim
 ·rw[h]at c;rw[c.dU];exact .i _ _
 ·rw[h]at c;rw[c.qH];exact .b _
 ·exact h.elim
theorem Ns(c:∀b,¬H0.e b){w:World}{H:Nat→Prop}{ov:Nat→Option Value}{a:Act}{s:St}(l:Conc w0 H0 w H ov N a s):∀(ts:List Nat) (rs:List V),jv s ts rs→
 aB w (fun b=>w0.heap.size≤b∧b<w.heap.size) (ts.map fun t=>a.tmps.getD t undef) rs
 |[],[],_=>⟨rfl,fun j v x h=>by simp at h⟩
 |[],_::_,h=>h.elim
 |_::_,[],h=>h.elim
 |t::ts,r::rs,h=>by
  obtain⟨y,u⟩:=h;have m:=Ns c l ts rs u;refine⟨by simpa using m.1,fun j v x g f=>?_⟩;cases j with
  |zero=>
   simp only[dI,Jm,fU]at g f;subst g;subst f;exact Ut c l (l.env t) y
  |succ j=>exact m.2 j v x (by simpa using g) (by simpa using f)
theorem Ez{w:World}{H:Nat→Prop}{ov:Nat→Option Value}{a:Act}{s:St}(I:Conc w0 H0 w H ov N a s):∀(ts:List Nat) (rs:List V),iF s ts rs→
 ts.length=rs.length∧∃up,je s.ob up∧(∀k x,(k,x)∈up→∃t,t∈ts∧(k,x)∈jA s.ob (s.get t))∧∀H':Nat→Prop,(∀b,H b→H' b)→(∀k y u b,(k,y)∈up→ov k=some u→blk u=some b→H' b)→∀(j:Nat) (t:Nat) (r:V),ts[j]? =some t→rs[j]? =some r→Rep0 w H' (a.tmps.getD t undef) r
 |[],[],_=>⟨rfl,[],je.nil,(fun _ _ h=>by cases h),fun H' _ _ j t r h=>by simp at h⟩
 |[],_::_,h=>by simp[iF]at h
 |_::_,[],h=>by simp[iF]at h
 |t::ts,r::rs,h=>by
  obtain⟨A,J⟩:=h;obtain⟨hl,up,E,hkey,mf⟩:=Ez I ts rs J;have one:∃c,je s.ob c∧(∀k x,(k,x)∈c→(k,x)∈jA s.ob (s.get t))∧∀H':Nat→Prop,(∀b,H b→H' b)→(∀k y u b,(k,y)∈c→ov k=some u→blk u=some b→H' b)→Rep0 w H' (a.tmps.getD t undef) r:=by
   have m:=I.env t;have same:s.get t=r→r.aP=true→∃c,je s.ob c∧(∀k x,(k,x)∈c→(k,x)∈jA s.ob (s.get t))∧∀H':Nat→Prop,(∀b,H b→H' b)→(∀k y u b,(k,y)∈c→ov k=some u→blk u=some b→H' b)→Rep0 w H' (a.tmps.getD t undef) r:=fun e f=>by
    rw[e]at m;generalize a.tmps.getD t undef=cv at m;refine⟨[],je.nil,(fun _ _ h=>by cases h),fun H' z _=>?_⟩;cases m with
    |base h=>exact h.mono z (fun _ _=>rfl)
    |ow=>simp[V.aP]at f
    |sl=>simp[V.aP]at f
    |pt=>simp[V.aP]at f
    |tw=>simp[V.aP]at f
   cases r with
   |o e sz cs=>exact A.elim
   |l sz cs=>
    obtain⟨F,f,L⟩:=A;refine⟨jA s.ob (s.get t),jk _,(fun _ _ h=>h),fun H' z g=>?_⟩;have:=ry I.mem F m f (.inl (by rw[L];rfl)) z g;rw[L]at this;exact this
   |any=>exact⟨[],je.nil,(fun _ _ h=>by cases h),fun H' _ _=> .any _⟩
   |_=>exact same A.1 A.2
  obtain⟨c,C,hkey1,Xm⟩:=one;refine⟨by simp[hl],c++up,C.append E,(fun k x h=>(nC.1 h).elim (fun h=>⟨t,jM,hkey1 k x h⟩) fun h=>by obtain⟨t',A,J⟩:=hkey k x h;exact⟨t',jD _ A,J⟩),fun H' z g j t' M ht m=>?_⟩;cases j with
  |zero=>simp at ht m;subst ht;subst m;exact Xm H' z fun k y u b G=>g k y u b (nC.2 (.inl G))
  |succ j=>exact mf H' z (fun k y u b G=>g k y u b (nC.2 (.inr G))) j t' M (by simpa using ht) (by simpa using m)
theorem Nu{w:World}{H:Nat→Prop}{ov:Nat→Option Value}{a:Act}{s:St}(I:Conc w0 H0 w H ov N a s):∀(ts:List Nat) (rs:List V),iF s ts rs→
 ts.length=rs.length∧∃up,je s.ob up∧∀H':Nat→Prop,(∀b,H b→H' b)→(∀k y u b,(k,y)∈up→ov k=some u→blk u=some b→H' b)→∀(j:Nat) (t:Nat) (r:V),ts[j]? =some t→rs[j]? =some r→Rep0 w H' (a.tmps.getD t undef) r
 |[],[],_=>⟨rfl,[],je.nil,fun H' _ _ j t r h=>by simp at h⟩
 |[],_::_,h=>by simp[iF]at h
 |_::_,[],h=>by simp[iF]at h
 |t::ts,r::rs,h=>by
  obtain⟨C,M⟩:=h;obtain⟨hl,up,E,mf⟩:=Nu I ts rs M;have one:∃c,je s.ob c∧∀H':Nat→Prop,(∀b,H b→H' b)→(∀k y u b,(k,y)∈c→ov k=some u→blk u=some b→H' b)→Rep0 w H' (a.tmps.getD t undef) r:=by
   have m:=I.env t;have same:s.get t=r→r.aP=true→∃c,je s.ob c∧∀H':Nat→Prop,(∀b,H b→H' b)→(∀k y u b,(k,y)∈c→ov k=some u→blk u=some b→H' b)→Rep0 w H' (a.tmps.getD t undef) r:=fun e f=>by
    rw[e]at m;generalize a.tmps.getD t undef=cv at m;refine⟨[],je.nil,fun H' z _=>?_⟩;cases m with
    |base h=>exact h.mono z (fun _ _=>rfl)
    |ow=>simp[V.aP]at f
    |sl=>simp[V.aP]at f
    |pt=>simp[V.aP]at f
    |tw=>simp[V.aP]at f
   cases r with
   |o e sz cs=>exact C.elim
   |l sz cs=>
    obtain⟨F,f,J⟩:=C;refine⟨jA s.ob (s.get t),jk _,fun H' z g=>?_⟩;have:=ry I.mem F m f (.inl (by rw[J];rfl)) z g;rw[J]at this;exact this
   |any=>exact⟨[],je.nil,fun H' _ _=> .any _⟩
   |_=>exact same C.1 C.2
  obtain⟨c,A,Xm⟩:=one;refine⟨by simp[hl],c++up,A.append E,fun H' z g j t' L ht m=>?_⟩;cases j with
  |zero=>simp at ht m;subst ht;subst m;exact Xm H' z fun k y u b G=>g k y u b (nC.2 (.inl G))
  |succ j=>exact mf H' z (fun k y u b G=>g k y u b (nC.2 (.inr G))) j t' L (by simpa using ht) (by simpa using m)
theorem xX(c:∀b,¬H0.e b){w:World}{s:St}(g:Conc w0 H0 w H ov N a s)(h:dY s ts r):Res w0 w H0.h (Ey a.tmps ts) r:=by
 match ts with
 |[]=>
  simp only[dY]at h;subst h;exact⟨fun _=>False,fun b hb=>hb.elim,.inl (.t [] [] rfl fun j v x h=>by simp at h)⟩
 |[t]=>exact Xl c g (g.env t) h
 |t::t'::ts=>
  simp only[dY]at h;cases r<;>(try simp only[]at h);case fr y=>
   cases y<;>(try exact h.elim);case t rs=>
    have:=Ns c g _ _ h;exact⟨fun b=>w0.heap.size≤b∧b<w.heap.size,fun b hb=>hb,.inr (.inr ⟨_,rfl,.t _ _ this.1 this.2⟩)⟩
  case t rs=>
   obtain⟨hl,up,l,mf⟩:=Nu g _ _ h;obtain⟨H1,kJ,f,m,_⟩:=g.mem.freeze l;refine⟨fun b=>H1 b∧w0.heap.size≤b,fun b hb=>⟨hb.2,f.Bo b hb.1⟩,.inl ?_⟩;have:Rep0 w H1 (.tuple ((t::t'::ts).map fun t=>a.tmps.getD t undef).toArray) (.t rs):=by
    refine .t _ _ (by simpa using hl) fun j v x u z=>?_
    simp only[iU,jT]at u;obtain⟨q,hq,rfl⟩:=u;exact mf H1 kJ.hH m j q x hq z
   exact this.mono (fun b hb=>by
    rcases dW b w0.heap.size with h|h
    ·exact .inl ((f.low b hb h).resolve_right (c b))
    ·exact .inr ⟨hb,h⟩) (fun _ _=>rfl)
variable{args:List V}
theorem fC.plain(h:fC P J f args (.fr r))(a:r.G5=false:=by rfl):fC P J f args r:= .of0 a fun w H vs l g m c=>by
 refine(h w H vs l g m c).mono ?_;rintro e u ⟨v,rfl,hb,N,j,hres⟩;refine⟨v,rfl,hb,N,j,.inl ?_⟩;rcases hres with hres|⟨_,_,_,_,_,h,_⟩|⟨y,h,hres⟩
 ·cases hres
 ·cases h
 ·cases h;exact hres.mono (fun _ h=> .inr h) (fun _ _=>rfl)
variable{ac:AC}
theorem fC.mk(tN:P.follows .mixedOrders=true)(E:∀w e w',J w→bT w e w'→J w')(L:P.funcs[f]? =some fn)(hb:fn.body=some c)(M:jm P fn.ntmps c=some ac)(u:kR fn.results.toList=some ts)(A:Nat.ble args.length fn.ntmps=true)(C:r.G5=false)
 (G:yY (fC P J) (mG P) ac (fun e s=>match e with| .normal=>dY s ts r| .ret=>dY s ts r| .exit _=>False) (xW args)):fC P J f args r:=by
 have hn:args.length≤fn.ntmps:=qY A
 refine .of0 C ?_
 intro w H vs O N Q mf
 refine calls_of_wp L hb ?_
 have hlen:vs.length=args.length:=mf.1
 have z:(vs.toArray++Array.replicate (fn.ntmps-vs.toArray.size) undef).size=fn.ntmps:=by simp;omega
 have mY:Conc w ⟨H,fun _=>False,[]⟩ w H (fun _=>none) fn.ntmps {tmps:=vs.toArray++Array.replicate (fn.ntmps-vs.toArray.size) undef,defers:=[]} (xW args):=by
  refine⟨⟨bT.refl _ _,N,Q,fun b hb _=> .inl hb,fun id o h=>(by cases h),fun i j Z Y U T b I h=>(by cases h)⟩,z,rfl,fun _ _ h=>(by cases h),fun t=>?_,fun _ _=>rfl⟩;show Rep w H (fun _=>none) _ (lk (eU 0 args) t);rw[vF];simp only[aG,if_true,Nat.sub_zero];by_cases ht:t<args.length
  ·have g:t<vs.length:=om;have:=mf.2 t vs[t] args[t] (bC g) (bC ht);simp only[lH,List.getD,bC ht,jJ];rw[Array.getElem?_append_left (by simpa using g)];simp only[oQ,bC g,jJ];exact .up this
  ·have:args.getD t V.any= .any:=by simp[List.getD,ng (Nat.le_of_not_lt ht)]
   rw[this];exact .any _
 refine wp_mono (nM (J:=J) (H0:=⟨H,fun _=>False,[]⟩) tN (fun w' hb=>E w _ w' O hb) c ac M (fun _ _ h=>by cases h) _ _ _ w H (fun _=>none) mY G) fun e a' w' hq=>?_
 cases e with
 |normal=>
  obtain⟨s',F,m,y,a⟩:=hq;exact⟨a.I7,_,mV u _ _,_,rfl,a.mem.bel.below (fun _ h=>h),xX (fun _ h=>h) a y⟩
 |ret=>
  obtain⟨s',F,m,y,a⟩:=hq;exact⟨a.I7,_,mV u _ _,_,rfl,a.mem.bel.below (fun _ h=>h),xX (fun _ h=>h) a y⟩
 |exit i=>obtain⟨s',F,m,y,_⟩:=hq;exact y.elim
 |goto l=>exact hq.elim
 |panic ch=>exact hq.elim
 |outgrown=>exact hq.elim
theorem fC.mkt(tN:P.follows .mixedOrders=true)(hJs:∀w e w',J w→bT w e w'→J w'){F:Nat}{cs rs:List V}(hf:P.funcs[f]? =some fn)(hb:fn.body=some c)(hc:jm P fn.ntmps c=some ac)(Y:kR fn.results.toList=some (F::ts))(I:ts≠[])(hn':Nat.ble args.length fn.ntmps=true)
 (Z:0<sz)
 (hv:yY (fC P J) (mG P) ac (fun ex s=>match ex with| .normal| .ret=>(∃i n,s.get F= .ow sz i n∧s.ob i=some {e,sz,cs,mu:=true,pg:=false}∧(ts.all fun t=>(jA s.ob (s.get t)).all fun q=>q.1 != i)=true)∧iF s ts rs| .exit _=>False) (xW args)):fC P J f args (.to e sz cs rs):=by
 have hn:args.length≤fn.ntmps:=qY hn'
 refine⟨Z,?_⟩
 intro w H vs hJ hT hH mf
 refine calls_of_wp hf hb ?_
 have hlen:vs.length=args.length:=mf.1
 have hsize:(vs.toArray++Array.replicate (fn.ntmps-vs.toArray.size) undef).size=fn.ntmps:=by simp;omega
 have mY:Conc w ⟨H,fun _=>False,[]⟩ w H (fun _=>none) fn.ntmps {tmps:=vs.toArray++Array.replicate (fn.ntmps-vs.toArray.size) undef,defers:=[]} (xW args):=by
  refine⟨⟨bT.refl _ _,hT,hH,fun b hb _=> .inl hb,fun id o h=>(by cases h),fun i j oi oj vi vj b hij h=>(by cases h)⟩,hsize,rfl,fun _ _ h=>(by cases h),fun t=>?_,fun _ _=>rfl⟩;show Rep w H (fun _=>none) _ (lk (eU 0 args) t);rw[vF];simp only[aG,if_true,Nat.sub_zero];by_cases ht:t<args.length
  ·have A:t<vs.length:=om;have:=mf.2 t vs[t] args[t] (bC A) (bC ht);simp only[lH,List.getD,bC ht,jJ];rw[Array.getElem?_append_left (by simpa using A)];simp only[oQ,bC A,jJ];exact .up this
  ·have:args.getD t V.any= .any:=by simp[List.getD,ng (Nat.le_of_not_lt ht)]
   rw[this];exact .any _
 have last:∀(s':St) (E:Nat→Prop) (g:Nat→Option Value) (y:Act) (w':World),((∃i n,s'.get F= .ow sz i n∧s'.ob i=some {e,sz,cs,mu:=true,pg:=false}∧(ts.all fun t=>(jA s'.ob (s'.get t)).all fun q=>q.1 != i)=true)∧iF s' ts rs)→Conc w ⟨H,fun _=>False,[]⟩ w' E g fn.ntmps y s'→
  y.defers=[]∧∃r,(results fn y.tmps).run P w'= .ok r w'∧∃(u:Value) (us:List Value) (n:Nat) (xs:List Value) (N:Nat→Prop),Ending.returned r= .returned (.tuple (u::us).toArray)∧Below w.heap.size w w'∧w'.ownsRow w.heap.size e sz u n xs∧(∀b,N b→w.heap.size≤b∧b<w'.heap.size)∧(∀b,blk u=some b→¬N b)∧
   aB w' (fun b=>H b∨N b) xs cs∧(∀x,x∈cs→x.cell=true)∧n≤maxLen∧aB w' (fun b=>H b∨N b) us rs:=by
  rintro s' E g y w' ⟨⟨i,n,h1,h2,h4⟩,h3⟩ a
  have z:=a.env F
  rw[h1]at z
  obtain⟨ba,cap,e1,ho,_⟩:=z.jK
  obtain⟨u,hu,m⟩:=a.mem.obj i _ h2
  rw[ho]at hu;cases hu
  obtain⟨hl,up,G,hkey,mf⟩:=Ez a ts rs h3
  obtain⟨H1,kJ,O,hfr,T⟩:=a.mem.freeze G
  rcases m.bd with ⟨h',_⟩|⟨_,_,n',U,hown',L,M⟩
  ·cases h'
  ·have Q:∀b,H1 b→H b∨(H1 b∧w.heap.size≤b):=fun b hb=>by
    rcases dW b w.heap.size with h|h
    ·exact .inl ((O.low b hb h).resolve_right (fun h=>h))
    ·exact .inr ⟨hb,h⟩
   refine⟨a.I7,_,mV Y _ _,y.tmps.getD F undef,ts.map fun t=>y.tmps.getD t undef,n',U,fun b=>H1 b∧w.heap.size≤b,?_,a.mem.bel.below (fun _ h=>h),ownB hown' (fun b hb=>(m.ow b hb).resolve_right (fun h=>h)),fun b hb=>⟨hb.2,O.Bo b hb.1⟩,fun b hb hN=>?_,L.mono (fun b hb=>Q b (kJ.hH b hb)) (fun _ _=>rfl),m.cl (xe rfl),M,⟨by simpa using hl,fun j v x C h6=>?_⟩⟩
   ·match ts,I with
    |t1::ts',_=>rfl
   ·rcases T b hN.1 with C|⟨k,x,u2,C,h6,h7⟩
    ·have:=(m.fz b hb).1 C;cases this
    ·have hki:k≠i:=fun e=>by
      obtain⟨t,ht,hkt⟩:=hkey k x C;have:=dh.1 (dh.1 h4 t ht) _ hkt;simp[e]at this
     obtain⟨ok,hok,_⟩:=G k x C;exact a.mem.sep i k _ ok _ u2 b hki.symm h2 hok ho h6 hb h7
   ·simp only[iU,jT]at C;obtain⟨q,hq,rfl⟩:=C;exact(mf H1 kJ.hH hfr j q x hq h6).mono Q (fun _ _=>rfl)
 refine wp_mono (nM (J:=J) (H0:=⟨H,fun _=>False,[]⟩) tN (fun w' hb=>hJs w _ w' hJ hb) c ac hc (fun _ _ h=>by cases h) _ _ _ w H (fun _=>none) mY hv) fun ex y w' hq=>?_
 cases ex with
 |normal=>obtain⟨s',E,g,z,a⟩:=hq;exact last s' E g y w' z a
 |ret=>obtain⟨s',E,g,z,a⟩:=hq;exact last s' E g y w' z a
 |exit i=>obtain⟨s',E,g,z,_⟩:=hq;exact z.elim
 |goto l=>exact hq.elim
 |panic ch=>exact hq.elim
 |outgrown=>exact hq.elim
def isO:V→Bool
 | .o _ _ _=>true
 |_=>false
def CZ:List V→List V
 |[]=>[]
 | .o _ sz cs::r=> .ow sz 0 (cs.length/sz)::CZ r
 |v::r=>v::CZ r
theorem Nv:∀(vs:List V) (j:Nat),(CZ vs)[j]? =(vs[j]?).map fun v=>match v with| .o _ sz cs=> .ow sz 0 (cs.length/sz)|v=>v
 |[],j=>by simp[CZ]
 |v::r,0=>by cases v<;>simp[CZ]
 |v::r,j+1=>by
  have:=Nv r j;cases v<;>simpa[CZ]using this
theorem Ny:∀vs:List V,(CZ vs).length=vs.length
 |[]=>rfl
 |v::r=>by cases v<;>simp[CZ,Ny r]
def Xn(args:List V)(e sz:Nat)(cs:List V):St:={env:=eU 0 (CZ args),yx:=[(0,some {e,sz,cs,mu:=true,pg:=false})],nx:=1}
theorem fC.mkm(tN:P.follows .mixedOrders=true)(hJs:∀w e w',J w→bT w e w'→J w'){m:Nat}{cs cs':List V}(hf:P.funcs[f]? =some fn)(hb:fn.body=some c)(hc:jm P fn.ntmps c=some ac)(hts:kR fn.results.toList=some [])(hn':Nat.ble args.length fn.ntmps=true)
 (hm:args[m]? =some (.o e sz cs)) (hone:((args.eraseIdx m).all fun x=>!isO x)=true) (hnod:Kv m ac=true)
 (hv:yY (fC P J) (mG P) ac (fun ex s=>match ex with| .normal| .ret=>∃i,s.get m= .ow sz i (cs.length/sz)∧s.ob i=some {e,sz,cs:=cs',mu:=true,pg:=false}| .exit _=>False) (Xn args e sz cs)):fC P J f args (.mu (.t []) cs'):=by
 have hn:args.length≤fn.ntmps:=qY hn'
 refine⟨m,e,sz,cs,hm,fun w H vs v n xs hJ hT hH hlen hvm mf T hown Y hcl hnm Ui=>?_⟩
 refine calls_of_wp hf hb ?_
 have Uk:m<args.length:=(iR.1 hm).1
 have hnn:cs.length/sz=n:=by rw[←Y.1,hown.1,Nat.mul_div_cancel _ T]
 have hsize:(vs.toArray++Array.replicate (fn.ntmps-vs.toArray.size) undef).size=fn.ntmps:=by simp;omega
 have hget:∀t,t<args.length→((vs.toArray++Array.replicate (fn.ntmps-vs.toArray.size) undef).getD t undef)=vs.getD t undef:=fun t ht=>by
  simp only[lH,List.getD];rw[Array.getElem?_append_left (by simp;omega)];simp
 have Q:vs.getD m undef=v:=by rw[List.getD,hvm];rfl
 have mY:Conc w ⟨H,fun b=>blk v=some b,[(m,v)]⟩ w H (fun i=>if i=0 then some v else none) fn.ntmps {tmps:=vs.toArray++Array.replicate (fn.ntmps-vs.toArray.size) undef,defers:=[]} (Xn args e sz cs):=by
  refine⟨⟨bT.refl _ _,hT,hH,fun b hb _=> .inl hb,fun id o h=>?_,fun i j oi oj vi vj b hij h F=>?_⟩,hsize,rfl,fun m' v' h=>?_,fun t=>?_,fun id hid=>?_⟩
  ·have F:(if 0=id then some ({e,sz,cs,mu:=true,pg:=false}:Ob)else none)=some o:=h;by_cases O:0=id
   ·rw[au O]at F;subst O;cases F;exact⟨v,sy,ji.row hown T Y hcl hnm Ui (fun b hb=> .inr hb) _⟩
   ·rw[ah O]at F;cases F
  ·have h1:(if 0=i then some ({e,sz,cs,mu:=true,pg:=false}:Ob)else none)=some oi:=h;have h2:(if 0=j then some ({e,sz,cs,mu:=true,pg:=false}:Ob)else none)=some oj:=F;by_cases O:0=i
   ·by_cases z:0=j
    ·exact absurd (O.symm.trans z) hij
    ·rw[ah z]at h2;cases h2
   ·rw[ah O]at h1;cases h1
  ·cases l_.1 h;show(vs.toArray++Array.replicate (fn.ntmps-vs.toArray.size) undef).getD m undef=v;rw[hget m Uk,Q]
  ·show Rep w H _ ((vs.toArray++Array.replicate (fn.ntmps-vs.toArray.size) undef).getD t undef) (lk (eU 0 (CZ args)) t);rw[vF];simp only[aG,if_true,Nat.sub_zero];by_cases ht:t<args.length
   ·rw[hget t ht];have hl:=Nv args t;rw[bC ht,kZ]at hl;rw[show(CZ args).getD t V.any=(match args[t]with| .o _ sz cs=> .ow sz 0 (cs.length/sz)|v=>v)from by rw[dN,hl];rfl];by_cases I:t=m
    ·subst I;rw[Q];rw[bC ht]at hm;cases A:args[t]with
     |o e1 sz1 cs1=>
      rw[A]at hm;cases hm;simp only[hnn];exact uF hown hnm sy
     |_=>rw[A]at hm;cases hm
    ·have hx:=mf t (vs[t]' om) args[t] I (bC om) (bC ht);have Z:isO args[t]=false:=by
      have:=dh.1 hone args[t] (List.mem_eraseIdx_iff_getElem?.2 ⟨t,I,bC ht⟩);simpa using this
     rw[show vs.getD t undef=vs[t]' om from by rw[dN,bC om];rfl];cases A:args[t]with
     |o e1 sz1 cs1=>rw[A]at Z;cases Z
     |_=>rw[A]at hx;exact .up hx
   ·have hl:=Ny args;have:(CZ args).getD t V.any= .any:=by rw[List.getD,ng om];rfl
    rw[this];exact .any _
  ·show(if id=0 then some v else none)=none;rw[ah];have:1≤id:=hid;omega
 have last:∀(s':St) (G:Nat→Prop) (y:Nat→Option Value) (M:Act) (w':World),(∃i,s'.get m= .ow sz i (cs.length/sz)∧s'.ob i=some {e,sz,cs:=cs',mu:=true,pg:=false})→Conc w ⟨H,fun b=>blk v=some b,[(m,v)]⟩ w' G y fn.ntmps M s'→
  M.defers=[]∧∃r,(results fn M.tmps).run P w'= .ok r w'∧∃rv,Ending.returned r= .returned rv∧bT w (fun b=>blk v=some b) w'∧Rep0 w' H rv (.t [])∧V.nX (.t [])=false∧(∀x,x∈cs'→x.cell=true)∧∃(C:List Value) (N:Nat→Prop),w'.ownsRow 0 e sz v n C∧(∀b,N b→w.heap.size≤b∧b<w'.heap.size)∧aB w' (fun b=>H b∨N b) C cs':=by
  rintro s' G y M w' ⟨i,h1,h2⟩ a
  have hk:=a.kp m v (l_.2 rfl)
  have E:=a.env m
  rw[hk,h1]at E
  obtain⟨ba,cap,e1,ho,_⟩:=E.jK
  obtain⟨u,hu,L⟩:=a.mem.obj i _ h2
  rw[ho]at hu;cases hu
  rcases L.bd with ⟨F,_⟩|⟨_,_,n',C,hown',U,_⟩
  ·cases F
  ·have en:n'=n:=by
    have hn1:v= .slice ba (cs.length/sz) cap:=e1;rcases hown'.2 with ⟨z,h4⟩|⟨g,cap',cur,z,_⟩
    ·rw[hn1]at z;simp only[Value.slice.injEq]at z;omega
    ·rw[hn1]at z;cases z;exact hnn
   subst en;exact⟨a.I7,_,mV hts _ _,_,rfl,a.mem.bel,.t [] [] rfl (fun j v x h=>by simp at h),rfl,L.cl (xe rfl),C,fun b=>G b∧w.heap.size≤b,hown',fun b hb=>⟨hb.2,a.mem.Bo b hb.1⟩,U.mono (fun b hb=>by
    rcases dW b w.heap.size with hl|hl
    ·rcases a.mem.low b hb hl with z|z
     ·exact .inl z
     ·have:=(L.fz b z).1 hb;cases this
    ·exact .inr ⟨hb,hl⟩) (fun _ _=>rfl)⟩
 refine wp_mono (nM (J:=J) (H0:=⟨H,fun b=>blk v=some b,[(m,v)]⟩) tN (fun w' hb=>hJs w _ w' hJ hb) c ac hc (fun _ _ h=>by cases l_.1 h;exact hnod) _ _ _ w H _ mY hv) fun ex M w' hq=>?_
 cases ex with
 |normal=>obtain⟨s',G,y,E,a⟩:=hq;exact last s' G y M w' E a
 |ret=>obtain⟨s',G,y,E,a⟩:=hq;exact last s' G y M w' E a
 |exit i=>obtain⟨s',G,y,E,_⟩:=hq;exact E.elim
 |goto l=>exact hq.elim
 |panic ch=>exact hq.elim
 |outgrown=>exact hq.elim
end
inductive Fr where
 |c (c:AC)
 |b (id:Nat)
section
variable (F G:Nat→List V→V→Prop)
def vm:List Fr→(Ex→St→Prop)→St→Prop
 |[],Q,s=>Q .normal s
 | .b _::k,Q,s=>vm k Q s
 | .c c::k,Q,s=>yY F G c (fun e s'=>match e with
    | .normal=>vm k Q s'
    | .exit i=>FN i k Q s'
    | .ret=>Q .ret s') s
where FN (i:Nat):List Fr→(Ex→St→Prop)→St→Prop
 |[],Q,s=>Q (.exit i) s
 | .b j::k,Q,s=>if i=j then vm k Q s else FN i k Q s
 | .c _::k,Q,s=>FN i k Q s
def rg(dr:Bool)(l:List AO)(s:St)(K:St→Prop):Prop:=match dr with|true=>OH F G l s K|false=>rgv F G l s K
def fin(dr m:Bool)(d:Option Nat)(v:V)(up:List (Nat×Option Ob))(r:List AO)(s:St)(K:St→Prop):Prop:=
 match dr with
 |true=>chk (v.jE s.nx=true∧(m||up.all (fun p=>p.1==s.nx))=true) (OH F G r (s.zl d v up) K)
 |false=>rgv F G r (s.zl d v up) K
def go(dr m:Bool)(op:aK)(d:Option Nat)(r:List AO)(s:St)(K:St→Prop):Prop:=ev F G s.val s.ob s.nx (fun v up=>fin F G dr m d v up r s K) op
def gdo(dr:Bool)(v:V)(want:Bool)(op:aK)(d:Option Nat)(r:List AO)(s:St)(K:St→Prop):Prop:=
 match want with
 |true=>(match v with| .b x=>cnd (.b x) (rg F G dr (⟨d,none,op⟩::r) s K) (rg F G dr r (s.zl d .un []) K)| .un=>rg F G dr r (s.zl d .un []) K|_=>False)
 |false=>(match v with| .b x=>cnd (.b x) (rg F G dr r (s.zl d .un []) K) (rg F G dr (⟨d,none,op⟩::r) s K)| .un=>rg F G dr r (s.zl d .un []) K|_=>False)
def ldp(dr m:Bool)(ob:Option Ob)(ag:Bool)(n k:Nat)(d:Option Nat)(r:List AO)(s:St)(K:St→Prop):Prop:=
 match ob with
 |some o=>if ag then chk (k+n≤o.cs.length∧CU o=false) (fin F G dr m d (.g ((o.cs.drop k).take n)) [] r s K)else chk (k<o.cs.length) (fin F G dr m d (o.cs.getD k .un) [] r s K)
 |none=>False
def stkp(dr m:Bool)(ob:Option Ob)(j k:Nat)(v:V)(d:Option Nat)(r:List AO)(s:St)(K:St→Prop):Prop:=
 match ob with
 |some o=>chk (CU o=true∧isRef v=true∧o.mu=true∧k+1≤o.cs.length) (fin F G dr m d .un [(j,some {o with cs:=setAt o.cs k [v]})] r s K)
 |none=>False
def stp(dr m:Bool)(ob:Option Ob)(n j k:Nat)(v:V)(d:Option Nat)(r:List AO)(s:St)(K:St→Prop):Prop:=
 match ob with
 |some o=>chk (okR s.ob v∧o.mu=true∧(jA s.ob v).all (fun q=>q.1 != j)=true∧(rd s.ob 1 v).cells.length=n∧k+n≤o.cs.length∧(rd s.ob 1 v).cells.all V.cell=true)
   (fin F G dr m d .un ((j,some {o with cs:=setAt o.cs k (rd s.ob 1 v).cells})::jA s.ob v) r s K)
 |none=>False
def bldp(dr m:Bool)(ob:Nat→Option Ob)(zero:List V)(ps:List (Nat×Nat×V))(d:Option Nat)(r:List AO)(s:St)(K:St→Prop):Prop:=
 chk (qN ob (ps.map fun p=>p.2.2)∧fitAll zero.length (ps.map fun p=>(p.1,(rd ob 1 p.2.2).cells))=true∧(ps.all fun p=>(rd ob 1 p.2.2).cells.length==p.2.1)=true)
  (fin F G dr m d (.g (oU zero (ps.map fun p=>(p.1,(rd ob 1 p.2.2).cells)))) (ps.flatMap fun p=>jA ob p.2.2) r s K)
def bslp(dr m:Bool)(ob:Nat→Option Ob)(e sz n:Nat)(zero:List V)(ps:List (Nat×V))(d:Option Nat)(r:List AO)(s:St)(K:St→Prop):Prop:=
 chk (qN ob (ps.map fun p=>p.2)∧fitAll zero.length (ps.map fun p=>(p.1*sz,(rd ob 1 p.2).cells))=true∧(ps.all fun p=>(rd ob 1 p.2).cells.length==sz)=true)
  (fin F G dr m d (.ow sz s.nx n) ((s.nx,some {e,sz,cs:=oU zero (ps.map fun p=>(p.1*sz,(rd ob 1 p.2).cells)),mu:=true,pg:=false})::ps.flatMap fun p=>jA ob p.2) r s K)
def appq(dr m:Bool)(ob:Option Ob)(e sz bytes j n:Nat)(u:V)(s':Nat)(xs:List V)(s1:Nat)(d:Option Nat)(r:List AO)(s:St)(K:St→Prop):Prop:=
 match ob with
 |some o=>chk (okR s.ob u∧s1=sz∧s'=sz∧o.e=e∧o.sz=sz∧o.mu=true∧o.pg=false∧xs.all V.cell=true∧(n+xs.length/sz)*bytes≤70368744177664∧n+xs.length/sz≤1099511627776)
   (fin F G dr m d (.ow sz s.nx (n+xs.length/sz)) [(j,none),(s.nx,some {o with cs:=o.cs++xs})] r s K)
 |none=>False
def appp(dr m:Bool)(ob:Nat→Option Ob)(e sz bytes:Nat)(v u ru:V)(d:Option Nat)(r:List AO)(s:St)(K:St→Prop):Prop:=
 match v,ru with
 | .nl,.l s' xs=>chk (okR s.ob u∧s'=sz∧xs.all V.cell=true∧xs.length/sz*bytes≤70368744177664∧xs.length/sz≤1099511627776)
    (fin F G dr m d (.ow sz s.nx (xs.length/sz)) [(s.nx,some {e,sz,cs:=xs,mu:=true,pg:=false})] r s K)
 | .ow s1 j n,.l s' xs=>appq F G dr m (ob j) e sz bytes j n u s' xs s1 d r s K
 |_,_=>False
def Ea(dr m:Bool)(args:List (Nat×V))(res:V)(d:Option Nat)(r:List AO)(s:St)(K:St→Prop):Prop:=
 match res with
 | .o e sz cs=>chk (0<sz) (fin F G dr m d (.ow sz s.nx (cs.length/sz)) ((s.nx,some {e,sz,cs,mu:=true,pg:=false})::if res.nX then args.flatMap fun p=>jA s.ob p.2 else[]) r s K)
 | .fr res=>fin F G dr m d res [] r s K
 | .to e sz cs rs=>fin F G dr m d (.tw sz s.nx (cs.length/sz) rs) ((s.nx,some {e,sz,cs,mu:=true,pg:=false})::if(V.o e sz cs).nX||(V.t rs).nX then args.flatMap fun p=>jA s.ob p.2 else[]) r s K
 | .mu _ _=>False
 |res=>fin F G dr m d res (if res.nX then args.flatMap fun p=>jA s.ob p.2 else[]) r s K
def mcq(dr m:Bool)(ob:Option Ob)(f k j:Nat)(args:List (Nat×V))(d:Option Nat)(r:List AO)(s:St)(K:St→Prop):Prop:=
 match ob with
 |some o=>
  chk (qN s.ob (args.map fun p=>p.2)∧(args.all fun p=>(rd s.ob p.1 p.2).aP)=true∧o.mu=true∧o.pg=false∧((args.eraseIdx k).all fun p=>(jA s.ob p.2).all fun q=>q.1 != j)=true)<|
  ∃res cs',F f ((args.map fun p=>rd s.ob p.1 p.2).set k (.o o.e o.sz o.cs)) (.mu res cs')∧res.nX=false∧fin F G dr m d res ((j,some {o with cs:=cs'})::(args.eraseIdx k).flatMap fun p=>jA s.ob p.2) r s K
 |none=>False
def mcp(dr m:Bool)(f k:Nat)(v:Option V)(args:List (Nat×V))(d:Option Nat)(r:List AO)(s:St)(K:St→Prop):Prop:=
 match v with
 |some (.ow _ j _)=>mcq F G dr m (s.ob j) f k j args d r s K
 |_=>False
def ocr(dr m:Bool)(f j e sz:Nat)(cs:List V)(d:Option Nat)(r:List AO)(s:St)(K:St→Prop):Prop:=
 ∃cs',F f [.o e sz cs] (.mu (.sl e sz 0 0) cs')∧fin F G dr m d (.ow sz s.nx (cs'.length/sz)) [(j,none),(s.nx,some {e,sz,cs:=cs',mu:=true,pg:=false})] r s K
def clp(dr m:Bool)(f:Nat)(args:List (Nat×V))(d:Option Nat)(r:List AO)(s:St)(K:St→Prop):Prop:=
 chk (qN s.ob (args.map fun p=>p.2)∧(args.all fun p=>(rd s.ob p.1 p.2).aP)=true) (∃n res,F f (args.map fun p=>VV n s.ob p.1 p.2) res∧Ea F G dr m args res d r s K)
def isp(dr m:Bool)(neg:Bool)(e:Prop)(d:Option Nat)(r:List AO)(s:St)(K:St→Prop):Prop:=
 ∀t:Bool,(t=true→e)→fin F G dr m d (.b (t != neg)) [] r s K
def bxp(dr m:Bool)(ob:Nat→Option Ob)(e:Nat)(v:V)(cs:List V)(d:Option Nat)(r:List AO)(s:St)(K:St→Prop):Prop:=
 chk (okR ob v∧cs.all V.cell=true) (fin F G dr m d (.pt s.nx 0) ((s.nx,some {e,sz:=cs.length,cs:=cs,mu:=true,pg:=true})::jA ob v) r s K)
def purq(dr m:Bool)(res:Option V)(d:Option Nat)(r:List AO)(s:St)(K:St→Prop):Prop:=
 match res with|some v=>fin F G dr m d v [] r s K|none=>False
def purp(dr m:Bool)(p:PO)(vs:List V)(us:List V)(d:Option Nat)(r:List AO)(s:St)(K:St→Prop):Prop:=
 chk (qN s.ob vs) (purq F G dr m (qZ p us) d r s K)
def cpyq(dr m:Bool)(ob:Option Ob)(sz j off n:Nat)(u:V)(s':Nat)(xs:List V)(s1:Nat)(d:Option Nat)(r:List AO)(s:St)(K:St→Prop):Prop:=
 match ob with
 |some o=>chk (okR s.ob u∧s1=sz∧s'=sz∧o.mu=true∧off+n*sz≤o.cs.length∧xs.all V.cell=true)
   (fin F G dr m d (.i .i64 ((min (xs.length/sz) n:Nat):Int)) [(j,some {o with cs:=setAt o.cs off (xs.take (n*sz))})] r s K)
 |none=>False
def cpyp(dr m:Bool)(ob:Nat→Option Ob)(sz:Nat)(v u ru:V)(d:Option Nat)(r:List AO)(s:St)(K:St→Prop):Prop:=
 match v,ru with
 | .sl s1 j off n,.l s' xs=>cpyq F G dr m (ob j) sz j off n u s' xs s1 d r s K
 |_,_=>False
def xlp(dr m:Bool)(f:Nat)(args:List V)(d:Option Nat)(r:List AO)(s:St)(K:St→Prop):Prop:=
 ∃res,G f args res∧fin F G dr m d res [] r s K
end
def aK.sb(s:St):aK→aK
 | .mv x=> .mv (.k (s.val x))
 | .pick c a b=> .pick (.k (s.val c)) (.k (s.val a)) (.k (s.val b))
 | .bin op x y=> .bin op (.k (s.val x)) (.k (s.val y))
 | .Wu n x y=> .Wu n (.k (s.val x)) (.k (s.val y))
 | .un op x=> .un op (.k (s.val x))
 | .MK k x=> .MK k (.k (s.val x))
 | .six x y=> .six (.k (s.val x)) (.k (s.val y))
 | .idx n x y=> .idx n (.k (s.val x)) (.k (s.val y))
 | .ld a n x=> .ld a n (.k (s.val x))
 | .st n x y=> .st n (.k (s.val x)) (.k (s.val y))
 | .stk x y=> .stk (.k (s.val x)) (.k (s.val y))
 | .FK n x=> .FK n (.k (s.val x))
 | .Wx a n k x=> .Wx a n k (.k (s.val x))
 | .mk e sz b z x y=> .mk e sz b z (.k (s.val x)) (.k (s.val y))
 | .sub n x lo hi=> .sub n (.k (s.val x)) (lo.map fun x=> .k (s.val x)) (hi.map fun x=> .k (s.val x))
 | .len x=> .len (.k (s.val x))
 | .app e sz b x y=> .app e sz b (.k (s.val x)) (.k (s.val y))
 | .ext x i=> .ext (.k (s.val x)) i
 | .nc x=> .nc (.k (s.val x))
 | .mm m x y=> .mm m (.k (s.val x)) (.k (s.val y))
 | .RP n x=> .RP n (.k (s.val x))
 | .RJ z ps=> .RJ z ps
 | .RN e sz n z ps=> .RN e sz n z ps
 | .al e z=> .al e z
 | .call f args=> .call f args
 | .zC f args=> .zC f args
 | .bx e x=> .bx e (.k (s.val x))
 | .Uf p xs=> .Uf p xs
 | .Ug sz x y=> .Ug sz (.k (s.val x)) (.k (s.val y))
 | .Uh n sz x y=> .Uh n sz (.k (s.val x)) (.k (s.val y))
 | .xN f m args=> .xN f m args
 | .RQ n sz x lo hi=> .RQ n sz (.k (s.val x)) (lo.map fun x=> .k (s.val x)) (hi.map fun x=> .k (s.val x))
 | .bad=> .bad
section
variable {F G:Nat→List V→V→Prop} {dr m:Bool} {d:Option Nat} {r:List AO} {s:St} {K:St→Prop}
variable{id t j z e sz bytes s' off f q:Nat}{want neg x:Bool}{k':IntKind}{a:Int}{p:Prop}
theorem ev_sb{ob:Nat→Option Ob}{K:V→List (Nat×Option Ob)→Prop}(op:aK):ev F G s.val ob id K (op.sb s)=ev F G s.val ob id K op:=by
 cases op<;>first|rfl|skip
 all_goals
  simp only[aK.sb,ev,Option.map_map]
  rfl
theorem rg_nil:rg F G dr [] s K=K s:=by cases dr<;>rfl
variable{op:aK}
theorem rg_cons:rg F G dr (⟨d,none,op⟩::r) s K=go F G dr op.mut (op.sb s) d r s K:=by
 cases dr
 ·show rgv F G _ s K=_;unfold go;rw[ev_sb];rfl
 ·show OH F G _ s K=_;unfold go;rw[ev_sb];rfl
theorem Xo:rg F G dr (⟨d,some (t,want),op⟩::r) s K=gdo F G dr (s.get t) want op d r s K:=by
 cases dr<;>cases want<;>(simp only[rg,rgv,OH,gv,gdo];rfl)
theorem gdo_tt:gdo F G dr (.b true) true op d r s K=rg F G dr (⟨d,none,op⟩::r) s K:=Df
theorem gdo_ft:gdo F G dr (.b false) true op d r s K=rg F G dr r (s.zl d .un []) K:=Ar
theorem gdo_tf:gdo F G dr (.b true) false op d r s K=rg F G dr r (s.zl d .un []) K:=Df
theorem gdo_ff:gdo F G dr (.b false) false op d r s K=rg F G dr (⟨d,none,op⟩::r) s K:=Ar
theorem gdo_un:gdo F G dr .un want op d r s K=rg F G dr r (s.zl d .un []) K:=by cases want<;>rfl
theorem fin_f{v:V}{up:List (Nat×Option Ob)}:fin F G false m d v up r s K=rg F G false r (s.zl d v up) K:=rfl
theorem fin_t{v:V}{up:List (Nat×Option Ob)}:fin F G true m d v up r s K=chk (v.jE s.nx=true∧(m||up.all (fun p=>p.1==s.nx))=true) (rg F G true r (s.zl d v up) K):=rfl
variable{o:Ob}
theorem ldp_f{n k:Nat}:ldp F G dr m (some o) false n k d r s K=chk (k<o.cs.length) (fin F G dr m d (o.cs.getD k .un) [] r s K):=rfl
theorem ldp_t{n k:Nat}:ldp F G dr m (some o) true n k d r s K=chk (k+n≤o.cs.length∧CU o=false) (fin F G dr m d (.g ((o.cs.drop k).take n)) [] r s K):=rfl
theorem stkp_s{k:Nat}{v:V}:stkp F G dr m (some o) j k v d r s K=chk (CU o=true∧isRef v=true∧o.mu=true∧k+1≤o.cs.length) (fin F G dr m d .un [(j,some {o with cs:=setAt o.cs k [v]})] r s K):=rfl
theorem Xp{i n:Nat}:isRef (.ow z i n)=true:=rfl
theorem Xq:isRef .nl=true:=rfl
theorem stp_s{n k:Nat}{v:V}:stp F G dr m (some o) n j k v d r s K=chk (okR s.ob v∧o.mu=true∧(jA s.ob v).all (fun q=>q.1 != j)=true∧(rd s.ob 1 v).cells.length=n∧k+n≤o.cs.length∧(rd s.ob 1 v).cells.all V.cell=true)
 (fin F G dr m d .un ((j,some {o with cs:=setAt o.cs k (rd s.ob 1 v).cells})::jA s.ob v) r s K):=rfl
variable{u:V}
theorem appq_s{n:Nat}{xs:List V}{s1:Nat}:appq F G dr m (some o) e sz bytes j n u s' xs s1 d r s K=chk (okR s.ob u∧s1=sz∧s'=sz∧o.e=e∧o.sz=sz∧o.mu=true∧o.pg=false∧xs.all V.cell=true∧(n+xs.length/sz)*bytes≤70368744177664∧n+xs.length/sz≤1099511627776)
 (fin F G dr m d (.ow sz s.nx (n+xs.length/sz)) [(j,none),(s.nx,some {o with cs:=o.cs++xs})] r s K):=rfl
theorem cpyq_s{n:Nat}{xs:List V}{s1:Nat}:cpyq F G dr m (some o) sz j off n u s' xs s1 d r s K=chk (okR s.ob u∧s1=sz∧s'=sz∧o.mu=true∧off+n*sz≤o.cs.length∧xs.all V.cell=true)
 (fin F G dr m d (.i .i64 ((min (xs.length/sz) n:Nat):Int)) [(j,some {o with cs:=setAt o.cs off (xs.take (n*sz))})] r s K):=rfl
theorem cpyp_sl{ob:Nat→Option Ob}{n:Nat}{xs:List V}{s1:Nat}:cpyp F G dr m ob sz (.sl s1 j off n) u (.l s' xs) d r s K=cpyq F G dr m (ob j) sz j off n u s' xs s1 d r s K:=rfl
theorem appp_nl{ob:Nat→Option Ob}{xs:List V}:appp F G dr m ob e sz bytes .nl u (.l s' xs) d r s K=chk (okR s.ob u∧s'=sz∧xs.all V.cell=true∧xs.length/sz*bytes≤70368744177664∧xs.length/sz≤1099511627776)
 (fin F G dr m d (.ow sz s.nx (xs.length/sz)) [(s.nx,some {e,sz,cs:=xs,mu:=true,pg:=false})] r s K):=rfl
theorem appp_ow{ob:Nat→Option Ob}{n:Nat}{xs:List V}{s1:Nat}:appp F G dr m ob e sz bytes (.ow s1 j n) u (.l s' xs) d r s K=appq F G dr m (ob j) e sz bytes j n u s' xs s1 d r s K:=rfl
theorem go_mv{v:V}:go F G dr m (.mv (.k v)) d r s K=fin F G dr m d v [] r s K:=rfl
theorem Uu{v:V}:go F G dr m (.pick (.k (.b true)) (.k v) (.k u)) d r s K=fin F G dr m d v [] r s K:=Df
theorem Uw{v:V}:go F G dr m (.pick (.k (.b false)) (.k v) (.k u)) d r s K=fin F G dr m d u [] r s K:=Ar
theorem O7{k:IntKind}{b:Int}:go F G dr m (.bin .add (.k (.i k a)) (.k (.i k' b))) d r s K=chk (k=k') (fin F G dr m d (.i k (k.wrap (a+b))) [] r s K):=rfl
theorem O8{k:IntKind}{b:Int}:go F G dr m (.bin .sub (.k (.i k a)) (.k (.i k' b))) d r s K=chk (k=k') (fin F G dr m d (.i k (k.wrap (a-b))) [] r s K):=rfl
theorem O9{k:IntKind}{b:Int}:go F G dr m (.bin .mul (.k (.i k a)) (.k (.i k' b))) d r s K=chk (k=k') (fin F G dr m d (.i k (k.wrap (a*b))) [] r s K):=rfl
theorem O_{k:IntKind}{b:Int}:go F G dr m (.bin .and (.k (.i k a)) (.k (.i k' b))) d r s K=chk (k=k') (fin F G dr m d (.i k (bits .and k a b)) [] r s K):=rfl
theorem Ux{k:IntKind}{b:Int}:go F G dr m (.bin .or (.k (.i k a)) (.k (.i k' b))) d r s K=chk (k=k') (fin F G dr m d (.i k (bits .or k a b)) [] r s K):=rfl
theorem Pg{k:IntKind}{b:Int}:go F G dr m (.bin .xor (.k (.i k a)) (.k (.i k' b))) d r s K=chk (k=k') (fin F G dr m d (.i k (bits .xor k a b)) [] r s K):=rfl
theorem I8{k:IntKind}{b:Int}:go F G dr m (.bin .andNot (.k (.i k a)) (.k (.i k' b))) d r s K=chk (k=k') (fin F G dr m d (.i k (bits .andNot k a b)) [] r s K):=rfl
theorem Ph{k:IntKind}{b:Int}:go F G dr m (.bin .eql (.k (.i k a)) (.k (.i k' b))) d r s K=chk (k=k') (fin F G dr m d (.b (decide (a=b))) [] r s K):=rfl
theorem Pj{k:IntKind}{b:Int}:go F G dr m (.bin .neq (.k (.i k a)) (.k (.i k' b))) d r s K=chk (k=k') (fin F G dr m d (.b (decide (¬a=b))) [] r s K):=rfl
theorem Pm{k:IntKind}{b:Int}:go F G dr m (.bin .lss (.k (.i k a)) (.k (.i k' b))) d r s K=chk (k=k') (fin F G dr m d (.b (decide (a<b))) [] r s K):=rfl
theorem Pn{k:IntKind}{b:Int}:go F G dr m (.bin .leq (.k (.i k a)) (.k (.i k' b))) d r s K=chk (k=k') (fin F G dr m d (.b (decide (a≤b))) [] r s K):=rfl
theorem Po{k:IntKind}{b:Int}:go F G dr m (.bin .gtr (.k (.i k a)) (.k (.i k' b))) d r s K=chk (k=k') (fin F G dr m d (.b (decide (b<a))) [] r s K):=rfl
theorem Pq{k:IntKind}{b:Int}:go F G dr m (.bin .geq (.k (.i k a)) (.k (.i k' b))) d r s K=chk (k=k') (fin F G dr m d (.b (decide (b≤a))) [] r s K):=rfl
theorem Pv{k:IntKind}{b:Int}:go F G dr m (.bin .quo (.k (.i k a)) (.k (.i k' b))) d r s K=chk (k=k'∧b≠0) (fin F G dr m d (.i k (k.wrap (a.tdiv b))) [] r s K):=rfl
theorem Px{k:IntKind}{b:Int}:go F G dr m (.bin .rem (.k (.i k a)) (.k (.i k' b))) d r s K=chk (k=k'∧b≠0) (fin F G dr m d (.i k (a.tmod b)) [] r s K):=rfl
theorem Py{k:IntKind}{b:Int}:go F G dr m (.bin .shl (.k (.i k a)) (.k (.i k' b))) d r s K=chk (0≤b) (fin F G dr m d (.i k (k.wrap (a*2^(min b.toNat k.bits)))) [] r s K):=rfl
theorem Pz{k:IntKind}{b:Int}:go F G dr m (.bin .shr (.k (.i k a)) (.k (.i k' b))) d r s K=chk (0≤b) (fin F G dr m d (.i k (a.fdiv (2^(min b.toNat k.bits)))) [] r s K):=rfl
theorem PD{a b:List UInt8}:go F G dr m (.bin .add (.k (.s a)) (.k (.s b))) d r s K=chk (a.length+b.length≤9223372036854775807) (fin F G dr m d (.s (a++b)) [] r s K):=rfl
theorem PE{a b:List UInt8}:go F G dr m (.bin .eql (.k (.s a)) (.k (.s b))) d r s K=fin F G dr m d (.b (a==b)) [] r s K:=rfl
theorem PG{a b:List UInt8}:go F G dr m (.bin .neq (.k (.s a)) (.k (.s b))) d r s K=fin F G dr m d (.b (!(a==b))) [] r s K:=rfl
theorem go_eqb{y:Bool}:go F G dr m (.Wu neg (.k (.b x)) (.k (.b y))) d r s K=fin F G dr m d (.b (if neg then !(x==y)else x==y)) [] r s K:=rfl
theorem Uy:go F G dr m (.un .not (.k (.b x))) d r s K=fin F G dr m d (.b !x) [] r s K:=rfl
theorem Uz{k:IntKind}:go F G dr m (.un .neg (.k (.i k a))) d r s K=fin F G dr m d (.i k (k.wrap (0-a))) [] r s K:=rfl
theorem UA{k:IntKind}:go F G dr m (.un .xor (.k (.i k a))) d r s K=fin F G dr m d (.i k (bits .xor k (if k.signed then-1 else k.max) a)) [] r s K:=rfl
theorem PH{n:Int}:go F G dr m (.un .neg (.k (.f n))) d r s K=fin F G dr m d (.f (-n)) [] r s K:=rfl
theorem go_cvt{k:IntKind}:go F G dr m (.MK k (.k (.i k' a))) d r s K=fin F G dr m d (.i k (k.wrap a)) [] r s K:=rfl
theorem go_six{l:List UInt8}{k:IntKind}:go F G dr m (.six (.k (.s l)) (.k (.i k a))) d r s K=chk (0≤a∧a<l.length) (fin F G dr m d (.i .u8 (l.getD a.toNat 0).toNat) [] r s K):=rfl
theorem Xr{cs:List V}{k:IntKind}:go F G dr m (.idx sz (.k (.l z cs)) (.k (.i k a))) d r s K=chk (z=sz∧0≤a∧a.toNat*sz<cs.length) (fin F G dr m d (.ip cs (a.toNat*sz)) [] r s K):=rfl
theorem UB{n:Nat}{k:IntKind}:go F G dr m (.idx sz (.k (.ow z j n)) (.k (.i k a))) d r s K=chk (z=sz∧0≤a∧a<n) (fin F G dr m d (.pt j (a.toNat*sz)) [] r s K):=rfl
theorem UC{n:Nat}{k:IntKind}:go F G dr m (.idx sz (.k (.sl z j off n)) (.k (.i k a))) d r s K=chk (z=sz∧0≤a∧a<n) (fin F G dr m d (.pt j (off+a.toNat*sz)) [] r s K):=rfl
theorem BC{α β:Type}(g:α→β):∀(l:List α) (k:Nat),(l.map g).eraseIdx k=(l.eraseIdx k).map g
 |[],k=>rfl
 |x::r,0=>rfl
 |x::r,k+1=>by simp only[dI,List.eraseIdx_cons_succ,BC g r k]
theorem Xt{k:Nat}{args:List (Nat×X)}:go F G dr m (.xN f k args) d r s K=mcp F G dr m f k ((args.map fun p=>(p.1,s.val p.2))[k]?.map (·.2)) (args.map fun p=>(p.1,s.val p.2)) d r s K:=by
 have e:((args.map fun p=>(p.1,s.val p.2))[k]?.map (·.2))=(args[k]?).map fun p=>s.val p.2:=by
  rw[iU];cases args[k]? <;>rfl
 have a:((args.map fun p=>(p.1,s.val p.2)).eraseIdx k)=(args.eraseIdx k).map fun p=>(p.1,s.val p.2):=by rw[BC]
 rw[e];simp only[go,ev];cases(args[k]?).map fun p=>s.val p.2 with
 |none=>rfl
 |some v=>
  cases v<;>simp only[mcp];rename_i z j n;cases c:s.ob j with
  |none=>rfl
  |some o=>
   simp only[mcq,a,List.map_map,List.all_map,List.flatMap_map];rfl
theorem UD{n:Nat}{cs:List V}{k:IntKind}:go F G dr m (.Uh n sz (.k (.ip cs q)) (.k (.i k a))) d r s K=chk (0≤a∧a<n) (fin F G dr m d (.ip cs (q+a.toNat*sz)) [] r s K):=rfl
theorem UE{n:Nat}{k:IntKind}:go F G dr m (.Uh n sz (.k (.pt j q)) (.k (.i k a))) d r s K=chk (0≤a∧a<n) (fin F G dr m d (.pt j (q+a.toNat*sz)) [] r s K):=rfl
theorem go_asl0{n:Nat}{cs:List V}:go F G dr m (.RQ n sz (.k (.ip cs q)) none none) d r s K=chk (q=0∧cs.length=n*sz) (fin F G dr m d (.l sz cs) [] r s K):=rfl
theorem go_asl1{n:Nat}{cs:List V}{k:IntKind}:go F G dr m (.RQ n sz (.k (.ip cs q)) (some (.k (.i k a))) none) d r s K=chk (q=0∧cs.length=n*sz∧0≤a∧a≤n) (fin F G dr m d (.l sz (cs.drop (a.toNat*sz))) [] r s K):=rfl
theorem go_asl2{n:Nat}{cs:List V}{k:IntKind}{b:Int}:go F G dr m (.RQ n sz (.k (.ip cs q)) none (some (.k (.i k b)))) d r s K=chk (q=0∧cs.length=n*sz∧0≤b∧b≤n) (fin F G dr m d (.l sz (cs.take (b.toNat*sz))) [] r s K):=rfl
theorem go_asl3{n:Nat}{cs:List V}{k:IntKind}{b:Int}:go F G dr m (.RQ n sz (.k (.ip cs q)) (some (.k (.i k a))) (some (.k (.i k' b)))) d r s K=chk (q=0∧cs.length=n*sz∧0≤a∧a≤b∧b≤n) (fin F G dr m d (.l sz ((cs.take (b.toNat*sz)).drop (a.toNat*sz))) [] r s K):=rfl
theorem Xu{n:Nat}{cs:List V}:go F G dr m (.ld false n (.k (.ip cs q))) d r s K=chk (q<cs.length) (fin F G dr m d (cs.getD q .un) [] r s K):=rfl
theorem UF{n:Nat}{cs:List V}:go F G dr m (.ld true n (.k (.ip cs q))) d r s K=chk (q+n≤cs.length) (fin F G dr m d (.g ((cs.drop q).take n)) [] r s K):=rfl
theorem Xv{a:Bool}{n:Nat}:go F G dr m (.ld a n (.k (.pt j q))) d r s K=ldp F G dr m (s.ob j) a n q d r s K:=rfl
theorem UG{v:V}:go F G dr m (.stk (.k (.pt j q)) (.k v)) d r s K=stkp F G dr m (s.ob j) j q v d r s K:=rfl
theorem Xw{n:Nat}{v:V}:go F G dr m (.st n (.k (.pt j q)) (.k v)) d r s K=stp F G dr m (s.ob j) n j q v d r s K:=rfl
theorem UH:go F G dr m (.FK off (.k (.pt j q))) d r s K=fin F G dr m d (.pt j (q+off)) [] r s K:=rfl
theorem UI{cs:List V}:go F G dr m (.FK off (.k (.ip cs q))) d r s K=fin F G dr m d (.ip cs (q+off)) [] r s K:=rfl
theorem go_fld{n:Nat}{cs:List V}:go F G dr m (.Wx false off n (.k (.g cs))) d r s K=chk (off<cs.length) (fin F G dr m d (cs.getD off .un) [] r s K):=rfl
theorem go_fldg{n:Nat}{cs:List V}:go F G dr m (.Wx true off n (.k (.g cs))) d r s K=chk (off+n≤cs.length) (fin F G dr m d (.g ((cs.drop off).take n)) [] r s K):=rfl
variable{zero:List V}
theorem go_bld{ps:List (Nat×Nat×X)}:go F G dr m (.RJ zero ps) d r s K=bldp F G dr m s.ob zero (ps.map fun p=>(p.1,p.2.1,s.val p.2.2)) d r s K:=by
 simp only[go,ev,bldp,List.map_map,List.all_map,List.flatMap_map];rfl
theorem go_bsl{n:Nat}{ps:List (Nat×X)}:go F G dr m (.RN e sz n zero ps) d r s K=bslp F G dr m s.ob e sz n zero (ps.map fun p=>(p.1,s.val p.2)) d r s K:=by
 simp only[go,ev,bslp,List.map_map,List.all_map,List.flatMap_map];rfl
theorem go_mk{k:IntKind}{b:Int}:go F G dr m (.mk e sz bytes zero (.k (.i k a)) (.k (.i k' b))) d r s K=chk (0≤a∧a≤b∧b*bytes≤281474976710656∧b≤1099511627776) (fin F G dr m d (.ow sz s.nx a.toNat) [(s.nx,some {e,sz,cs:=(List.replicate a.toNat zero).flatten,mu:=true,pg:=false})] r s K):=rfl
theorem UJ{cs:List V}:go F G dr m (.sub sz (.k (.l z cs)) none none) d r s K=chk (z=sz) (fin F G dr m d (.l z cs) [] r s K):=rfl
theorem UK{cs:List V}{k:IntKind}:go F G dr m (.sub sz (.k (.l z cs)) (some (.k (.i k a))) none) d r s K=chk (z=sz∧0≤a∧a.toNat*sz≤cs.length) (fin F G dr m d (.l z (cs.drop (a.toNat*sz))) [] r s K):=rfl
theorem UL{cs:List V}{b:Int}:go F G dr m (.sub sz (.k (.l z cs)) none (some (.k (.i k' b)))) d r s K=chk (z=sz∧0≤b∧b.toNat*sz≤cs.length) (fin F G dr m d (.l z (cs.take (b.toNat*sz))) [] r s K):=rfl
theorem UM{cs:List V}{k:IntKind}{b:Int}:go F G dr m (.sub sz (.k (.l z cs)) (some (.k (.i k a))) (some (.k (.i k' b)))) d r s K=chk (z=sz∧0≤a∧a≤b∧b.toNat*sz≤cs.length) (fin F G dr m d (.l z ((cs.take (b.toNat*sz)).drop (a.toNat*sz))) [] r s K):=rfl
theorem PI{n:Nat}:go F G dr m (.sub sz (.k (.ow z j n)) none none) d r s K=chk (z=sz) (fin F G dr m d (.ow z j n) [] r s K):=rfl
theorem PK{n:Nat}{k:IntKind}:go F G dr m (.sub sz (.k (.ow z j n)) (some (.k (.i k a))) none) d r s K=chk (z=sz∧0≤a∧a≤n) (fin F G dr m d (.sl z j (a.toNat*sz) (n-a.toNat)) [] r s K):=rfl
theorem PL{n:Nat}{b:Int}:go F G dr m (.sub sz (.k (.ow z j n)) none (some (.k (.i k' b)))) d r s K=chk (z=sz∧0≤b∧b≤n) (fin F G dr m d (.sl z j 0 b.toNat) [] r s K):=rfl
theorem PM{n:Nat}{k:IntKind}{b:Int}:go F G dr m (.sub sz (.k (.ow z j n)) (some (.k (.i k a))) (some (.k (.i k' b)))) d r s K=chk (z=sz∧0≤a∧a≤b∧b≤n) (fin F G dr m d (.sl z j (a.toNat*sz) (b.toNat-a.toNat)) [] r s K):=rfl
theorem PN{n:Nat}:go F G dr m (.sub sz (.k (.sl z j off n)) none none) d r s K=chk (z=sz) (fin F G dr m d (.sl z j off n) [] r s K):=rfl
theorem PQ{n:Nat}{k:IntKind}:go F G dr m (.sub sz (.k (.sl z j off n)) (some (.k (.i k a))) none) d r s K=chk (z=sz∧0≤a∧a≤n) (fin F G dr m d (.sl z j (off+a.toNat*sz) (n-a.toNat)) [] r s K):=rfl
theorem PR{n:Nat}{b:Int}:go F G dr m (.sub sz (.k (.sl z j off n)) none (some (.k (.i k' b)))) d r s K=chk (z=sz∧0≤b∧b≤n) (fin F G dr m d (.sl z j off b.toNat) [] r s K):=rfl
theorem PT{n:Nat}{k:IntKind}{b:Int}:go F G dr m (.sub sz (.k (.sl z j off n)) (some (.k (.i k a))) (some (.k (.i k' b)))) d r s K=chk (z=sz∧0≤a∧a≤b∧b≤n) (fin F G dr m d (.sl z j (off+a.toNat*sz) (b.toNat-a.toNat)) [] r s K):=rfl
theorem UN{a:Option Addr}{n c:Nat}{cs:List V}{b:Int}:go F G dr m (.sub sz (.k (.kn (.slice a n c) (.l z cs))) none (some (.k (.i k' b)))) d r s K=chk (z=sz∧0≤b∧b≤n∧0<c∧(∃g,a=some ⟨g,0,none⟩)) (fin F G dr m d (.kn (.slice a b.toNat c) (.l z (cs.take (b.toNat*sz)))) [] r s K):=rfl
theorem PU:go F G dr m (.sub sz (.k (.nl)) none none) d r s K=fin F G dr m d .nl [] r s K:=rfl
theorem PV{k:IntKind}:go F G dr m (.sub sz (.k (.nl)) (some (.k (.i k a))) none) d r s K=chk (a=0) (fin F G dr m d .nl [] r s K):=rfl
theorem PX{b:Int}:go F G dr m (.sub sz (.k (.nl)) none (some (.k (.i k' b)))) d r s K=chk (b=0) (fin F G dr m d .nl [] r s K):=rfl
theorem PY{k:IntKind}{b:Int}:go F G dr m (.sub sz (.k (.nl)) (some (.k (.i k a))) (some (.k (.i k' b)))) d r s K=chk (a=0∧b=0) (fin F G dr m d .nl [] r s K):=rfl
theorem Xx{cs:List V}:go F G dr m (.len (.k (.l z cs))) d r s K=fin F G dr m d (.i .i64 ((cs.length/z:Nat):Int)) [] r s K:=rfl
theorem UO{n:Nat}:go F G dr m (.len (.k (.ow z j n))) d r s K=fin F G dr m d (.i .i64 n) [] r s K:=rfl
theorem UQ{n:Nat}:go F G dr m (.len (.k (.sl z j off n))) d r s K=fin F G dr m d (.i .i64 n) [] r s K:=rfl
theorem UR:go F G dr m (.len (.k .nl)) d r s K=fin F G dr m d (.i .i64 0) [] r s K:=rfl
theorem go_app{v:V}:go F G dr m (.app e sz bytes (.k v) (.k u)) d r s K=appp F G dr m s.ob e sz bytes v (FM u) (rd s.ob sz (FM u)) d r s K:=rfl
theorem go_cpy{v:V}:go F G dr m (.Ug sz (.k v) (.k u)) d r s K=cpyp F G dr m s.ob sz (Dh v) u (rd s.ob sz u) d r s K:=rfl
theorem go_al:go F G dr m (.al e zero) d r s K=fin F G dr m d (.pt s.nx 0) [(s.nx,some {e,sz:=zero.length,cs:=zero,mu:=true,pg:=true})] r s K:=rfl
variable{rs:List V}
theorem go_ext0{n:Nat}:go F G dr m (.ext (.k (.tw sz j n rs)) 0) d r s K=fin F G dr m d (.ow sz j n) [] r s K:=rfl
theorem go_ext1{n:Nat}:go F G dr m (.ext (.k (.tw sz j n rs)) 1) d r s K=chk (0<rs.length) (fin F G dr m d (rs.getD 0 .un) [] r s K):=rfl
theorem go_ext2{n:Nat}:go F G dr m (.ext (.k (.tw sz j n rs)) 2) d r s K=chk (1<rs.length) (fin F G dr m d (rs.getD 1 .un) [] r s K):=rfl
variable{vs:List V}
theorem go_ext{a:Nat}:go F G dr m (.ext (.k (.t vs)) a) d r s K=chk (a<vs.length) (fin F G dr m d (vs.getD a .un) [] r s K):=rfl
theorem Xy:go F G dr m (.nc (.k (.pt j q))) d r s K=fin F G dr m d (.pt j q) [] r s K:=rfl
theorem Xz{cs:List V}:go F G dr m (.nc (.k (.ip cs q))) d r s K=fin F G dr m d (.ip cs q) [] r s K:=rfl
theorem go_mm{mx:Bool}{k:IntKind}{b:Int}:go F G dr m (.mm mx (.k (.i k a)) (.k (.i k' b))) d r s K=chk (k=k') (fin F G dr m d (.i k (if mx then max a b else min a b)) [] r s K):=rfl
theorem go_call{args:List (Nat×X)}:go F G dr m (.call f args) d r s K=clp F G dr m f (args.map fun p=>(p.1,s.val p.2)) d r s K:=by
 simp only[go,ev,clp,List.map_map,List.all_map];congr 1;refine congrArg Exists (funext fun n=>?_);refine congrArg Exists (funext fun res=>?_);refine congr (congrArg And rfl) ?_;cases res<;>simp only[Ea,List.flatMap_map]
theorem dG{cs cs':List V}(a:F f [.o e sz cs] (.mu (.sl e sz 0 0) cs'))(h:fin F G dr m d (.ow sz s.nx (cs'.length/sz)) [(j,none),(s.nx,some {e,sz,cs:=cs',mu:=true,pg:=false})] r s K):ocr F G dr m f j e sz cs d r s K:=⟨cs',a,h⟩
theorem XA{args:List X}:go F G dr m (.zC f args) d r s K=xlp F G dr m f (args.map s.val) d r s K:=rfl
theorem go_bx{v:V}:go F G dr m (.bx e (.k v)) d r s K=bxp F G dr m s.ob e v (rd s.ob 1 v).cells d r s K:=rfl
theorem go_pur{p:PO}{xs:List X}:go F G dr m (.Uf p xs) d r s K=purp F G dr m p (xs.map s.val) (xs.map fun x=>rd s.ob 1 (s.val x)) d r s K:=rfl
theorem purq_s{v:V}:purq F G dr m (some v) d r s K=fin F G dr m d v [] r s K:=rfl
theorem UT:go F G dr m (.RP neg (.k .nl)) d r s K=fin F G dr m d (.b (!neg)) [] r s K:=rfl
theorem XB{cs:List V}:go F G dr m (.RP neg (.k (.l z cs))) d r s K=isp F G dr m neg (cs=[]) d r s K:=rfl
theorem UU{n:Nat}:go F G dr m (.RP neg (.k (.ow z j n))) d r s K=isp F G dr m neg (n=0) d r s K:=rfl
theorem isp_mk{e:Prop}(h:∀t:Bool,(t=true→e)→fin F G dr m d (.b (t != neg)) [] r s K):isp F G dr m neg e d r s K:=h
variable{args:List (Nat×V)}
theorem XC(res:V)(vs:List V)(h1:qN s.ob (args.map fun p=>p.2))(h2:(args.all fun p=>(rd s.ob p.1 p.2).aP)=true)(a:(args.map fun p=>rd s.ob p.1 p.2)=vs)(g:F f vs res)(c:Ea F G dr m args res d r s K):clp F G dr m f args d r s K:=
 ⟨⟨h1,h2⟩,false,res,a▸g,c⟩
theorem uG{args:List V}(res:V)(c:G f args res)(a:fin F G dr m d res [] r s K):xlp F G dr m f args d r s K:=⟨res,c,a⟩
theorem clr_o{cs:List V}:Ea F G dr m args (.o e sz cs) d r s K=chk (0<sz) (fin F G dr m d (.ow sz s.nx (cs.length/sz)) ((s.nx,some {e,sz,cs,mu:=true,pg:=false})::if(V.o e sz cs).nX then args.flatMap fun p=>jA s.ob p.2 else[]) r s K):=rfl
theorem clr_to{cs:List V}:Ea F G dr m args (.to e sz cs rs) d r s K=fin F G dr m d (.tw sz s.nx (cs.length/sz) rs) ((s.nx,some {e,sz,cs,mu:=true,pg:=false})::if(V.o e sz cs).nX||(V.t rs).nX then args.flatMap fun p=>jA s.ob p.2 else[]) r s K:=rfl
theorem clr_fr{v:V}:Ea F G dr m args (.fr v) d r s K=fin F G dr m d v [] r s K:=rfl
theorem clr_i{k:IntKind}{n:Int}:Ea F G dr m args (.i k n) d r s K=fin F G dr m d (.i k n) [] r s K:=rfl
theorem clr_b:Ea F G dr m args (.b x) d r s K=fin F G dr m d (.b x) [] r s K:=rfl
theorem clr_s{x:List UInt8}:Ea F G dr m args (.s x) d r s K=fin F G dr m d (.s x) [] r s K:=rfl
theorem clr_l{cs:List V}:Ea F G dr m args (.l sz cs) d r s K=fin F G dr m d (.l sz cs) (args.flatMap fun p=>jA s.ob p.2) r s K:=rfl
theorem clr_t:Ea F G dr m args (.t vs) d r s K=fin F G dr m d (.t vs) (if(V.t vs).nX then args.flatMap fun p=>jA s.ob p.2 else[]) r s K:=rfl
theorem clr_g:Ea F G dr m args (.g vs) d r s K=fin F G dr m d (.g vs) (if(V.g vs).nX then args.flatMap fun p=>jA s.ob p.2 else[]) r s K:=rfl
variable {Q:Ex→St→Prop} {k:List Fr}
theorem vm_nil:vm F G [] Q s=Q .normal s:=by simp only[vm]
theorem vm_b:vm F G (.b id::k) Q s=vm F G k Q s:=by simp only[vm]
theorem XD{a b:AC}:vm F G (.c (.seq a b)::k) Q s=vm F G (.c a:: .c b::k) Q s:=by
 simp only[vm,yY,vm.FN];all_goals first|rfl|(congr 1;done)|(congr 1;funext e s';cases e<;>rfl)
variable{c:AC}
theorem vm_blk:vm F G (.c (.blk id c)::k) Q s=vm F G (.c c:: .b id::k) Q s:=by
 simp only[vm,yY,vm.FN];all_goals first|rfl|(congr 1;done)|(congr 1;funext e s';cases e<;>rfl)
theorem vm_skip:vm F G (.c .skip::k) Q s=vm F G k Q s:=by simp only[vm,yY]
theorem vm_ret:vm F G (.c .ret::k) Q s=Q .ret s:=by simp only[vm,yY]
theorem vm_exit{i:Nat}:vm F G (.c (.exit i)::k) Q s=vm.FN F G i k Q s:=by simp only[vm,yY]
theorem vmx_nil{i:Nat}:vm.FN F G i [] Q s=Q (.exit i) s:=by simp only[vm.FN]
theorem vmx_b{i:Nat}:vm.FN F G i (.b j::k) Q s=if i=j then vm F G k Q s else vm.FN F G i k Q s:=by simp only[vm.FN]
theorem vmx_c{i:Nat}:vm.FN F G i (.c c::k) Q s=vm.FN F G i k Q s:=by simp only[vm.FN]
variable{l:List AO}
theorem ay(h:∀K:St→Prop,(∀s',vm F G k Q s'→K s')→rg F G false l s K):vm F G (.c (.reg l)::k) Q s:=by
 have:=h (vm F G k Q) fun _ h=>h
 simp only[vm,yY];exact this
theorem ax(h:∀K:St→Prop,(∀s',vm F G k Q s'→K s')→rg F G true l s K):vm F G (.c (.Us l)::k) Q s:=by
 have:=h (vm F G k Q) fun _ h=>h
 simp only[vm,yY];exact this
theorem ak{a:List (Nat×Nat)}(h:∀K:St→Prop,(∀s',chk (p_ s' a) (vm F G k Q s')→K s')→rg F G true l s K):vm F G (.c (.SB a l)::k) Q s:=by
 have:=h (fun s'=>chk (p_ s' a) (vm F G k Q s')) fun _ h=>h
 simp only[vm,yY];exact this
theorem PZ{s:St}:chk (p_ s []) p=p:=by simp[chk,p_]
theorem Nz{s:St}{x y:Nat}{r:List (Nat×Nat)}:chk (p_ s ((x,y)::r)) p=chk (apr (s.get x).ref (s.get y).ref) (chk (p_ s r) p):=by simp[chk,p_,and_assoc]
theorem ref_i{q:IntKind}{n:Int}:V.ref (.i q n)=none:=rfl
theorem ref_b:V.ref (.b x)=none:=rfl
theorem ref_s{x:List UInt8}:V.ref (.s x)=none:=rfl
theorem ref_l{x:List V}:V.ref (.l z x)=none:=rfl
theorem ref_g{x:List V}:V.ref (.g x)=none:=rfl
theorem ref_t{x:List V}:V.ref (.t x)=none:=rfl
theorem ref_ip{x:List V}{n:Nat}:V.ref (.ip x n)=none:=rfl
theorem ref_nl:V.ref .nl=none:=rfl
theorem ref_un:V.ref .un=none:=rfl
theorem ref_any:V.ref .any=none:=rfl
theorem ref_c{x:Value}:V.ref (.c x)=none:=rfl
theorem ref_kn{v:Value}{x:V}:V.ref (.kn v x)=none:=rfl
theorem ref_pt{i n:Nat}:V.ref (.pt i n)=some i:=rfl
theorem ref_ow{i n:Nat}:V.ref (.ow z i n)=some i:=rfl
theorem ref_sl{i o n:Nat}:V.ref (.sl z i o n)=some i:=rfl
theorem apr_n1{a:Option Nat}:chk (apr none a) p=p:=by simp[chk,apr]
theorem apr_n2{a:Option Nat}:chk (apr a none) p=p:=by cases a<;>simp[chk,apr]
theorem apr_ss{a b:Nat}:chk (apr (some a) (some b)) p=if a=b then False else p:=by by_cases h:a=b<;>simp[chk,apr,h]
def vmc(F G:Nat→List V→V→Prop)(v:V)(a b:AC)(k:List Fr)(Q:Ex→St→Prop)(s:St):Prop:=cnd v (vm F G (.c a::k) Q s) (vm F G (.c b::k) Q s)
theorem vm_cond{x:X}{a b:AC}:vm F G (.c (.cond x a b)::k) Q s=vmc F G (s.val x) a b k Q s:=by simp only[vm,yY,vmc]
theorem vmc_t{a b:AC}:vmc F G (.b true) a b k Q s=vm F G (.c a::k) Q s:=Df
theorem vmc_f{a b:AC}:vmc F G (.b false) a b k Q s=vm F G (.c b::k) Q s:=Ar
theorem vmc_mk{t:Bool}{a b:AC}(h1:t=true→vm F G (.c a::k) Q s)(h2:t=false→vm F G (.c b::k) Q s):vmc F G (.b t) a b k Q s:=zD h1 h2
theorem UW(ms:List (Nat×Nat×Nat))(X:Type)(mk:X→St)(I:X→Prop)(μ:X→Nat)(g:X)(r0:List (Nat×Nat))(h0:I g)(l:St.uS ms s)(hle:(St.xU ms s).le r0 (mk g))
 (round:∀x,I x→∀Q':Ex→St→Prop,(∀s' a f j,I f→μ f<μ x→St.uS a s'→(St.xU a s').le j (mk f)→Q' .normal s')→(∀i s',vm.FN F G i k Q s'→Q' (.exit i) s')→(∀s',Q .ret s'→Q' .ret s')→vm F G [.c c] Q' (mk x)):
 vm F G (.c (.loop c)::k) Q s:=by
 simp only[vm,yY]
 refine⟨X,mk,I,μ,⟨ms,g,r0,h0,l,hle⟩,fun x m=>?_⟩
 have:=round x m (fun e s'=>match e with| .normal=>∃a f r,I f∧μ f<μ x∧St.uS a s'∧(St.xU a s').le r (mk f)| .exit i=>vm.FN F G i k Q s'| .ret=>Q .ret s')
  (fun s' a f j A z y u=>⟨a,f,j,A,z,y,u⟩) (fun i s' h=>h) (fun s' h=>h)
 simp only[vm,vm.FN]at this
 have e:(fun(e:Ex) (s':St)=>match e with
  | .normal=>(match Ex.normal with| .normal=>∃a f r,I f∧μ f<μ x∧St.uS a s'∧(St.xU a s').le r (mk f)| .exit i=>vm.FN F G i k Q s'| .ret=>Q .ret s')
  | .exit i=>(match Ex.exit i with| .normal=>∃a f r,I f∧μ f<μ x∧St.uS a s'∧(St.xU a s').le r (mk f)| .exit i=>vm.FN F G i k Q s'| .ret=>Q .ret s')
  | .ret=>(match Ex.ret with| .normal=>∃a f r,I f∧μ f<μ x∧St.uS a s'∧(St.xU a s').le r (mk f)| .exit i=>vm.FN F G i k Q s'| .ret=>Q .ret s'))=
  (fun(e:Ex) (s':St)=>match e with| .normal=>∃a f r,I f∧μ f<μ x∧St.uS a s'∧(St.xU a s').le r (mk f)| .exit i=>vm.FN F G i k Q s'| .ret=>Q .ret s'):=by
  funext e s';cases e<;>rfl
 simp only[]at this e
 exact this
theorem NC(ms:List (Nat×Nat×Nat))(X:Type)(mk:X→St)(I:X→Prop)(μ:X→Nat)(f:X)(r0:List (Nat×Nat))(h0:I f)(j:St.uS ms s)(hle:(St.xU ms s).le r0 (mk f))
 (round:∀x,I x→∀Q':Ex→St→Prop,(∀s' a g,I a→μ a<μ x→s'.le g (mk a)→Q' .normal s')→(∀i s',vm.FN F G i k Q s'→Q' (.exit i) s')→(∀s',Q .ret s'→Q' .ret s')→vm F G [.c c] Q' (mk x)):
 vm F G (.c (.loop c)::k) Q s:=
 UW ms X mk I μ f r0 h0 j hle fun x l Q' y u m=>round x l Q' (fun s' a g C A z=>y s' [] a g C A trivial z) u m
theorem Dx(X:Type)(mk:X→St)(I:X→Prop)(μ:X→Nat)(a:X)(r0:List (Nat×Nat))(h0:I a)(hle:s.le r0 (mk a))
 (round:∀x,I x→∀Q':Ex→St→Prop,(∀s' f g,I f→μ f<μ x→s'.le g (mk f)→Q' .normal s')→(∀i s',vm.FN F G i k Q s'→Q' (.exit i) s')→(∀s',Q .ret s'→Q' .ret s')→vm F G [.c c] Q' (mk x)):
 vm F G (.c (.loop c)::k) Q s:=NC [] X mk I μ a r0 h0 trivial hle round
theorem gm{ac:AC}(h:vm F G [.c ac] Q s):yY F G ac Q s:=by
 simp only[vm,vm.FN]at h;have e:(fun(e:Ex) (s':St)=>match e with| .normal=>Q .normal s'| .exit i=>Q (.exit i) s'| .ret=>Q .ret s')=Q:=by funext e s';cases e<;>rfl
 rw[e]at h;exact h
variable{env:List (Nat×V)}{yx:List (Nat×Option Ob)}
theorem aft_s{up:List (Nat×Option Ob)}{nx:Nat}{v:V}:St.zl ⟨env,yx,nx⟩ (some t) v up=⟨(t,v)::env,up++yx,nx+1⟩:=rfl
theorem aft_n{up:List (Nat×Option Ob)}{nx:Nat}{v:V}:St.zl ⟨env,yx,nx⟩ none v up=⟨env,up++yx,nx+1⟩:=rfl
theorem val_t{nx:Nat}:St.val ⟨env,yx,nx⟩ (.t t)=lk env t:=rfl
theorem val_k{v:V}:s.val (.k v)=v:=rfl
theorem get_t{nx:Nat}:St.get ⟨env,yx,nx⟩ t=lk env t:=rfl
theorem ob_t{nx:Nat}:St.ob ⟨env,yx,nx⟩ t=lo yx t:=rfl
theorem nx_t{nx:Nat}:St.nx ⟨env,yx,nx⟩=nx:=rfl
theorem lo_cons{i:Nat}{o:Option Ob}{l:List (Nat×Option Ob)}:lo ((i,o)::l) t=if i=t then o else lo l t:=rfl
theorem lo_nil:lo [] t=none:=rfl
theorem XE:chk True p=p:=by simp[chk]
theorem chk_and{q u:Prop}:chk (p∧q) u=chk p (chk q u):=by simp[chk,and_assoc]
end
end Go.Proofs.YtpopphdnlhihdaaGreatDoor.Ab
namespace Go.Proofs.YtpopphdnlhihdaaGreatDoor.Ab
open Go Go.RowKit
theorem lk_eq(k:Nat)(v:V)(r:List (Nat×V))(t:Nat):lk ((k,v)::r) t=if k=t then v else lk r t:=rfl
theorem nil_app(l:List (Nat×Option Ob)):[]++l=l:=rfl
theorem XF(x:Nat×Option Ob)(l r:List (Nat×Option Ob)):(x::l)++r=x::(l++r):=rfl
def rdo:Option Ob→V
 |some o=>if o.pg then .any else .l o.sz o.cs
 |none=> .any
def rds(off n:Nat):Option Ob→V
 |some o=>if o.pg then .any else .l o.sz ((o.cs.drop off).take (n*o.sz))
 |none=> .any
def fro(id:Nat):Option Ob→List (Nat×Option Ob)
 |some o=>[(id,some {o with mu:=false})]
 |none=>[]
def oks(off n:Nat):Option Ob→Prop
 |some o=>off+n*o.sz≤o.cs.length
 |none=>False
section
variable {ob:Nat→Option Ob} {z:Nat}
variable{e sz off id k c j:Nat}{mu:Bool}{l:List UInt8}{a:Option Addr}
theorem rdo_s{cs:List V}:rdo (some ⟨e,sz,cs,mu,false⟩)= .l sz cs:=rfl
theorem rds_s{n:Nat}{cs:List V}:rds off n (some ⟨e,sz,cs,mu,false⟩)= .l sz ((cs.drop off).take (n*sz)):=rfl
theorem fro_s{cs:List V}{v:Bool}:fro id (some ⟨e,sz,cs,mu,v⟩)=[(id,some ⟨e,sz,cs,false,v⟩)]:=rfl
theorem oks_s{n:Nat}{cs:List V}{v:Bool}:oks off n (some ⟨e,sz,cs,mu,v⟩)=(off+n*sz≤cs.length):=rfl
theorem rd_i{k:IntKind}{n:Int}:rd ob z (.i k n)= .i k n:=rfl
theorem rd_b{x:Bool}:rd ob z (.b x)= .b x:=rfl
theorem rd_s:rd ob z (.s l)= .s l:=rfl
theorem rd_l{s:Nat}{cs:List V}:rd ob z (.l s cs)= .l s cs:=rfl
theorem rd_g{cs:List V}:rd ob z (.g cs)= .g cs:=rfl
theorem rd_t{cs:List V}:rd ob z (.t cs)= .t cs:=rfl
theorem rd_ip{cs:List V}:rd ob z (.ip cs k)= .ip cs k:=rfl
theorem rd_c{v:Value}:rd ob z (.c v)= .c v:=rfl
theorem rd_nl:rd ob z .nl= .l z []:=rfl
theorem rd_ow{s n:Nat}:rd ob z (.ow s id n)=rdo (ob id):=by simp only[rd,rdo];cases ob id<;>rfl
theorem rd_sl{s n:Nat}:rd ob z (.sl s id off n)=rds off n (ob id):=by simp only[rd,rds];cases ob id<;>rfl
theorem okR_i{k:IntKind}{n:Int}:okR ob (.i k n)=True:=rfl
theorem okR_b{x:Bool}:okR ob (.b x)=True:=rfl
theorem okR_s:okR ob (.s l)=True:=rfl
theorem okR_l{s:Nat}{cs:List V}:okR ob (.l s cs)=True:=rfl
theorem okR_g{cs:List V}:okR ob (.g cs)=True:=rfl
theorem okR_t{cs:List V}:okR ob (.t cs)=True:=rfl
theorem okR_ip{cs:List V}:okR ob (.ip cs k)=True:=rfl
theorem okR_c{v:Value}:okR ob (.c v)=True:=rfl
theorem okR_nl:okR ob .nl=True:=rfl
theorem okR_ow{s n:Nat}:okR ob (.ow s id n)=True:=rfl
theorem okR_sl{s n:Nat}:okR ob (.sl s id off n)=oks off n (ob id):=by simp only[okR,oks];cases ob id<;>rfl
theorem XG:qN ob []=True:=rfl
variable{r:List V}
theorem UX{v:V}:qN ob (v::r)=(okR ob v∧qN ob r):=rfl
theorem frz_i{k:IntKind}{n:Int}:jA ob (.i k n)=[]:=rfl
theorem frz_b{x:Bool}:jA ob (.b x)=[]:=rfl
theorem frz_str:jA ob (.s l)=[]:=rfl
theorem frz_l{s:Nat}{cs:List V}:jA ob (.l s cs)=[]:=rfl
theorem frz_g{cs:List V}:jA ob (.g cs)=[]:=rfl
theorem frz_t{cs:List V}:jA ob (.t cs)=[]:=rfl
theorem frz_ip{cs:List V}:jA ob (.ip cs k)=[]:=rfl
theorem frz_c{v:Value}:jA ob (.c v)=[]:=rfl
theorem frz_nl:jA ob .nl=[]:=rfl
theorem frz_ow{s n:Nat}:jA ob (.ow s id n)=fro id (ob id):=by simp only[jA,fro];cases ob id<;>rfl
theorem frz_sl{s n:Nat}:jA ob (.sl s id off n)=fro id (ob id):=by simp only[jA,fro];cases ob id<;>rfl
theorem okA_i{k:IntKind}{n:Int}:V.aP (.i k n)=true:=rfl
theorem okA_b{x:Bool}:V.aP (.b x)=true:=rfl
theorem okA_s:V.aP (.s l)=true:=rfl
theorem okA_l{s:Nat}{cs:List V}:V.aP (.l s cs)=true:=rfl
theorem okA_g{cs:List V}:V.aP (.g cs)=true:=rfl
theorem okA_ip{cs:List V}:V.aP (.ip cs k)=true:=rfl
theorem okA_c{v:Value}:V.aP (.c v)=true:=rfl
variable{x:V}
theorem okA_kn{v:Value}:V.aP (.kn v x)=true:=rfl
theorem cells_g{cs:List V}:V.cells (.g cs)=cs:=rfl
theorem cells_i{k:IntKind}{n:Int}:V.cells (.i k n)=[.i k n]:=rfl
theorem cells_b{x:Bool}:V.cells (.b x)=[.b x]:=rfl
theorem cells_s:V.cells (.s l)=[.s l]:=rfl
theorem cells_l{s:Nat}{cs:List V}:V.cells (.l s cs)=[.l s cs]:=rfl
theorem cells_c{v:Value}:V.cells (.c v)=[.c v]:=rfl
theorem rl_kn{nx:Nat}{v:Value}:V.jE nx (.kn v x)=true:=rfl
theorem okR_kn{ob:Nat→Option Ob}{v:Value}:okR ob (.kn v x)=True:=rfl
theorem frz_kn{ob:Nat→Option Ob}{v:Value}:jA ob (.kn v x)=[]:=rfl
theorem XH{v:Value}:V.cells (.kn v x)=[.kn v x]:=rfl
theorem cell_kn{n:Nat}:V.cell (.kn (.slice a n c) x)=true:=rfl
theorem XI{n:Nat}:V.cell (.c (.slice a n c))=true:=rfl
theorem rd_kn{ob:Nat→Option Ob}{v:Value}:rd ob sz (.kn v x)= .kn v x:=rfl
theorem unk_kn{v:Value}{s:Nat}{cs:List V}:FM (.kn v (.l s cs))= .l s cs:=rfl
theorem unk_l{s:Nat}{cs:List V}:FM (.l s cs)= .l s cs:=rfl
theorem unk_ow{s n:Nat}:FM (.ow s j n)= .ow s j n:=rfl
theorem unk_sl{s o n:Nat}:FM (.sl s j o n)= .sl s j o n:=rfl
theorem unk_nl:FM .nl= .nl:=rfl
theorem cell_i{k:IntKind}{n:Int}:V.cell (.i k n)=true:=rfl
theorem cell_b{x:Bool}:V.cell (.b x)=true:=rfl
theorem cell_s:V.cell (.s l)=true:=rfl
theorem vY{s:Nat}{cs:List V}:V.cell (.l s cs)=true:=rfl
theorem sA_nil{cs:List V}:setAt cs k []=cs:=rfl
theorem sA_cons{cs:List V}{v:V}:setAt cs k (v::r)=setAt (cs.set k v) (k+1) r:=rfl
theorem XJ{cs:List V}:oU cs []=cs:=rfl
variable{vs:List V}
theorem UY{cs:List V}{r:List (Nat×List V)}:oU cs ((k,vs)::r)=oU (setAt cs k vs) r:=rfl
theorem fA_nil{n:Nat}:fitAll n []=true:=rfl
theorem fA_cons{n:Nat}{r:List (Nat×List V)}:fitAll n ((k,vs)::r)=(decide (k+vs.length≤n)&&vs.all V.cell&&fitAll n r):=rfl
theorem all_nil(p:V→Bool):([]:List V).all p=true:=rfl
theorem all_cons(p:V→Bool)(v:V)(r:List V):(v::r).all p=(p v&&r.all p):=rfl
theorem XK(p:Nat×Option Ob→Bool):([]:List (Nat×Option Ob)).all p=true:=rfl
theorem UZ(p:Nat×Option Ob→Bool)(v:Nat×Option Ob)(r:List (Nat×Option Ob)):(v::r).all p=(p v&&r.all p):=rfl
theorem len_nil:([]:List V).length=0:=rfl
theorem XM(v:V)(r:List V):(v::r).length=r.length+1:=rfl
theorem set_z(v u:V)(r:List V):(v::r).set 0 u=u::r:=rfl
theorem set_s(v u:V)(r:List V)(n:Nat):(v::r).set (n+1) u=v::r.set n u:=rfl
theorem getD_z(v u:V)(r:List V):(v::r).getD 0 u=v:=rfl
theorem getD_s(v u:V)(r:List V)(n:Nat):(v::r).getD (n+1) u=r.getD n u:=rfl
end
section
variable {F G:Nat→List V→V→Prop} {dr m:Bool} {d:Option Nat} {r:List AO} {s:St} {K:St→Prop}
variable{zero:List V}
theorem bld_eq{ob:Nat→Option Ob}{ps:List (Nat×Nat×V)}:bldp F G dr m ob zero ps d r s K=chk (qN ob (ps.map fun p=>p.2.2)∧fitAll zero.length (ps.map fun p=>(p.1,(rd ob 1 p.2.2).cells))=true∧(ps.all fun p=>(rd ob 1 p.2.2).cells.length==p.2.1)=true)
 (fin F G dr m d (.g (oU zero (ps.map fun p=>(p.1,(rd ob 1 p.2.2).cells)))) (ps.flatMap fun p=>jA ob p.2.2) r s K):=rfl
theorem bsl_eq{ob:Nat→Option Ob}{e sz n:Nat}{ps:List (Nat×V)}:bslp F G dr m ob e sz n zero ps d r s K=chk (qN ob (ps.map fun p=>p.2)∧fitAll zero.length (ps.map fun p=>(p.1*sz,(rd ob 1 p.2).cells))=true∧(ps.all fun p=>(rd ob 1 p.2).cells.length==sz)=true)
 (fin F G dr m d (.ow sz s.nx n) ((s.nx,some {e,sz,cs:=oU zero (ps.map fun p=>(p.1*sz,(rd ob 1 p.2).cells)),mu:=true,pg:=false})::ps.flatMap fun p=>jA ob p.2) r s K):=rfl
end
def V.nf:V→Bool
 | .i _ _| .b _| .s _=>false
 |_=>true
def uh:List V→Bool
 |[]=>false
 |v::r=>v.nf||uh r
theorem G_(cs:List V):(cs.any fun x=>match x with| .i _ _| .b _| .s _=>false|_=>true)=uh cs:=by
 induction cs with
 |nil=>rfl
 |cons v r a=>simp only[List.any_cons,uh,a];cases v<;>rfl
theorem hasL_t{cs:List V}:V.nX (.t cs)=uh cs:=G_ cs
theorem hasL_g{cs:List V}:V.nX (.g cs)=uh cs:=G_ cs
variable{e z j off:Nat}{k:IntKind}{l:List UInt8}{ks:List Nat}{a c:Int}
theorem hasL_o{cs:List V}:V.nX (.o e z cs)=uh cs:=G_ cs
theorem aNF_nil:uh []=false:=rfl
variable{r:List V}
theorem XN{v:V}:uh (v::r)=(v.nf||uh r):=rfl
theorem nf_i{n:Int}:V.nf (.i k n)=false:=rfl
theorem nf_b{x:Bool}:V.nf (.b x)=false:=rfl
theorem nf_s:V.nf (.s l)=false:=rfl
theorem nf_l{cs:List V}:V.nf (.l z cs)=true:=rfl
theorem lu{cs:List V}:V.nf (.g cs)=true:=rfl
theorem nf_c{v:Value}:V.nf (.c v)=true:=rfl
theorem or_f(x:Bool):(false||x)=x:=rfl
theorem or_t(x:Bool):(true||x)=true:=rfl
theorem rl_i{nx:Nat}{n:Int}:V.jE nx (.i k n)=true:=rfl
theorem rl_b{nx:Nat}{x:Bool}:V.jE nx (.b x)=true:=rfl
theorem rl_s{nx:Nat}:V.jE nx (.s l)=true:=rfl
theorem rl_l{nx:Nat}{cs:List V}:V.jE nx (.l z cs)=true:=rfl
theorem rl_g{nx:Nat}{cs:List V}:V.jE nx (.g cs)=true:=rfl
theorem rl_t{nx:Nat}{cs:List V}:V.jE nx (.t cs)=true:=rfl
theorem rl_ip{nx:Nat}{cs:List V}{k:Nat}:V.jE nx (.ip cs k)=true:=rfl
theorem rl_nl{nx:Nat}:V.jE nx .nl=true:=rfl
theorem rl_un{nx:Nat}:V.jE nx .un=true:=rfl
theorem rl_any{nx:Nat}:V.jE nx .any=true:=rfl
theorem rl_c{nx:Nat}{v:Value}:V.jE nx (.c v)=true:=rfl
theorem rl_ow{nx n:Nat}(h:j≤nx):V.jE nx (.ow z j n)=true:=by simp[V.jE,h]
theorem rl_sl{nx n:Nat}(h:j≤nx):V.jE nx (.sl z j off n)=true:=by simp[V.jE,h]
theorem rl_pt{nx:Nat}(h:j≤nx):V.jE nx (.pt j off)=true:=by simp[V.jE,h]
def Sw:= an @hasL_t<|an @hasL_g<|an @hasL_o<|an @aNF_nil<|an @XN<|an @nf_i<|an @nf_b<|an @nf_s<|an @nf_l<|an @lu<|an @nf_c<|an @or_f<|an @or_t<|an @rl_i<|an @rl_b<|an @rl_s<|an @rl_l<|an @rl_g<|an @rl_t<|an @rl_ip<|an @rl_nl<|an @rl_un<|an @rl_any<|an @rl_c<|an @rl_ow<|an @rl_sl<|an @rl_pt<|an @rdo_s<|an @rds_s<|an @fro_s<|an @oks_s<|an @rd_i<|an @rd_b<|an @rd_s<|an @rd_l<|an @rd_g<|an @rd_t<|an @rd_ip<|an @rd_c<|an @rd_nl<|an @rd_ow<|an @rd_sl<|an @okR_i<|an @okR_b<|an @okR_s<|an @okR_l<|an @okR_g<|an @okR_t<|an @okR_ip<|an @okR_c<|an @okR_nl<|an @okR_ow<|an @okR_sl<|an @XG<|an @UX<|an @frz_i<|an @frz_b<|an @frz_str<|an @frz_l<|an @frz_g<|an @frz_t<|an @frz_ip<|an @frz_c<|an @frz_nl<|an @frz_ow<|an @frz_sl<|an @okA_i<|an @okA_b<|an @okA_s<|an @okA_l<|an @okA_g<|an @okA_ip (an (an @okA_c @okA_kn) (an @cells_g (an @cells_i (an @cells_b (an @cells_s (an @cells_l (an (an @cells_c (an @XH (an @cell_kn (an @XI (an @rd_kn (an @rl_kn (an @okR_kn @frz_kn))))))) (an @cell_i (an @cell_b (an @cell_s (an @vY (an @sA_nil (an @sA_cons (an @XJ (an @UY (an @fA_nil (an @fA_cons (an @all_nil (an @all_cons (an @XK (an @UZ (an @len_nil (an @XM (an @set_z (an @set_s (an @getD_z (an @getD_s (an @bld_eq (an @bsl_eq (an @rg_nil (an @rg_cons (an @Xo (an @gdo_tt (an @gdo_ft (an @gdo_tf (an @gdo_ff (an @gdo_un (an @fin_f (an @fin_t (an @ldp_f (an (an @ldp_t @Wq) (an (an @stp_s (an @stkp_s (an @UG (an @Xp @Xq)))) (an @appq_s (an @appp_nl (an @appp_ow (an @go_mv (an @Uu (an @Uw (an @O7 (an @O8 (an @O9 (an @O_ (an @Ux (an @Pg (an @I8 (an @Ph (an @Pj (an @Pm (an @Pn (an @Po (an @Pq (an @Pv (an @Px (an @Py (an @Pz (an @PD (an @PE (an @PG (an @go_eqb (an @Uy (an @Uz (an @UA (an @go_cvt (an @go_six (an @Xr (an @UB (an @UC (an @Xu (an @UF (an @Xv (an @Xw (an @UH (an @UI (an @go_fld (an @go_fldg (an @go_bld (an @go_bsl (an @go_mk (an @UJ (an @UK (an @UL (an @UM (an @PI (an @PK (an @PL (an @PM (an @PN (an @PQ (an @PR (an @PT (an (an @UN (an @unk_kn (an @unk_l (an @unk_ow (an @unk_sl (an @unk_nl @PU)))))) (an @PV (an @PX (an @PY (an @Xx (an @UO (an @UQ (an @UR (an @go_app (an @go_al (an @go_ext (an @Xy (an @Xz (an @go_mm (an @go_call (an @XA (an @UT (an @XB (an @UU (an @clr_o (an @clr_i (an @clr_b (an @clr_s (an @clr_l (an @clr_t (an @clr_g (an @aft_s (an @aft_n (an @val_t (an @val_k (an @get_t (an @ob_t (an @nx_t (an @lo_cons (an @lo_nil (an @XE (an @chk_and (an @lk_eq (an @nil_app (an @XF (an @decide_true @decide_false)))))))))))))))))))))))))))))))))))))))))))))))))))))))))))))))))))))))))))))))))))))))))))))))))))))))))))))))))))))))))))))))))))))))))))))
section
variable {s:St} {r:List (Nat×Nat)} {nx t:Nat}
variable{env:List (Nat×V)}{x:Bool}{z off e z':Nat}{yx:List (Nat×Option Ob)}
theorem le_mk:s.le r ⟨env,yx,nx⟩=(leE s r nx env∧leO s r nx yx∧leN r yx):=rfl
theorem leE_nil:leE s r nx []=True:=rfl
theorem XO{v:V}{l:List (Nat×V)}:leE s r nx ((t,v)::l)=(Ku s r nx t v∧leE s r nx l):=rfl
theorem leO_nil:leO s r nx []=True:=rfl
variable{o:Option Ob}
theorem XP{l:List (Nat×Option Ob)}:leO s r nx ((t,o)::l)=(t<nx∧s.ob (rn r t)=o∧refN o∧leO s r nx l):=rfl
theorem leN_nil:leN r []=True:=rfl
theorem XQ{l:List (Nat×Option Ob)}:leN r ((t,o)::l)=((l.all fun p=>rn r p.1 != rn r t)=true∧leN r l):=rfl
theorem rn_nil:rn [] t=t:=rfl
theorem rn_cons{k v:Nat}:rn ((k,v)::r) t=if k=t then v else rn r t:=rfl
theorem leV_any:Ku s r nx t .any=True:=rfl
theorem leV_i{n:Int}:Ku s r nx t (.i k n)=(s.get t= .i k n):=rfl
theorem leV_b:Ku s r nx t (.b x)=(s.get t= .b x):=rfl
theorem leV_s:Ku s r nx t (.s l)=(s.get t= .s l):=rfl
theorem leV_l{cs:List V}:Ku s r nx t (.l z cs)=(s.get t= .l z cs):=rfl
theorem leV_g{cs:List V}:Ku s r nx t (.g cs)=(s.get t= .g cs):=rfl
theorem leV_t{cs:List V}:Ku s r nx t (.t cs)=(s.get t= .t cs):=rfl
theorem leV_nl:Ku s r nx t .nl=(s.get t= .nl):=rfl
theorem leV_c{v:Value}:Ku s r nx t (.c v)=(s.get t= .c v):=rfl
theorem leV_ow{i n:Nat}:Ku s r nx t (.ow z i n)=(i<nx∧s.get t= .ow z (rn r i) n):=rfl
theorem leV_sl{i n:Nat}:Ku s r nx t (.sl z i off n)=(i<nx∧Dh (s.get t)= .sl z (rn r i) off n):=rfl
theorem leV_pt{i:Nat}:Ku s r nx t (.pt i off)=(i<nx∧s.get t= .pt (rn r i) off):=rfl
theorem XR:St.xU [] s=s:=rfl
theorem U0{l:List (Nat×Nat×Nat)}:St.xU ((t,e,z)::l) ⟨env,yx,nx⟩=St.xU l ⟨(t,.ow z nx 0)::env,(nx,some {e,sz:=z,cs:=[],mu:=true,pg:=false})::yx,nx+1⟩:=rfl
theorem U1:St.uS [] s=True:=rfl
theorem P_{l:List (Nat×Nat×Nat)}:St.uS ((t,e,z)::l) ⟨env,yx,nx⟩=(lk env t= .nl∧0<z∧St.uS l ⟨(t,.ow z nx 0)::env,(nx,some {e,sz:=z,cs:=[],mu:=true,pg:=false})::yx,nx+1⟩):=rfl
theorem ow_eq{i n c a:Nat}:(V.ow z i n=V.ow z' c a)=(z=z'∧i=c∧n=a):=sy
theorem m_{k k':IntKind}{n a:Int}:(V.i k n=V.i k' a)=(k=k'∧n=a):=sy
theorem b_eq{y:Bool}:(V.b x=V.b y)=(x=y):=sy
theorem U2{z z':Nat}{cs cs':List V}:(V.l z cs=V.l z' cs')=(z=z'∧cs=cs'):=sy
theorem o_eq{f:Nat}{cs cs':List V}{m c v a:Bool}:((some ⟨e,z,cs,m,v⟩:Option Ob)=some ⟨f,z',cs',c,a⟩)=(e=f∧z=z'∧cs=cs'∧m=c∧v=a):=sy
end
def Sv:= an @vm_nil<|an @vm_b<|an @XD<|an @vm_blk<|an @vm_skip<|an @vm_ret<|an @vm_exit<|an @vmx_nil<|an @vmx_b<|an @vmx_c<|an @vm_cond<|an @vmc_t<|an @vmc_f<|an @val_t<|an @val_k<|an @PZ<|an @Nz<|an @get_t<|an @ref_i<|an @ref_b<|an @ref_s<|an @ref_l<|an @ref_g<|an @ref_t<|an @ref_ip<|an @ref_nl<|an @ref_un<|an @ref_any (an (an @ref_c @ref_kn) (an @ref_pt (an @ref_ow (an @ref_sl (an @apr_n1 (an @apr_n2 (an @apr_ss @lk_eq)))))))
def Sl:= an @XR<|an @U0<|an @U1<|an @P_<|an @le_mk<|an @leE_nil<|an @XO<|an @leO_nil (an (an @XP (an @refN_s (an @refN_n (an @Wq (an @or_t1 (an @or_f1 (an @all_c1 (an @all_n1 (an @cel_l1 (an @cel_i1 (an @cel_b1 @cel_s1))))))))))) (an @leN_nil (an @XQ (an @rn_nil (an @rn_cons (an @leV_any (an @leV_i (an @leV_b (an @leV_s (an @leV_l (an @leV_g (an @leV_t (an @leV_nl (an @leV_c (an @leV_ow (an @leV_sl (an @leV_pt (an @ow_eq (an @m_ (an @b_eq (an @U2 @o_eq)))))))))))))))))))))
def fRc(i:Nat)(v:V)(l:List (Nat×Nat)):List (Nat×Nat):=
 match v with
 | .ow _ j _| .sl _ j _ _| .pt j _=>(i,j)::l
 |_=>l
def fR(s:St):List (Nat×V)→List (Nat×Nat)
 |[]=>[]
 |(t,.ow _ i _)::r|(t,.sl _ i _ _)::r|(t,.pt i _)::r=>fRc i (s.get t) (fR s r)
 |_::r=>fR s r
def St.leA(s s':St):Prop:=s.le (fR s s'.env) s'
section
variable {F G:Nat→List V→V→Prop} {s:St} {Q:Ex→St→Prop} {k:List Fr}
theorem leA_mk{env a:List (Nat×V)}{yx c:List (Nat×Option Ob)}{nx f:Nat}:St.leA ⟨env,yx,nx⟩ ⟨a,c,f⟩=St.le ⟨env,yx,nx⟩ (fR ⟨env,yx,nx⟩ a) ⟨a,c,f⟩:=rfl
theorem fR_nil:fR s []=[]:=rfl
variable{t z o j:Nat}{l:List (Nat×Nat)}{a:Int}
theorem fR_ow{i n:Nat}{r:List (Nat×V)}:fR s ((t,.ow z i n)::r)=fRc i (s.get t) (fR s r):=rfl
theorem fR_sl{i n:Nat}{r:List (Nat×V)}:fR s ((t,.sl z i o n)::r)=fRc i (s.get t) (fR s r):=rfl
theorem fR_pt{i:Nat}{r:List (Nat×V)}:fR s ((t,.pt i o)::r)=fRc i (s.get t) (fR s r):=rfl
theorem fR_i{k:IntKind}{n:Int}{r:List (Nat×V)}:fR s ((t,.i k n)::r)=fR s r:=rfl
theorem fR_b{x:Bool}{r:List (Nat×V)}:fR s ((t,.b x)::r)=fR s r:=rfl
theorem fR_s{l:List UInt8}{r:List (Nat×V)}:fR s ((t,.s l)::r)=fR s r:=rfl
theorem fR_l{cs:List V}{r:List (Nat×V)}:fR s ((t,.l z cs)::r)=fR s r:=rfl
theorem fR_g{cs:List V}{r:List (Nat×V)}:fR s ((t,.g cs)::r)=fR s r:=rfl
theorem fR_t{cs:List V}{r:List (Nat×V)}:fR s ((t,.t cs)::r)=fR s r:=rfl
theorem fR_nl{r:List (Nat×V)}:fR s ((t,.nl)::r)=fR s r:=rfl
theorem fR_c{v:Value}{r:List (Nat×V)}:fR s ((t,.c v)::r)=fR s r:=rfl
theorem fR_any{r:List (Nat×V)}:fR s ((t,.any)::r)=fR s r:=rfl
theorem fRc_ow{i n:Nat}:fRc i (.ow z j n) l=(i,j)::l:=rfl
theorem fRc_sl{i n:Nat}:fRc i (.sl z j o n) l=(i,j)::l:=rfl
theorem SE{i n:Nat}:Dh (.ow z i n)= .sl z i 0 n:=rfl
theorem SG{i n:Nat}:Dh (.sl z i o n)= .sl z i o n:=rfl
theorem sl_eq{i n z' f a c:Nat}:(V.sl z i o n=V.sl z' f a c)=(z=z'∧i=f∧o=a∧n=c):=sy
theorem fRc_pt{i:Nat}:fRc i (.pt j o) l=(i,j)::l:=rfl
def Sa0:= an @leA_mk<|an @fR_nil<|an @fR_ow<|an @fR_sl<|an @fR_pt<|an @fR_i<|an @fR_b<|an @fR_s<|an @fR_l<|an @fR_g<|an @fR_t<|an @fR_nl<|an @fR_c<|an @fR_any<|an @fRc_ow<|an @fRc_sl<|an @fRc_pt<|an @SE<|an @SG @sl_eq
theorem leV_f{s:St}{r:List (Nat×Nat)}{nx:Nat}{n:Int}:Ku s r nx t (.f n)=(s.get t= .f n):=rfl
theorem leV_z{s:St}{r:List (Nat×Nat)}{nx:Nat}{b:Int}:Ku s r nx t (.z a b)=(s.get t= .z a b):=rfl
theorem f_eq{b:Int}:(V.f a=V.f b)=(a=b):=sy
theorem z_eq{b e:Int}:(V.z a b=V.z c e)=(a=c∧b=e):=sy
theorem fR_f{n:Int}{r:List (Nat×V)}:fR s ((t,.f n)::r)=fR s r:=rfl
theorem fR_z{b:Int}{r:List (Nat×V)}:fR s ((t,.z a b)::r)=fR s r:=rfl
def Sa:= an Sa0 (an @leV_f<|an @leV_z<|an @f_eq<|an @z_eq<|an @fR_f @fR_z)
theorem aF{c:AC}(ms:List (Nat×Nat×Nat))(X:Type)(mk:X→St)(I:X→Prop)(μ:X→Nat)(f:X)(h0:I f)(g:St.uS ms s)(hle:(St.xU ms s).leA (mk f))
 (round:∀x,I x→∀Q':Ex→St→Prop,(∀s' a,I a→μ a<μ x→s'.leA (mk a)→Q' .normal s')→(∀i s',vm.FN F G i k Q s'→Q' (.exit i) s')→(∀s',Q .ret s'→Q' .ret s')→vm F G [.c c] Q' (mk x)):
 vm F G (.c (.loop c)::k) Q s:=
 NC ms X mk I μ f _ h0 g hle fun x j Q' u m l=>round x j Q' (fun s' a A z y=>u s' a _ A z y) m l
end
section
variable {F G:Nat→List V→V→Prop} {dr m:Bool} {d:Option Nat} {r:List AO} {s:St} {K:St→Prop} {ob:Nat→Option Ob}
theorem bxp_eq{v:V}{cs:List V}:bxp F G dr m ob e v cs d r s K=chk (okR ob v∧cs.all V.cell=true) (fin F G dr m d (.pt s.nx 0) ((s.nx,some {e,sz:=cs.length,cs:=cs,mu:=true,pg:=true})::jA ob v) r s K):=rfl
theorem purp_eq{p:PO}{vs us:List V}:purp F G dr m p vs us d r s K=chk (qN s.ob vs) (purq F G dr m (qZ p us) d r s K):=rfl
end
theorem XT{neg:Bool}{xs a:List V}:qZ (.eqs neg ks) [.g xs,.g a]=(Eg ks xs a).map fun t=> .b (if neg then !t else t):=rfl
theorem XU{cs:List V}:qZ .b2s [.l 1 cs]=(bytesOf cs).map .s:=rfl
theorem XV(h:l.length≤9223372036854775807):qZ (.s2b e) [.s l]=some (.l 1 (Bt l)):=by simp[qZ,h]
theorem XW:Eg [] [] []=some true:=rfl
variable{x:V}
theorem U3{k:Nat}{y:V}{q:List V}:Eg (k::ks) (x::r) (y::q)=both (Ws k x y) (Eg ks r q):=rfl
theorem both_ss{a b:Bool}:both (some a) (some b)=some (a&&b):=rfl
theorem eqc_i{b:Int}:Ws 1 (.i k a) (.i k b)=some (decide (a=b)):=by simp[Ws]
theorem eqc_b{a b:Bool}:Ws 0 (.b a) (.b b)=some (a==b):=rfl
theorem eqc_s{a b:List UInt8}:Ws 2 (.s a) (.s b)=some (a==b):=rfl
theorem BX(l:List UInt8):bytesOf (Bt l)=some l:=by
 induction l with
 |nil=>rfl
 |cons c r a=>
  have f:(c.toNat:Int)<256:=by have:=c.toNat_lt;omega
  show(match bytesOf (Bt r)with|some l=>if 0≤(c.toNat:Int)∧(c.toNat:Int)<256 then some (UInt8.ofNat (c.toNat:Int).toNat::l)else none|none=>none)=_;rw[a];simp only[];rw[au ⟨om,f⟩];simp
theorem He(l:List UInt8):(Bt l).length=l.length:=by simp[Bt]
theorem Bt_get(l:List UInt8)(i:Nat)(h:i<l.length):(Bt l).getD i .un= .i .u8 ((l.getD i 0).toNat:Int):=by simp[Bt,dN,h]
theorem Bt_nf(l:List UInt8):uh (Bt l)=false:=by
 induction l with
 |nil=>rfl
 |cons x r a=>simpa[Bt,uh,V.nf]using a
def Sx:= an @go_ext0<|an @go_ext1<|an @go_ext2<|an @clr_to<|an @UD<|an @UE<|an @go_asl0<|an @go_asl1<|an @go_asl2<|an @go_asl3<|an @go_cpy<|an @cpyp_sl<|an @cpyq_s<|an @SE<|an @SG<|an @clr_fr<|an @go_bx<|an @go_pur<|an @bxp_eq<|an @purp_eq<|an @purq_s<|an @XT<|an @XU<|an @XW<|an @U3<|an @both_ss<|an @eqc_i<|an @eqc_b<|an @eqc_s (an BX (an He Bt_nf))
theorem Sb:(∀{α β:Type} {f:α→β},List.map f []=[])∧(∀{α β:Type} {f:α→β} {a:α} {l:List α},List.map f (a::l)=f a::List.map f l)∧
 (∀{α β:Type} {f:α→β} {a:α},Option.map f (some a)=some (f a))∧(∀{α β:Type} {f:α→β},Option.map f none=none)∧
 (∀{α:Type} {p:α→Bool},List.all [] p=true)∧(∀{α:Type} {p:α→Bool} {a:α} {l:List α},List.all (a::l) p=(p a&&List.all l p))∧
 (∀{α β:Type} {f:α→List β},List.flatMap f []=[])∧(∀{α β:Type} {f:α→List β} {a:α} {l:List α},List.flatMap f (a::l)=f a++List.flatMap f l)∧
 (∀b:Bool,(b&&true)=b)∧(∀b:Bool,(true&&b)=b)∧(∀b:Bool,(b&&b)=b)∧(∀{α:Type} {a:α},List.replicate 0 a=[])∧(∀{α:Type},([]:List (List α)).flatten=[])∧
 (∀p:Prop,(p∧True)=p)∧(∀p:Prop,(True∧p)=p)∧((!true)=false)∧((!false)=true)∧((¬True)=False)∧((¬False)=True)∧
 (∀{α:Type} {a:List α},a++[]=a)∧(∀n:Nat,(n≤n)=True)∧(∀a:Int,- -a=a)∧
 (∀{α:Type} {a:List α},a.drop 0=a)∧(∀{α:Type} {a:α} {l:List α} {n:Nat},(a::l).drop (n+1)=l.drop n)∧(∀{α:Type} {n:Nat},([]:List α).drop n=[])∧
 (∀{α:Type} {a:List α},a.take 0=[])∧(∀{α:Type} {a:α} {l:List α} {n:Nat},(a::l).take (n+1)=a::l.take n)∧(∀{α:Type} {n:Nat},([]:List α).take n=[]):=
 ⟨fJ,dI,kZ _ _,Option.map_none _,jH,iI,List.flatMap_nil,sH,jf,jP,Bool.and_self,List.replicate_zero,List.flatten_nil,
   bW,bY,Bool.not_true,Bool.not_false,mZ,kP,qF _,fun n=>eq_true (aY n),Int.neg_neg,List.drop_zero,List.drop_succ_cons,List.drop_nil,List.take_zero,List.take_succ_cons,List.take_nil⟩
section
variable {F G:Nat→List V→V→Prop} {dr m:Bool} {d:Option Nat} {r:List AO} {s:St} {K:St→Prop}
variable{f:Nat}{args:List (Nat×V)}
theorem qc(res:V)(vs:List V)(g:F f vs res)(c:(args.map fun p=>rd s.ob p.1 p.2)=vs)
 (a:chk (qN s.ob (args.map fun p=>p.2)) (chk ((args.all fun p=>(rd s.ob p.1 p.2).aP)=true) (Ea F G dr m args res d r s K))):clp F G dr m f args d r s K:=
 XC res vs a.1 a.2.1 c g a.2.2
theorem clp_ofn(res:V)(vs:List V)(g:F f vs res)(c:(args.map fun p=>VV true s.ob p.1 p.2)=vs)
 (a:chk (qN s.ob (args.map fun p=>p.2)) (chk ((args.all fun p=>(rd s.ob p.1 p.2).aP)=true) (Ea F G dr m args res d r s K))):clp F G dr m f args d r s K:=
 ⟨⟨a.1,a.2.1⟩,true,res,c▸g,a.2.2⟩
end
section
variable (F G:Nat→List V→V→Prop) (dr m:Bool)
def clq(f:Nat)(vs:List V)(args:List (Nat×V))(d:Option Nat)(r:List AO)(s:St)(K:St→Prop):Prop:=
 ∃res,F f vs res∧chk (qN s.ob (args.map fun p=>p.2)) (chk ((args.all fun p=>(rd s.ob p.1 p.2).aP)=true) (Ea F G dr m args res d r s K))
end
section
variable {F G:Nat→List V→V→Prop} {dr m:Bool} {d:Option Nat} {r:List AO} {s:St} {K:St→Prop}
variable{f:Nat}{args:List (Nat×V)}
theorem fM(h:clq F G dr m f (args.map fun p=>rd s.ob p.1 p.2) args d r s K):clp F G dr m f args d r s K:=
 let ⟨res,c,a⟩:=h
 qc res _ c rfl a
theorem dE{vs:List V}{res:V}(c:F f vs res)(a:chk (qN s.ob (args.map fun p=>p.2)) (chk ((args.all fun p=>(rd s.ob p.1 p.2).aP)=true) (Ea F G dr m args res d r s K))):clq F G dr m f vs args d r s K:=⟨res,c,a⟩
end
section
variable {ob:Nat→Option Ob} {z:Nat}
theorem rdd_f{n:Int}:rd ob z (.f n)= .f n:=rfl
theorem rdd_z{b:Int}:rd ob z (.z a b)= .z a b:=rfl
theorem okR_f{n:Int}:okR ob (.f n)=True:=rfl
theorem okR_z{b:Int}:okR ob (.z a b)=True:=rfl
theorem frz_f{n:Int}:jA ob (.f n)=[]:=rfl
theorem frz_z{b:Int}:jA ob (.z a b)=[]:=rfl
theorem okA_f{n:Int}:V.aP (.f n)=true:=rfl
theorem okA_z{b:Int}:V.aP (.z a b)=true:=rfl
theorem rl_f{nx:Nat}{n:Int}:V.jE nx (.f n)=true:=rfl
theorem rl_z{nx:Nat}{b:Int}:V.jE nx (.z a b)=true:=rfl
theorem nf_f{n:Int}:V.nf (.f n)=true:=rfl
theorem nf_z{b:Int}:V.nf (.z a b)=true:=rfl
end
section
variable {F G:Nat→List V→V→Prop} {dr m:Bool} {d:Option Nat} {r:List AO} {s:St} {K:St→Prop}
variable{args:List (Nat×V)}
theorem clr_f{n:Int}:Ea F G dr m args (.f n) d r s K=fin F G dr m d (.f n) [] r s K:=rfl
theorem clr_z{b:Int}:Ea F G dr m args (.z a b) d r s K=fin F G dr m d (.z a b) [] r s K:=rfl
end
theorem XX{n:Int}(h:n.natAbs<9007199254740992):qZ (.nm .i2f) [.i k n]=some (.f n):=au h
theorem XY{n:Int}(h: -9223372036854775808≤n∧n≤9223372036854775807):qZ (.nm (.f2i .i64)) [.f n]=some (.i .i64 n):=au h
theorem XZ{b:Int}:qZ (.nm .mkz) [.f a,.f b]=some (.z a b):=rfl
theorem pure_re{b:Int}:qZ (.nm .re) [.z a b]=some (.f a):=rfl
theorem pure_im{b:Int}:qZ (.nm .im) [.z a b]=some (.f b):=rfl
theorem U4{b e:Int}(h:(a+c).natAbs<9007199254740992∧(b+e).natAbs<9007199254740992):qZ (.nm .zadd) [.z a b,.z c e]=some (.z (a+c) (b+e)):=au h
theorem U5{b e:Int}(h:(a-c).natAbs<9007199254740992∧(b-e).natAbs<9007199254740992):qZ (.nm .zsub) [.z a b,.z c e]=some (.z (a-c) (b-e)):=au h
theorem U6{b e:Int}(h:(a*c).natAbs+(b*e).natAbs<9007199254740992∧(a*e).natAbs+(b*c).natAbs<9007199254740992):qZ (.nm .zmul) [.z a b,.z c e]=some (.z (a*c-b*e) (a*e+b*c)):=au h
def Sg:= an @rdd_f<|an @rdd_z<|an @okR_f<|an @okR_z<|an @frz_f<|an @frz_z<|an @okA_f<|an @okA_z<|an @rl_f<|an @rl_z<|an @nf_f<|an @nf_z<|an @clr_f<|an @clr_z<|an @XX<|an @XY<|an @XZ<|an @pure_re<|an @pure_im<|an @U4<|an @U5<|an @U6 @PH
section
variable (F G:Nat→List V→V→Prop) (dr m:Bool)
def mcr(f k j:Nat)(o:Ob)(vs:List V)(args:List (Nat×V))(d:Option Nat)(r:List AO)(s:St)(K:St→Prop):Prop:=
 ∃res cs',F f vs (.mu res cs')∧chk (qN s.ob (args.map fun p=>p.2)) (chk ((args.all fun p=>(rd s.ob p.1 p.2).aP)=true) (chk (o.mu=true) (chk (o.pg=false) (chk (((args.eraseIdx k).all fun p=>(jA s.ob p.2).all fun q=>q.1 != j)=true)
  (chk (res.nX=false) (fin F G dr m d res ((j,some {o with cs:=cs'})::(args.eraseIdx k).flatMap fun p=>jA s.ob p.2) r s K))))))
end
section
variable {F G:Nat→List V→V→Prop} {dr m:Bool} {d:Option Nat} {r:List AO} {s:St} {K:St→Prop}
variable{f k j:Nat}{args:List (Nat×V)}
theorem mcp_ow{n:Nat}:mcp F G dr m f k (some (.ow z j n)) args d r s K=mcq F G dr m (s.ob j) f k j args d r s K:=rfl
variable{o:Ob}
theorem fO(h:mcr F G dr m f k j o ((args.map fun p=>rd s.ob p.1 p.2).set k (.o o.e o.sz o.cs)) args d r s K):mcq F G dr m (some o) f k j args d r s K:=by
 obtain⟨res,cs',A,z,y,u,l,g,c,a⟩:=h;exact⟨⟨z,y,u,l,g⟩,res,cs',A,c,a⟩
theorem dF{vs:List V}{res:V}{cs':List V}(a:F f vs (.mu res cs'))(h:chk (qN s.ob (args.map fun p=>p.2)) (chk ((args.all fun p=>(rd s.ob p.1 p.2).aP)=true) (chk (o.mu=true) (chk (o.pg=false) (chk (((args.eraseIdx k).all fun p=>(jA s.ob p.2).all fun q=>q.1 != j)=true)
 (chk (res.nX=false) (fin F G dr m d res ((j,some {o with cs:=cs'})::(args.eraseIdx k).flatMap fun p=>jA s.ob p.2) r s K))))))):mcr F G dr m f k j o vs args d r s K:=⟨res,cs',a,h⟩
end
theorem setV_0{v:V}:(v::r).set 0 x=x::r:=rfl
theorem setV_s{v:V}{n:Nat}:(v::r).set (n+1) x=v::r.set n x:=rfl
theorem eraV_0{v:Nat×V}{r:List (Nat×V)}:(v::r).eraseIdx 0=r:=rfl
theorem eraV_s{v:Nat×V}{r:List (Nat×V)}{n:Nat}:(v::r).eraseIdx (n+1)=v::r.eraseIdx n:=rfl
theorem getV_0{v:Nat×V}{r:List (Nat×V)}:(v::r)[0]? =some v:=rfl
theorem getV_s{v:Nat×V}{r:List (Nat×V)}{n:Nat}:(v::r)[n+1]? =r[n]? :=rfl
theorem hasL_t0:V.nX (.t [])=false:=rfl
theorem mapS{v:Nat×V}{g:Nat×V→V}:(some v).map g=some (g v):=rfl
variable{args:List V}
theorem Wj{sz:Nat}{cs:List V}:Xn args e sz cs=⟨eU 0 (CZ args),[(0,some ⟨e,sz,cs,true,false⟩)],1⟩:=rfl
section
variable {ob:Nat→Option Ob} {z:Nat}
variable{f:Nat}
theorem okR_fc{cs:List V}:okR ob (.fc f cs)=True:=rfl
theorem rd_fc{cs:List V}:rd ob z (.fc f cs)= .fc f cs:=rfl
theorem frz_fc{cs:List V}:jA ob (.fc f cs)=[]:=rfl
theorem okA_fc{cs:List V}:V.aP (.fc f cs)=true:=rfl
theorem rl_fc{nx:Nat}{cs:List V}:V.jE nx (.fc f cs)=true:=rfl
theorem nf_fc{cs:List V}:V.nf (.fc f cs)=true:=rfl
end
def Sm:=an @Xt<|an @mcp_ow<|an @setV_0<|an @setV_s<|an @eraV_0<|an @eraV_s<|an @getV_0<|an @getV_s (an hasL_t0 (an @mapS (an @okR_fc (an @rd_fc (an @frz_fc (an @okA_fc (an @rl_fc (an @nf_fc (an Bool.true_or (an Bool.or_true (an Bool.false_or Bool.or_false)))))))))))
theorem dw:xW args=⟨eU 0 args,[],0⟩:=rfl
def S0:= an Sm (an Sg (an Sw (an Sx (an Sb (an @XV<|an @qW<|an @decide_true<|an @decide_false<|an @chk_of @Int.cast_ofNat_Int)))))
end Go.Proofs.YtpopphdnlhihdaaGreatDoor.Ab
namespace Go.Proofs.YtpopphdnlhihdaaGreatDoor.Ab
open Go Go.RowKit
variable{e sz:Nat}
theorem U7{w:World}{B n:Nat}{v:Value}{xs:List Value}{cs:List V}{H:Nat→Prop}(c:0<sz)(m:w.ownsRow B e sz v n xs)(f:aB w H xs cs)(hm:n≤maxLen)(G:∀b,blk v=some b→H b):Rep0 w H v (.l sz cs):=by
 have z:=m;rcases m.2 with ⟨rfl,rfl⟩|⟨g,cap,cur,rfl,hb,I,A,F,E,htake⟩
 ·have C:cs.length=0:=by rw[←f.1,m.1,iT]
  exact .l none 0 0 sz cs (fun _=>undef) 0 0 c (by rw[C,iT]) (aG _) (aY _) (.inl (nz C)) (fun j y=>om) (fun j x u=>by
   have:=(iR.1 u).1;omega)
 ·refine .l _ n cap sz cs (fun j=>xs.getD j undef) g 0 c (by rw[←f.1,m.1]) hm A (.inr ⟨rfl,G g rfl⟩) (fun j y=>?_) (fun j x u=>?_)
  ·have a:j<xs.length:=by rw[f.1];exact y
   rw[eY,z.cellAt j (by rw[←m.1];exact a),bC a,dN,bC a];rfl
  ·have y:j<cs.length:=(iR.1 u).1;have a:j<xs.length:=by rw[f.1];exact y
   have:=f.2 j xs[j] x (bC a) u;rw[dN,bC a];exact this
theorem fC.frozen{P:Program}{J:World→Prop}{f:FuncId}{args:List V}{cs:List V}(h:fC P J f args (.o e sz cs)):fC P J f args (.l sz cs):= .of0 rfl fun w H vs L G M A=>by
 refine(h w H vs L G M A).mono ?_;rintro x Q ⟨v,rfl,hb,N,I,hres⟩;rcases hres with hres|⟨U,z,cs',n,xs,O,c,y,j,_,E,C⟩|⟨T,h,_⟩
 ·cases hres
 ·cases O;refine⟨v,rfl,hb,fun b=>N b∨blk v=some b,fun b u=>?_,.inl ?_⟩
  ·rcases u with a|a
   ·exact I b a
   ·rcases y.2 with ⟨rfl,_⟩|⟨g,cap,cur,rfl,m,F,_⟩
    ·cases a
    ·cases a;exact⟨m,(pW.1 F).1⟩
  ·exact U7 c y (j.mono (fun b h=>h.elim .inl fun h=> .inr (.inl h)) (fun _ _=>rfl)) E (fun b h=> .inr (.inr h))
 ·cases h
end Go.Proofs.YtpopphdnlhihdaaGreatDoor.Ab
namespace Go.Proofs.YtpopphdnlhihdaaGreatDoor.Ab
open Go Go.RowKit
theorem ai{a b:Prop}(x:a)(y:b):a∧b:=⟨x,y⟩
variable{p q:Prop}{P:Program}{J:World→Prop}{f:FuncId}{fn:Func}{c:Code}{ts:List Nat}
theorem pJ{B:Prop}(b:B)(k:q)(h:PLift B→PLift q→p:=by
 intro bz hq;repeat first|(refine hK _ ?_;clear hK K)|simp only[Sv,↓reduceIte,Nat.reduceEqDiff]|((first|refine ay (fun K hK=>?_)|refine ax (fun K hK=>?_)|refine ak (fun K hK=>?_)|refine fM ?_|(apply dE;assumption)|refine fO ?_|(apply dF;assumption)|(apply dG;assumption));simp(disch:=(first|omega|assumption)) only[S1,seval,-Int.reduceToNat,-List.reduceReplicate,aK.sb,aK.mut,aU,↓aJ,aV,aC,bz.down])
 exact hq.down):p:=h ⟨b⟩ ⟨k⟩
theorem prQ{B:Prop}(b:B)(k:q)(h:PLift B→PLift q→p:=by
 intro bz hq;repeat first|(refine hK _ ?_;clear hK K)|simp only[Sv,↓reduceIte,Nat.reduceEqDiff]|((first|refine ay (fun K hK=>?_)|refine ax (fun K hK=>?_)|refine ak (fun K hK=>?_));simp(disch:=(first|omega|assumption)) only[S1,seval,-Int.reduceToNat,-List.reduceReplicate,aK.sb,aK.mut,aU,↓aJ,aV,aC,bz.down])
 exact hq.down):p:=h ⟨b⟩ ⟨k⟩
theorem aX{B:Prop}(b:B)(k:q)(h:PLift B→PLift q→p:=by
 intro bz hq;repeat first|(refine hK _ ?_;clear hK K)|((first|refine ay (fun K hK=>?_)|refine ax (fun K hK=>?_)|refine ak (fun K hK=>?_));simp(disch:=(first|omega|assumption)) only[S1,seval,-Int.reduceToNat,-List.reduceReplicate,aK.sb,aK.mut,aU,↓aJ,aV,aC,bz.down];refine hK _ ?_;clear hK K)|simp only[Sv,↓reduceIte,Nat.reduceEqDiff]
 exact hq.down):p:=h ⟨b⟩ ⟨k⟩
theorem iw{B:Prop}(b:B)(k:q)(h:PLift B→PLift q→p:=by
 intro bz hq;simp(disch:=(first|omega|assumption)) only[S1,seval,-Int.reduceToNat,-List.reduceReplicate,aK.sb,aK.mut,aU,↓aJ,aV,aC,bz.down];exact hq.down):p:=h ⟨b⟩ ⟨k⟩
theorem rP{B:Prop}(b:B)(h:PLift B→p:=by
 intro bz;simp(disch:=(first|omega|assumption)) only[dY,iF,iK,jv,fA,V.aP,bW,bY,S1,seval,-Int.reduceToNat,-List.reduceReplicate,aK.sb,aK.mut,aU,↓aJ,aV,aC,bz.down]):p:=h ⟨b⟩
theorem X0{B:Prop}(b:B)(h:PLift B→p:=by
 intro bz;simp(disch:=(first|omega|assumption)) only[rU,iy,fG,qp,qw,lJ,qA,qB,iC,lK,lL,fH,eF,dY,iF,iK,jv,fA,V.aP,bW,bY,S1,seval,-Int.reduceToNat,-List.reduceReplicate,aK.sb,aK.mut,aU,↓aJ,aV,aC,bz.down]):p:=h ⟨b⟩
theorem BL{B:Prop}(b:B)(k:q)(h:PLift B→PLift q→p:=by
 intro bz hq;simp(disch:=(first|omega|assumption)) only[dY,iF,iK,jv,fA,V.aP,bW,bY,S1,seval,-Int.reduceToNat,-List.reduceReplicate,aK.sb,aK.mut,aU,↓aJ,aV,aC,bz.down];exact hq.down):p:=h ⟨b⟩ ⟨k⟩
theorem jO{B:Prop}(b:B)(h:PLift B→p:=by
 intro bz;refine pJ bz.down ?_;exact rP bz.down):p:=h ⟨b⟩
theorem lV{B:Prop}(b:B)(h:PLift B→p:=by
 intro bz;refine pJ bz.down ?_;exact X0 bz.down):p:=h ⟨b⟩
theorem wdO{B:Prop}(b:B)(k:q)(h:PLift B→PLift q→p:=by
 intro bz hq;refine pJ bz.down ?_;refine BL bz.down ?_;exact hq.down):p:=h ⟨b⟩ ⟨k⟩
theorem U8{B:Prop}(b:B)(h:PLift B→p:=by
 intro bz;refine prQ bz.down ?_;exact rP bz.down):p:=h ⟨b⟩
theorem pcQ{B:Prop}(b:B)(h:PLift B→p:=by
 intro bz;refine prQ bz.down ?_;exact X0 bz.down):p:=h ⟨b⟩
theorem OJ{B:Prop}(b:B)(h:PLift B→p:=by
 intro bz;first|rfl|(simp(disch:=(first|omega|assumption)) only[S1,seval,-Int.reduceToNat,-List.reduceReplicate,aK.sb,aK.mut,aU,↓aJ,aV,aC,bz.down])):p:=h ⟨b⟩
theorem scQ{B:Prop}(b:B)(h:PLift B→p:=by
 intro bz;simp(disch:=(first|omega|assumption)) only[S1,seval,-Int.reduceToNat,-List.reduceReplicate,aK.sb,aK.mut,aU,↓aJ,aV,aC,bz.down]):p:=h ⟨b⟩
theorem oL(h:p:=by
 simp(disch:=(first|omega|assumption)) only[Sl,Sa,Sw,↓reduceIte,Nat.reduceEqDiff,Nat.reduceLT,jH,iI,Nat.reduceBneDiff,Nat.reduceAdd,ku,ne_eq,reduceCtorEq,kP,mZ,jf,jP,bW,bY,and_self]):p:=h
theorem lC(h:p:=by
 simp(disch:=(first|omega|assumption)) only[Sl,Sa,Sw,↓reduceIte,Nat.reduceEqDiff,Nat.reduceLT,jH,iI,Nat.reduceBneDiff,Nat.reduceAdd,ku,ne_eq,reduceCtorEq,kP,mZ,jf,jP,bW,bY,and_self,m_];repeat' first|rfl|omega|(simp only[bZ,dX,dJ];done)|apply And.intro):p:=h
theorem tV{B:Prop}(b:B)(k:q)(h:PLift B→PLift q→p:=by
 intro bz hq;simp(disch:=(first|omega|assumption)) only[Sl,Sa,Sw,↓reduceIte,Nat.reduceEqDiff,Nat.reduceLT,jH,iI,Nat.reduceBneDiff,Nat.reduceAdd,ku,ne_eq,reduceCtorEq,kP,mZ,jf,jP,bW,bY,and_self,m_,bz.down];exact hq.down):p:=h ⟨b⟩ ⟨k⟩
theorem lcQ{B:Prop}(b:B)(h:PLift B→p:=by
 intro bz;simp(disch:=(first|omega|assumption)) only[Sl,Sa,Sw,↓reduceIte,Nat.reduceEqDiff,Nat.reduceLT,jH,iI,Nat.reduceBneDiff,Nat.reduceAdd,ku,ne_eq,reduceCtorEq,kP,mZ,jf,jP,bW,bY,and_self,m_,bz.down]):p:=h ⟨b⟩
theorem yw{F G:Nat→List V→V→Prop}{dr m:Bool}{d:Option Nat}{r:List AO}{s:St}{K:St→Prop}{f:Nat}{args:List (Nat×V)}{res:V}{vs:List V}{B:Prop}(b:B)(g:F f vs res)(c:Ea F G dr m args res d r s K)
 (h1:PLift B→qN s.ob (args.map fun p=>p.2):=by
   intro bz;exact scQ bz.down)
 (h2:PLift B→(args.all fun p=>(rd s.ob p.1 p.2).aP)=true:=by
   intro bz;exact scQ bz.down)
 (a:PLift B→(args.map fun p=>rd s.ob p.1 p.2)=vs:=by
   intro bz;exact OJ bz.down):clp F G dr m f args d r s K:=XC res vs (h1 ⟨b⟩) (h2 ⟨b⟩) (a ⟨b⟩) g c
def bG:=ai (@dJ V) (ai (@dJ Nat) (@dJ UInt8))
def zH:=ai (@dX V) (ai (@dX Nat) (@dX UInt8))
def C9:=ai (@uQ V) (ai (@uQ Nat) (@uQ UInt8))
theorem U9:(∀a:Int,(a=a)=True)∧(∀a:Nat,(a=a)=True)∧(∀a:List UInt8,(a=a)=True)∧(∀a:Bool,(a=a)=True):=⟨fun a=>eq_self a,fun a=>eq_self a,fun a=>eq_self a,fun a=>eq_self a⟩
theorem neqA:(∀a b:Int,(a≠b)=¬(a=b))∧(∀a b:Nat,(a≠b)=¬(a=b))∧(∀a b:Bool,(a≠b)=¬(a=b)):=⟨fun a b=>rfl,fun a b=>rfl,fun a b=>rfl⟩
def qm(d s:Nat):AO:=⟨some d,none,.mv (.t s)⟩
def qr(d:Nat)(o:aK):AO:=⟨some d,none,o⟩
def qn(o:aK):AO:=⟨none,none,o⟩
variable{args:List V}{r:V}
theorem Jq(tN:P.follows .mixedOrders=true)(l:∀w e w',J w→bT w e w'→J w')(m:P.funcs[f]? =some fn)(ac:AC)
 (k:vm (fC P J) (mG P) [.c ac] (fun e s=>match e with| .normal=>dY s ts r| .ret=>dY s ts r| .exit _=>False) (xW args))
 (hb:fn.body=some c:=by rfl) (u:jm P fn.ntmps c=some ac:=by kernel_rfl) (a:kR fn.results.toList=some ts:=by rfl) (g:Nat.ble args.length fn.ntmps=true:=by rfl) (j:r.G5=false:=by rfl):fC P J f args r:=
 fC.mk tN l m hb u a g j (gm k)
noncomputable def gc(P:Program)(fn:Func):AC:=match fn.body with
 |some c=>(match jm P fn.ntmps c with|some a=>a|none=> .skip)
 |none=> .skip
theorem f_(tN:P.follows .mixedOrders=true)(l:∀w e w',J w→bT w e w'→J w')(m:P.funcs[f]? =some fn)(k:q)
 (hb:fn.body=some c:=by rfl) (u:jm P fn.ntmps c=some (gc P fn):=by kernel_rfl) (a:kR fn.results.toList=some ts:=by rfl) (g:Nat.ble args.length fn.ntmps=true:=by rfl) (j:r.G5=false:=by rfl)
 (h:PLift q→vm (fC P J) (mG P) [.c (gc P fn)] (fun e s=>match e with| .normal=>dY s ts r| .ret=>dY s ts r| .exit _=>False) (xW args):=by
   intro hq;conv=>arg 3;reduce
   simp only[dw,eU,Int.reduceOfNat,Int.reduceNegSucc];exact hq.down):fC P J f args r:=
 fC.mk tN l m hb u a g j (gm (h ⟨k⟩))
theorem kf(h:p:=by kernel_rfl):p:=h
