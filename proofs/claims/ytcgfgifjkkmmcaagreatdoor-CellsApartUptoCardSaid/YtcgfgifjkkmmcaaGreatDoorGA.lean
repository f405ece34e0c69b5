import Derived.Laws.ComplexArith
import Derived.WalkKit
import Derived.Orders
import Derived.WalkSpells
import Derived.Lib.SliceRun
set_option linter.all false
namespace Go.Proofs.YtcgfgifjkkmmcaaGreatDoor
theorem an{a b:Prop}(x:a)(y:b):a∧b:=⟨x,y⟩
theorem om{p:Prop}(h:p:=by omega):p:=h
theorem dc{p:Prop}(h:p:=by decide):p:=h
theorem sy{p:Prop}(h:p:=by simp):p:=h
end Go.Proofs.YtcgfgifjkkmmcaaGreatDoor
namespace Go.Proofs.YtcgfgifjkkmmcaaGreatDoor.Ab
open Go Ieee
def sgn(s:Bool)(m:Nat):Int:=if s then -(m:Int)else(m:Int)
def FV(s:Bool)(m:Nat)(e n:Int):Prop:=sgn s m*2^e.toNat=n*2^(-e).toNat
def FI(w:Nat)(n:Int):Prop:=∃s m e,double.read w= .number s m e∧FV s m e n
theorem two_pos(k:Nat):(0:Int)<2^k:=Int.pow_pos dc
theorem pc{a b:Int}{k:Nat}(h:a*2^k=b*2^k):a=b:=Int.eq_of_mul_eq_mul_right (Int.ne_of_gt (two_pos k)) h
theorem ZM{s:Bool}{m:Nat}{e n:Int}(h:FV s m e n):FV (!s) m e (-n):=by
 unfold FV at*
 rw[show sgn (!s) m= -(sgn s m)from by unfold sgn;cases s<;>simp,Int.neg_mul,Int.neg_mul,h]
def jY(w:Nat):Nat:=w ^^^ 2^63
theorem OW(w:Nat):double.read (jY w)=(double.read w).opposite:=by
 unfold Format.read;dsimp only;have hsw:double.signWeight=2^63:=by decide+kernel
 have e1:jY w%2^63=w%2^63:=by
  unfold jY;rw[Nat.xor_mod_two_pow,Nat.mod_self,Nat.xor_zero]
 have e2:(jY w/2^63%2==1)=!(w/2^63%2==1):=by
  unfold jY;rw[Nat.xor_div_two_pow,Nat.div_self dc];have:=Nat.xor_mod_two_pow (a:=w/2^63) (b:=1) (n:=1);rw[Nat.pow_one]at this;rw[this];rcases Nat.mod_two_eq_zero_or_one (w/2^63)with h|h<;>rw[h]<;>decide
 rw[hsw,e1,e2];split
 ·rfl
 ·split
  ·rfl
  ·split<;>rfl
theorem ZN{w:Nat}{n:Int}(h:FI w n):FI (jY w) (-n):=by
 obtain⟨s,m,e,h1,h2⟩:=h;exact⟨!s,m,e,by rw[OW,h1];rfl,ZM h2⟩
theorem OX:FI 0 0:=⟨false,0,double.leastPlace,by decide+kernel,by unfold FV sgn;simp⟩
theorem ZP:FI 4607182418800017408 1:=⟨false,4503599627370496,-52,by decide+kernel,by unfold FV sgn;decide+kernel⟩
end Go.Proofs.YtcgfgifjkkmmcaaGreatDoor.Ab
namespace Go.Proofs.YtcgfgifjkkmmcaaGreatDoor.Ab
open Go Go.RowKit
inductive V where
 |i (k:IntKind) (n:Int)
 |b (x:Bool)
 |s (l:List UInt8)
 |l (sz:Nat) (cs:List V)
 |o (e sz:Nat) (cs:List V)
 |g (cs:List V)
 |t (vs:List V)
 |ip (cs:List V) (k:Nat)
 |ow (sz id n:Nat)
 |sl (sz id off n:Nat)
 |pt (id off:Nat)
 |nl
 |c (v:Value)
 |un
 |any
 |fr (x:V)
 |f (n:Int)
 |z (re im:Int)
 |mu (x:V) (cs:List V)
 |tw (sz id n:Nat) (rs:List V)
 |to (e sz:Nat) (cs rs:List V)
 |fc (f:Nat) (cs:List V)
 |kn (v:Value) (x:V)
 deriving Inhabited
def V.cell:V→Bool
 | .i _ _| .b _| .s _| .l _ _=>true
 | .c v=>v.oneCell'
 | .kn v _=>v.oneCell'
 |_=>false
def V.iI:V→Bool
 | .i _ _| .b _| .s _| .c _| .un| .any| .nl| .f _| .z _ _=>false
 | .o _ _ cs=>cs.any fun x=>match x with| .i _ _| .b _| .s _=>false|_=>true
 | .g cs=>cs.any fun x=>match x with| .i _ _| .b _| .s _=>false|_=>true
 | .t cs=>cs.any fun x=>match x with| .i _ _| .b _| .s _=>false|_=>true
 |_=>true
def blk:Value→Option Nat
 | .slice (some a) _ _=>some a.block
 | .pointer (some a)=>some a.block
 |_=>none
inductive Rep0(w:World)(H:Nat→Prop):Value→V→Prop
 |i (k:IntKind) (n:Int):Rep0 w H (.int k n) (.i k n)
 |b (x:Bool):Rep0 w H (.bool x) (.b x)
 |s (l:List UInt8):Rep0 w H (.string ⟨l.toArray⟩) (.s l)
 |l (a:Option Addr) (n cap sz:Nat) (cs:List V) (f:Nat→Value) (b o:Nat) (hsz:0<sz) (hn:cs.length=n*sz) (hm:n≤maxLen) (hcp:n≤cap)
   (ha:cs=[]∨(a=some ⟨b,o,none⟩∧H b)) (hc:∀j,j<cs.length→w.cell? ⟨b,o+j,none⟩=some (f j)) (hr:∀(j:Nat) (x:V),cs[j]? =some x→Rep0 w H (f j) x):
   Rep0 w H (.slice a n cap) (.l sz cs)
 |g (vs:List Value) (cs:List V) (hn:vs.length=cs.length) (hr:∀(j:Nat) (v:Value) (x:V),vs[j]? =some v→cs[j]? =some x→Rep0 w H v x):Rep0 w H (.agg vs.toArray) (.g cs)
 |t (vs:List Value) (cs:List V) (hn:vs.length=cs.length) (hr:∀(j:Nat) (v:Value) (x:V),vs[j]? =some v→cs[j]? =some x→Rep0 w H v x):Rep0 w H (.tuple vs.toArray) (.t cs)
 |ip (cs:List V) (k:Nat) (f:Nat→Value) (b o:Nat) (hb:H b) (hc:∀j,j<cs.length→w.cell? ⟨b,o+j,none⟩=some (f j)) (hr:∀(j:Nat) (x:V),cs[j]? =some x→Rep0 w H (f j) x):
   Rep0 w H (.pointer (some ⟨b,o+k,none⟩)) (.ip cs k)
 |nl:Rep0 w H (.slice none 0 0) .nl
 |c (v:Value):Rep0 w H v (.c v)
 |un:Rep0 w H undef .un
 |any (v:Value):Rep0 w H v .any
 |f (q:Nat) (n:Int) (h:FI q n):Rep0 w H (.float .f64 q) (.f n)
 |z (p q:Nat) (a b:Int) (h:FI p a) (k:FI q b):Rep0 w H (.complex .f64 p q) (.z a b)
 |fc (fn:Nat) (cs:List V) (f:Nat→Value) (b:Nat) (hb:H b) (hc:∀j,j<cs.length→w.cell? ⟨b,0+j,none⟩=some (f j)) (hr:∀(j:Nat) (x:V),cs[j]? =some x→Rep0 w H (f j) x):
   Rep0 w H (.func (.func fn) #[] #[.pointer (some ⟨b,0,none⟩)]) (.fc fn cs)
 |kn (v:Value) (x:V) (h:Rep0 w H v x):Rep0 w H v (.kn v x)
inductive Rep(w:World)(H:Nat→Prop)(ov:Nat→Option Value):Value→V→Prop
 |base {v:Value} {x:V} (h:Rep0 w H v x):Rep w H ov v x
 |ow (sz id n cap:Nat) (a:Option Addr) (hm:n≤maxLen) (hcp:n≤cap) (ha:n=0∨∃b,a=some ⟨b,0,none⟩) (ho:ov id=some (.slice a n cap)):Rep w H ov (.slice a n cap) (.ow sz id n)
 |sl (a:Option Addr) (sz id off n cap:Nat) (v:Value) (hm:n≤maxLen) (hcp:n≤cap) (ho:ov id=some v) (ha:n=0∨∃b,blk v=some b∧a=some ⟨b,off,none⟩) (hz:off=0→0<sz→∃m,v= .slice a m cap):Rep w H ov (.slice a n cap) (.sl sz id off n)
 |pt (id off b:Nat) (v:Value) (ho:ov id=some v) (hb:blk v=some b):Rep w H ov (.pointer (some ⟨b,off,none⟩)) (.pt id off)
 |tw (sz id n cap:Nat) (a:Option Addr) (vs:List Value) (rs:List V) (hm:n≤maxLen) (hcp:n≤cap) (ha:n=0∨∃b,a=some ⟨b,0,none⟩) (ho:ov id=some (.slice a n cap)) (hr:vs.length=rs.length∧∀(j:Nat) (v:Value) (x:V),vs[j]? =some v→rs[j]? =some x→Rep0 w H v x):
   Rep w H ov (.tuple (.slice a n cap::vs).toArray) (.tw sz id n rs)
structure Ext(w:World)(H:Nat→Prop)(ov:Nat→Option Value)(w':World)(H':Nat→Prop)(bJ:Nat→Option Value):Prop where
 hH:∀b,H b→H' b
 hw:∀b,H b→w'.heap[b]? =w.heap[b]?
 ho:∀i v,ov i=some v→bJ i=some v
theorem Ext.refl(w:World)(H:Nat→Prop)(ov:Nat→Option Value):Ext w H ov w H ov:=⟨fun _ h=>h,fun _ _=>rfl,fun _ _ h=>h⟩
theorem Ext.trans{w w1 w2:World}{H H1 H2:Nat→Prop}{ov ov1 ov2:Nat→Option Value}(h:Ext w H ov w1 H1 ov1)(k:Ext w1 H1 ov1 w2 H2 ov2):Ext w H ov w2 H2 ov2:=
 ⟨fun b hb=>k.hH b (h.hH b hb),fun b hb=>(k.hw b (h.hH b hb)).trans (h.hw b hb),fun i v hi=>k.ho i v (h.ho i v hi)⟩
theorem Rep0.mono{w w':World}{H H':Nat→Prop}(eH:∀b,H b→H' b)(ew:∀b,H b→w'.heap[b]? =w.heap[b]?){v:Value}{x:V}(h:Rep0 w H v x):Rep0 w' H' v x:=by
 induction h with
 |i k n=>exact .i k n
 |b x=>exact .b x
 |s l=>exact .s l
 |l a n cap sz cs f b o hsz hn hm hcp ha hc hr ih=>
  refine .l a n cap sz cs f b o hsz hn hm hcp (ha.imp id fun h=>⟨h.1,eH _ h.2⟩) (fun j hj=>?_) (fun j x hx=>ih j x hx);rcases ha with rfl|⟨rfl,hb⟩
  ·simp at hj
  ·exact(World.cell?_of_block (a:=⟨b,o+j,none⟩) (ew b hb)).trans (hc j hj)
 |g vs cs hn hr ih=>exact .g vs cs hn fun j v x h1 h2=>ih j v x h1 h2
 |t vs cs hn hr ih=>exact .t vs cs hn fun j v x h1 h2=>ih j v x h1 h2
 |ip cs k f b o hb hc hr ih=>
  exact .ip cs k f b o (eH _ hb) (fun j hj=>(World.cell?_of_block (a:=⟨b,o+j,none⟩) (ew b hb)).trans (hc j hj)) fun j x hx=>ih j x hx
 |nl=>exact .nl
 |c v=>exact .c v
 |un=>exact .un
 |any v=>exact .any v
 |f q n h=>exact .f q n h
 |z p q a b h k=>exact .z p q a b h k
 |fc fn cs f b hb hc hr ih=>
  exact .fc fn cs f b (eH _ hb) (fun j hj=>(World.cell?_of_block (a:=⟨b,0+j,none⟩) (ew b hb)).trans (hc j hj)) fun j x hx=>ih j x hx
 |kn v x h ih=>exact .kn v x ih
theorem Rep.mono{w w':World}{H H':Nat→Prop}{ov bJ:Nat→Option Value}(e:Ext w H ov w' H' bJ){v:Value}{x:V}(h:Rep w H ov v x):Rep w' H' bJ v x:=by
 cases h with
 |base h=>exact .base (h.mono e.hH e.hw)
 |ow sz id n cap a hm hcp ha ho=>exact .ow sz id n cap a hm hcp ha (e.ho _ _ ho)
 |sl a sz id off n cap v hm hcp ho ha hz=>exact .sl a sz id off n cap v hm hcp (e.ho _ _ ho) ha hz
 |pt id off b v ho hb=>exact .pt id off b v (e.ho _ _ ho) hb
 |tw sz id n cap a vs rs hm hcp ha ho hr=>exact .tw sz id n cap a vs rs hm hcp ha (e.ho _ _ ho) ⟨hr.1,fun j v x h1 h2=>(hr.2 j v x h1 h2).mono e.hH e.hw⟩
section
variable {w:World} {H:Nat→Prop} {ov:Nat→Option Value}
theorem Rep.i(k:IntKind)(n:Int):Rep w H ov (.int k n) (.i k n):= .base (.i k n)
theorem Rep.b(x:Bool):Rep w H ov (.bool x) (.b x):= .base (.b x)
theorem Rep.s(l:List UInt8):Rep w H ov (.string ⟨l.toArray⟩) (.s l):= .base (.s l)
theorem Rep.nl:Rep w H ov (.slice none 0 0) .nl:= .base .nl
theorem Rep.any(v:Value):Rep w H ov v .any:= .base (.any v)
theorem Rep.un:Rep w H ov undef .un:= .base .un
theorem Rep.up{v:Value}{x:V}(h:Rep0 w H v x):Rep w H ov v x:= .base h
theorem Rep.down{v:Value}{x:V}(h:Rep w H ov v x)(hx:x.cell=true):Rep0 w H v x:=by
 cases h<;>first|assumption|(simp[V.cell]at hx)
end
theorem Rep0.oneCell{w:World}{H:Nat→Prop}{v:Value}{x:V}(h:Rep0 w H v x)(hx:x.cell=true):v.oneCell'=true:=by
 cases h<;>first|rfl|(simp[V.cell]at hx;done)|exact hx
structure Ob where
 e:Nat
 sz:Nat
 cs:List V
 mu:Bool
 jl:Bool
 deriving Inhabited
def aj(w:World)(H:Nat→Prop)(xs:List Value)(cs:List V):Prop:=
 xs.length=cs.length∧∀(j:Nat) (v:Value) (x:V),xs[j]? =some v→cs[j]? =some x→Rep0 w H v x
theorem aj.mono{w w':World}{H H':Nat→Prop}(eH:∀b,H b→H' b)(ew:∀b,H b→w'.heap[b]? =w.heap[b]?){xs:List Value}{cs:List V}(h:aj w H xs cs):aj w' H' xs cs:=
 ⟨h.1,fun j v x h1 h2=>(h.2 j v x h1 h2).mono eH ew⟩
structure HS where
 h:Nat→Prop
 e:Nat→Prop
 kp:List (Nat×Value)
def Ow(w0:World)(H0:HS)(b:Nat):Prop:=w0.heap.size≤b∨H0.e b
structure aI(w0:World)(e:Nat→Prop)(w:World):Prop where
 os:w.os=w0.os
 tape:w.tape=w0.tape
 output:w.output=w0.output
 size:w0.heap.size≤w.heap.size
 block:∀k,k<w0.heap.size→¬e k→w.heap[k]? =w0.heap[k]?
theorem aI.refl(w:World)(e:Nat→Prop):aI w e w:=⟨rfl,rfl,rfl,Nat.le_refl _,fun _ _ _=>rfl⟩
theorem aI.after{w0 w w':World}{e:Nat→Prop}(h:aI w0 e w)(k:Below w.heap.size w w'):aI w0 e w':=
 ⟨k.os.trans h.os,k.tape.trans h.tape,k.output.trans h.output,Nat.le_trans h.size k.size,fun i hi he=>(k.block i (Nat.lt_of_lt_of_le hi h.size)).trans (h.block i hi he)⟩
theorem aI.drew{w0 w:World}{e:Nat→Prop}(h:aI w0 e w):aI w0 e w.drew:=⟨h.os,h.tape,h.output,h.size,h.block⟩
theorem aI.chg{w0 w w':World}{H0:HS}(h:aI w0 H0.e w){b:Nat}(hb:Ow w0 H0 b)(ho:w'.os=w.os)(ht:w'.tape=w.tape)(hu:w'.output=w.output)(hs:w.heap.size≤w'.heap.size)(hk:∀k,k<w.heap.size→k≠b→w'.heap[k]? =w.heap[k]?):aI w0 H0.e w':=
 ⟨ho.trans h.os,ht.trans h.tape,hu.trans h.output,Nat.le_trans h.size hs,fun i hi he=>(hk i (Nat.lt_of_lt_of_le hi h.size) (fun e=>by
   subst e;rcases hb with hb|hb
   ·omega
   ·exact he hb)).trans (h.block i hi he)⟩
theorem aI.grown{w0 w w':World}{H0:HS}(h:aI w0 H0.e w){row:Option Nat}(hg:w.grownBy w' row)(hr:∀k,row=some k→Ow w0 H0 k):aI w0 H0.e w':=
 ⟨hg.os.trans h.os,hg.tape.trans h.tape,hg.output.trans h.output,Nat.le_trans h.size hg.size,fun i hi he=>(hg.block i (Nat.lt_of_lt_of_le hi h.size) (fun e=>by
   rcases hr i e.symm with hb|hb
   ·omega
   ·exact he hb)).trans (h.block i hi he)⟩
theorem aI.via{w0 w w':World}{H0:HS}{e:Nat→Prop}(h:aI w0 H0.e w)(k:aI w e w')(he:∀b,e b→Ow w0 H0 b):aI w0 H0.e w':=
 ⟨k.os.trans h.os,k.tape.trans h.tape,k.output.trans h.output,Nat.le_trans h.size k.size,fun i hi hn=>(k.block i (Nat.lt_of_lt_of_le hi h.size) (fun e=>by
   rcases he i e with hb|hb
   ·omega
   ·exact hn hb)).trans (h.block i hi hn)⟩
theorem aI.below{w0 w:World}{e:Nat→Prop}(h:aI w0 e w)(he:∀b,¬e b):Below w0.heap.size w0 w:=⟨h.os,h.tape,h.output,h.size,fun k hk=>h.block k hk (he k)⟩
def ZQ(e:Nat):Bool:=e==37||e==41
def keepT(t:Nat):Bool:=t==35||t==38||t==39
def isRef:V→Bool
 | .ow _ _ _| .sl _ _ _ _| .nl=>true
 |_=>false
def vH(o:Ob):Bool:=o.jl&&ZQ o.e
theorem OY:(∀(e sz:Nat) (cs:List V) (mu:Bool),(vH ⟨e,sz,cs,mu,false⟩=false)=True)∧(∀(e sz:Nat) (cs:List V) (mu:Bool),(vH ⟨e,sz,cs,mu,true⟩=false)=((e=37)=False∧(e=41)=False))∧(∀(e sz:Nat) (cs:List V) (mu:Bool),(vH ⟨e,sz,cs,mu,true⟩=true)=(e=37∨e=41)):=
 ⟨fun e sz cs mu=>eq_true rfl,fun e sz cs mu=>by unfold vH ZQ;simp,fun e sz cs mu=>by unfold vH ZQ;simp⟩
def U_:Option Ob→Prop
 |some o=>vH o=false
 |none=>True
theorem ZR{o:Ob}:U_ (some o)=(vH o=false):=rfl
theorem ZT:U_ none=True:=rfl
def jU(w:World)(H:Nat→Prop)(ov:Nat→Option Value)(xs:List Value)(cs:List V):Prop:=
 xs.length=cs.length∧∀(j:Nat) (v:Value) (x:V),xs[j]? =some v→cs[j]? =some x→Rep w H ov v x
theorem jU.mono{w w':World}{H H':Nat→Prop}{ov bJ:Nat→Option Value}(e:Ext w H ov w' H' bJ){xs:List Value}{cs:List V}(h:jU w H ov xs cs):jU w' H' bJ xs cs:=
 ⟨h.1,fun j v x h1 h2=>(h.2 j v x h1 h2).mono e⟩
theorem aj.cs{w:World}{H:Nat→Prop}{ov:Nat→Option Value}{xs:List Value}{cs:List V}(h:aj w H xs cs):jU w H ov xs cs:=⟨h.1,fun j v x h1 h2=> .base (h.2 j v x h1 h2)⟩
theorem jU.all{w:World}{H:Nat→Prop}{ov:Nat→Option Value}{xs:List Value}{cs:List V}(h:jU w H ov xs cs)(hc:∀x,x∈cs→x.cell=true):aj w H xs cs:=
 ⟨h.1,fun j v x h1 h2=>(h.2 j v x h1 h2).down (hc x (List.mem_of_getElem? h2))⟩
structure dU(w:World)(H:Nat→Prop)(O:Nat→Prop)(ov:Nat→Option Value)(v:Value)(ob:Ob):Prop where
 w_:∀x,x∈ob.cs→x.cell=true∨(vH ob=true∧isRef x=true)
 ow:∀b,blk v=some b→O b
 fz:∀b,blk v=some b→(H b↔ob.mu=false)
 bd:(ob.jl=true∧((∃b cur,v= .pointer (some ⟨b,0,none⟩)∧0≤b∧w.heap[b]? =some (.cells cur ob.e (0,0))∧jU w H ov cur.toList ob.cs)∨
     (0<ob.sz∧∃n xs,w.ownsRow 0 ob.e ob.sz v n xs∧jU w H ov xs ob.cs∧n≤maxLen)))∨
  (ob.jl=false∧0<ob.sz∧∃n xs,w.ownsRow 0 ob.e ob.sz v n xs∧aj w H xs ob.cs∧n≤maxLen)
def tabs:Nat→Option (List V):=fun _=>none
def TJ(w:World)(H:Nat→Prop):Prop:=∀g cs,tabs g=some cs→H g∧∀(j:Nat) (x:V),cs[j]? =some x→∃v,w.cell? ⟨g,j,none⟩=some v∧Rep0 w H v x
theorem TJ.mono{w w':World}{H H':Nat→Prop}(h:TJ w H)(eH:∀b,H b→H' b)(ew:∀b,H b→w'.heap[b]? =w.heap[b]?):TJ w' H':=fun g cs hg=>by
 obtain⟨h1,h2⟩:=h g cs hg;refine⟨eH g h1,fun j x hx=>?_⟩;obtain⟨v,h3,h4⟩:=h2 j x hx;exact⟨v,(World.cell?_of_block (a:=⟨g,j,none⟩) (ew g h1)).trans h3,h4.mono eH ew⟩
theorem TJ.rep{w:World}{H:Nat→Prop}(h:TJ w H){g:Nat}{cs:List V}(hg:tabs g=some cs):Rep0 w H (.pointer (some ⟨g,0,none⟩)) (.ip cs 0):=by
 obtain⟨h1,h2⟩:=h g cs hg;refine .ip cs 0 (fun j=>(w.cell? ⟨g,0+j,none⟩).getD undef) g 0 h1 (fun j hj=>?_) (fun j x hx=>?_)
 ·obtain⟨v,h3,_⟩:=h2 j cs[j] (List.getElem?_eq_getElem hj);rw[Nat.zero_add,h3];rfl
 ·obtain⟨v,h3,h4⟩:=h2 j x hx;simp only[Nat.zero_add,h3,Option.getD_some];exact h4
structure Mem(w0:World)(H0:HS)(w:World)(H:Nat→Prop)(ov:Nat→Option Value)(ob:Nat→Option Ob):Prop where
 bel:aI w0 H0.e w
 tj:TJ w H
 uk:∀b,H b→b<w.heap.size
 low:∀b,H b→b<w0.heap.size→H0.h b∨H0.e b
 obj:∀id o,ob id=some o→∃v,ov id=some v∧dU w H (Ow w0 H0) ov v o
 sep:∀i j oi oj vi vj b,i≠j→ob i=some oi→ob j=some oj→ov i=some vi→ov j=some vj→blk vi=some b→blk vj≠some b
theorem dU.cl{w:World}{H:Nat→Prop}{O:Nat→Prop}{ov:Nat→Option Value}{v:Value}{ob:Ob}(h:dU w H O ov v ob)(hr:vH ob=false):∀x,x∈ob.cs→x.cell=true:=fun x hx=>by
 rcases h.w_ x hx with h1|⟨h1,_⟩
 ·exact h1
 ·rw[hr]at h1;cases h1
theorem dU.any{w:World}{H:Nat→Prop}{O:Nat→Prop}{ov:Nat→Option Value}{v:Value}{ob:Ob}(h:dU w H O ov v ob)(hr:vH ob=false)(bJ:Nat→Option Value):dU w H O bJ v ob:=by
 refine⟨h.w_,h.ow,h.fz,h.bd.imp (fun⟨hv,hx⟩=>⟨hv,hx.imp (fun⟨b,cur,e,hB,hh,hra⟩=>⟨b,cur,e,hB,hh,(hra.all (h.cl hr)).cs⟩) fun⟨hsz,n,xs,hown,hra,hm⟩=>⟨hsz,n,xs,hown,(hra.all (h.cl hr)).cs,hm⟩⟩) id⟩
theorem nY{ob:Ob}(h:ob.jl=false):vH ob=false:=by unfold vH;rw[h];rfl
theorem dU.cell{w:World}{H:Nat→Prop}{O:Nat→Prop}{ov:Nat→Option Value}{v:Value}{ob:Ob}(h:dU w H O ov v ob){j:Nat}{x:V}(hx:ob.cs[j]? =some x):
 ∃b u,blk v=some b∧w.cell? ⟨b,j,none⟩=some u∧w.frozen? ⟨b,j,none⟩=false∧Rep w H ov u x∧O b:=by
 rcases h.bd with ⟨_,⟨b,cur,rfl,hB,hh,hr⟩|⟨hsz,n,xs,hown,hr,_⟩⟩|⟨_,hsz,n,xs,hown,hr0,_⟩
 ·have hj:j<cur.toList.length:=by have:=(List.getElem?_eq_some_iff.1 hx).1;have:=hr.1;omega
  refine⟨b,cur.toList[j],rfl,?_,frozen_of_row w b j cur ob.e hh,hr.2 j _ x (List.getElem?_eq_getElem hj) hx,h.ow b rfl⟩;rw[cell_of_row w b j cur ob.e (0,0) hh];simp at hj ⊢
 ·have hj:j<xs.length:=by have:=(List.getElem?_eq_some_iff.1 hx).1;have:=hr.1;omega
  have hown':=hown;rcases hown.2 with ⟨rfl,rfl⟩|⟨g,cap,cur,rfl,hb,hh,hnc,hcm,hcs,htake⟩
  ·have:=hown.1;simp at this;subst this;simp at hj
  ·refine⟨g,xs[j],rfl,?_,hown'.frozenAt j,hr.2 j _ x (List.getElem?_eq_getElem hj) hx,h.ow g rfl⟩;rw[hown'.cellAt j (by rw[←hown.1];exact hj),List.getElem?_eq_getElem hj]
 ·have hr:jU w H ov xs ob.cs:=hr0.cs;have hj:j<xs.length:=by have:=(List.getElem?_eq_some_iff.1 hx).1;have:=hr.1;omega
  have hown':=hown;rcases hown.2 with ⟨rfl,rfl⟩|⟨g,cap,cur,rfl,hb,hh,hnc,hcm,hcs,htake⟩
  ·have:=hown.1;simp at this;subst this;simp at hj
  ·refine⟨g,xs[j],rfl,?_,hown'.frozenAt j,hr.2 j _ x (List.getElem?_eq_getElem hj) hx,h.ow g rfl⟩;rw[hown'.cellAt j (by rw[←hown.1];exact hj),List.getElem?_eq_getElem hj]
theorem dU.mono{w w':World}{H H':Nat→Prop}{O:Nat→Prop}{ov bJ:Nat→Option Value}{v:Value}{ob:Ob}(h:dU w H O ov v ob)(ho:∀i v,ov i=some v→bJ i=some v)(hH:∀b,H b→H' b)(hw:∀b,H b→w'.heap[b]? =w.heap[b]?)
 (hb:∀b,blk v=some b→w'.heap[b]? =w.heap[b]?) (hf:∀b,blk v=some b→H' b→H b):dU w' H' O bJ v ob:=by
 refine⟨h.w_,h.ow,fun b hb=>⟨fun h'=>(h.fz b hb).1 (hf b hb h'),fun h'=>hH b ((h.fz b hb).2 h')⟩,?_⟩
 have e:Ext w H ov w' H' bJ:=⟨hH,hw,ho⟩
 rcases h.bd with ⟨hv,⟨b,cur,rfl,hB,hh,hr⟩|⟨hsz,n,xs,hown,hr,hm⟩⟩|⟨hv,hsz,n,xs,hown,hr,hm⟩
 ·exact .inl ⟨hv,.inl ⟨b,cur,rfl,hB,(hb b rfl).trans hh,hr.mono e⟩⟩
 ·refine .inl ⟨hv,.inr ⟨hsz,n,xs,⟨hown.1,?_⟩,hr.mono e,hm⟩⟩;rcases hown.2 with hn|⟨g,cap,cur,rfl,hbg,hh,rest⟩
  ·exact .inl hn
  ·exact .inr ⟨g,cap,cur,rfl,hbg,(hb g rfl).trans hh,rest⟩
 ·refine .inr ⟨hv,hsz,n,xs,⟨hown.1,?_⟩,hr.mono hH hw,hm⟩;rcases hown.2 with hn|⟨g,cap,cur,rfl,hbg,hh,rest⟩
  ·exact .inl hn
  ·exact .inr ⟨g,cap,cur,rfl,hbg,(hb g rfl).trans hh,rest⟩
def lk:List (Nat×V)→Nat→V
 |[],_=> .any
 |(k,v)::r,t=>if k=t then v else lk r t
def lo:List (Nat×Option Ob)→Nat→Option Ob
 |[],_=>none
 |(k,v)::r,t=>if k=t then v else lo r t
structure St where
 env:List (Nat×V)
 lZ:List (Nat×Option Ob)
 nx:Nat
 deriving Inhabited
def St.get(s:St)(t:Nat):V:=lk s.env t
def St.ob(s:St)(i:Nat):Option Ob:=lo s.lZ i
def St.put(s:St)(d:Option Nat)(v:V):St:=match d with|some d=>{s with env:=(d,v)::s.env}|none=>s
inductive X where
 |t (n:Nat)
 |k (v:V)
 deriving Inhabited
def St.val(s:St):X→V
 | .t n=>s.get n
 | .k v=>v
def upd(ob:Nat→Option Ob)(up:List (Nat×Option Ob)):Nat→Option Ob:=fun i=>
 match up with
 |[]=>ob i
 |(k,v)::r=>if k=i then v else upd ob r i
structure Conc(w0:World)(H0:HS)(w:World)(H:Nat→Prop)(ov:Nat→Option Value)(N:Nat)(a:Act)(s:St):Prop where
 mem:Mem w0 H0 w H ov s.ob
 EZ:a.tmps.size=N
 BZ:a.defers=[]
 kp:∀m v,(m,v)∈H0.kp→a.tmps.getD m undef=v
 env:∀t,Rep w H ov (a.tmps.getD t undef) (s.get t)
 new:∀id,s.nx≤id→ov id=none
end Go.Proofs.YtcgfgifjkkmmcaaGreatDoor.Ab
namespace Go.Proofs.YtcgfgifjkkmmcaaGreatDoor.Ab
open Go Go.RowKit
inductive NO where
 |i2f
 |f2i (k:IntKind)
 |mkz
 |re
 |im
 |zadd
 |zsub
 |zmul
 deriving Inhabited
inductive PO where
 |nm (q:NO)
 |eqs (neg:Bool) (ks:List Nat)
 |b2s
 |s2b (e:Nat)
 deriving Inhabited
def eqc:Nat→V→V→Option Bool
 |1,.i k a,.i k' b=>if k=k' then some (decide (a=b))else none
 |0,.b a,.b b=>some (a==b)
 |2,.s a,.s b=>some (a==b)
 |_,_,_=>none
def both:Option Bool→Option Bool→Option Bool
 |some a,some b=>some (a&&b)
 |_,_=>none
def eqcs:List Nat→List V→List V→Option Bool
 |[],[],[]=>some true
 |k::ks,x::r,y::q=>both (eqc k x y) (eqcs ks r q)
 |_,_,_=>none
def Bt(l:List UInt8):List V:=l.map fun c=> .i .u8 (c.toNat:Int)
def bytesOf:List V→Option (List UInt8)
 |[]=>some []
 | .i .u8 n::r=>match bytesOf r with|some l=>if 0≤n∧n<256 then some (UInt8.ofNat n.toNat::l)else none|none=>none
 |_=>none
def big:Nat:=9007199254740992
def i2fV:List V→Option V
 |[.i _ n]=>if n.natAbs<big then some (.f n)else none
 |_=>none
def f2iV(k:IntKind):List V→Option V
 |[.f n]=>if k.min≤n∧n≤k.max then some (.i k n)else none
 |_=>none
def mkzV:List V→Option V
 |[.f a,.f b]=>some (.z a b)
 |_=>none
def reV:List V→Option V
 |[.z a _]=>some (.f a)
 |_=>none
def imV:List V→Option V
 |[.z _ b]=>some (.f b)
 |_=>none
def zaddV:List V→Option V
 |[.z a b,.z c d]=>if(a+c).natAbs<big∧(b+d).natAbs<big then some (.z (a+c) (b+d))else none
 |_=>none
def zsubV:List V→Option V
 |[.z a b,.z c d]=>if(a-c).natAbs<big∧(b-d).natAbs<big then some (.z (a-c) (b-d))else none
 |_=>none
def zmulV:List V→Option V
 |[.z a b,.z c d]=>if(a*c).natAbs+(b*d).natAbs<big∧(a*d).natAbs+(b*c).natAbs<big then some (.z (a*c-b*d) (a*d+b*c))else none
 |_=>none
def nmV:NO→List V→Option V
 | .i2f=>i2fV
 | .f2i k=>f2iV k
 | .mkz=>mkzV
 | .re=>reV
 | .im=>imV
 | .zadd=>zaddV
 | .zsub=>zsubV
 | .zmul=>zmulV
def yw:PO→List V→Option V
 | .nm q,vs=>nmV q vs
 | .eqs neg ks,[.g xs,.g ys]=>(eqcs ks xs ys).map fun t=> .b (if neg then !t else t)
 | .b2s,[.l z cs]=>if z=1 then(bytesOf cs).map .s else none
 | .s2b _,[.s l]=>if l.length≤9223372036854775807 then some (.l 1 (Bt l))else none
 |_,_=>none
inductive a_ where
 |mv (x:X)
 |pick (c a b:X)
 |bin (op:BinOp) (x y:X)
 |OZ (neg:Bool) (x y:X)
 |un (op:UnOp) (x:X)
 |Ou (k:IntKind) (x:X)
 |six (x i:X)
 |idx (sz:Nat) (x i:X)
 |ld (ag:Bool) (n:Nat) (p:X)
 |st (n:Nat) (p x:X)
 |stk (p x:X)
 |zT (off:Nat) (p:X)
 |Ov (zero:List V) (ps:List (Nat×Nat×X))
 |Dz (e sz n:Nat) (zero:List V) (ps:List (Nat×X))
 |mk (e sz bytes:Nat) (zero:List V) (l c:X)
 |sub (sz:Nat) (x:X) (lo hi:Option X)
 |len (x:X)
 |app (e sz bytes:Nat) (s x:X)
 |al (e:Nat) (zero:List V)
 |ext (x:X) (ix:Nat)
 |call (f:Nat) (args:List (Nat×X))
 |rV (f:Nat) (args:List X)
 |nc (x:X)
 |mm (mx:Bool) (x y:X)
 |JZ (neg:Bool) (x:X)
 |bx (e:Nat) (x:X)
 |J3 (sz:Nat) (x y:X)
 |oU (f m:Nat) (args:List (Nat×X))
 |bad
 deriving Inhabited
def chk(p q:Prop):Prop:=p∧q
theorem ZU{p q:Prop}(h:p):chk p q=q:=by simp[chk,h]
def cnd(v:V)(p q:Prop):Prop:=match v with| .b t=>(t=true→p)∧(t=false→q)|_=>False
theorem vO{p q:Prop}:cnd (.b true) p q=p:=by simp[cnd]
theorem tq{p q:Prop}:cnd (.b false) p q=q:=by simp[cnd]
theorem rW{t:Bool}{p q:Prop}(h:t=true→p)(k:t=false→q):cnd (.b t) p q:=⟨h,k⟩
def bi(op:BinOp)(k:IntKind)(a:Int)(k':IntKind)(b:Int)(K:V→Prop):Prop:=
 match op with
 | .add=>chk (k=k') (K (.i k (k.wrap (a+b))))
 | .sub=>chk (k=k') (K (.i k (k.wrap (a-b))))
 | .mul=>chk (k=k') (K (.i k (k.wrap (a*b))))
 | .quo=>chk (k=k'∧b≠0) (K (.i k (k.wrap (a.tdiv b))))
 | .rem=>chk (k=k'∧b≠0) (K (.i k (a.tmod b)))
 | .and=>chk (k=k') (K (.i k (bits .and k a b)))
 | .or=>chk (k=k') (K (.i k (bits .or k a b)))
 | .xor=>chk (k=k') (K (.i k (bits .xor k a b)))
 | .andNot=>chk (k=k') (K (.i k (bits .andNot k a b)))
 | .shl=>chk (0≤b) (K (.i k (k.wrap (a*2^(min b.toNat k.bits)))))
 | .shr=>chk (0≤b) (K (.i k (a.fdiv (2^(min b.toNat k.bits)))))
 | .eql=>chk (k=k') (K (.b (decide (a=b))))
 | .neq=>chk (k=k') (K (.b (decide (¬a=b))))
 | .lss=>chk (k=k') (K (.b (decide (a<b))))
 | .leq=>chk (k=k') (K (.b (decide (a≤b))))
 | .gtr=>chk (k=k') (K (.b (decide (b<a))))
 | .geq=>chk (k=k') (K (.b (decide (b≤a))))
def bs(op:BinOp)(a b:List UInt8)(K:V→Prop):Prop:=
 match op with
 | .add=>chk (a.length+b.length≤9223372036854775807) (K (.s (a++b)))
 | .eql=>K (.b (a==b))
 | .neq=>K (.b (!(a==b)))
 |_=>False
def rd(ob:Nat→Option Ob)(sz:Nat):V→V
 | .ow _ id _=>match ob id with|some o=>if o.jl then .any else .l o.sz o.cs|none=> .any
 | .sl _ id off n=>match ob id with|some o=>if o.jl then .any else .l o.sz ((o.cs.drop off).take (n*o.sz))|none=> .any
 | .nl=> .l sz []
 |v=>v
def yQ:V→V
 | .kn _ (.l s cs)=> .l s cs
 |v=>v
theorem ZV(v:V):yQ v=v∨∃s cs,yQ v= .l s cs:=by
 unfold yQ;split
 ·exact .inr ⟨_,_,rfl⟩
 ·exact .inl rfl
def Ox(n:Bool)(ob:Nat→Option Ob)(sz:Nat)(v:V):V:=match n,v with|true,.nl=> .nl|_,v=>rd ob sz v
def vP:V→V
 | .ow sz i n=> .sl sz i 0 n
 |v=>v
def okR(ob:Nat→Option Ob):V→Prop
 | .sl _ id off n=>match ob id with|some o=>off+n*o.sz≤o.cs.length|none=>False
 |_=>True
def jZ(ob:Nat→Option Ob):List V→Prop
 |[]=>True
 |v::r=>okR ob v∧jZ ob r
def eF(ob:Nat→Option Ob):V→List (Nat×Option Ob)
 | .ow _ id _| .sl _ id _ _=>match ob id with|some o=>[(id,some {o with mu:=false})]|none=>[]
 |_=>[]
def V.aQ:V→Bool
 | .i _ _| .b _| .s _| .l _ _| .g _| .ip _ _| .c _| .kn _ _| .f _| .z _ _| .fc _ _=>true
 |_=>false
def V.cells:V→List V
 | .g cs=>cs
 |v=>[v]
def setAt{α:Type}(cs:List α)(k:Nat):List α→List α
 |[]=>cs
 |v::r=>setAt (cs.set k v) (k+1) r
def jc(cs:List V):List (Nat×List V)→List V
 |[]=>cs
 |(k,vs)::r=>jc (setAt cs k vs) r
def fitAll(n:Nat):List (Nat×List V)→Bool
 |[]=>true
 |(k,vs)::r=>decide (k+vs.length≤n)&&vs.all V.cell&&fitAll n r
section
variable (F G:Nat→List V→V→Prop)
def ev(ρ:X→V)(ob:Nat→Option Ob)(id:Nat)(K:V→List (Nat×Option Ob)→Prop):a_→Prop
 | .mv x=>K (ρ x) []
 | .pick c a b=>cnd (ρ c) (K (ρ a) []) (K (ρ b) [])
 | .bin op x y=>match ρ x,ρ y with
   | .i k a,.i k' b=>bi op k a k' b fun v=>K v []
   | .s a,.s b=>bs op a b fun v=>K v []
   |_,_=>False
 | .OZ neg x y=>match ρ x,ρ y with
   | .b a,.b c=>K (.b (if neg then !(a==c)else a==c)) []
   |_,_=>False
 | .un op x=>match op,ρ x with
   | .not,.b t=>K (.b !t) []
   | .neg,.i k n=>K (.i k (k.wrap (0-n))) []
   | .neg,.f n=>K (.f (-n)) []
   | .xor,.i k n=>K (.i k (bits .xor k (if k.signed then-1 else k.max) n)) []
   |_,_=>False
 | .Ou k x=>match ρ x with
   | .i _ n=>K (.i k (k.wrap n)) []
   |_=>False
 | .six x i=>match ρ x,ρ i with
   | .s l,.i _ n=>chk (0≤n∧n<l.length) (K (.i .u8 (l.getD n.toNat 0).toNat) [])
   |_,_=>False
 | .idx sz x i=>match ρ x,ρ i with
   | .l s cs,.i _ n=>chk (s=sz∧0≤n∧n.toNat*sz<cs.length) (K (.ip cs (n.toNat*sz)) [])
   | .ow s j m,.i _ n=>chk (s=sz∧0≤n∧n<m) (K (.pt j (n.toNat*sz)) [])
   | .sl s j off m,.i _ n=>chk (s=sz∧0≤n∧n<m) (K (.pt j (off+n.toNat*sz)) [])
   |_,_=>False
 | .ld ag n p=>match ρ p with
   | .ip cs k=>if ag then chk (k+n≤cs.length) (K (.g ((cs.drop k).take n)) [])else chk (k<cs.length) (K (cs.getD k .un) [])
   | .pt j k=>match ob j with
     |some o=>if ag then chk (k+n≤o.cs.length∧vH o=false) (K (.g ((o.cs.drop k).take n)) [])else chk (k<o.cs.length) (K (o.cs.getD k .un) [])
     |none=>False
   |_=>False
 | .st n p x=>match ρ p with
   | .pt j k=>match ob j with
     |some o=>chk (okR ob (ρ x)∧o.mu=true∧(eF ob (ρ x)).all (fun q=>q.1 != j)=true∧(rd ob 1 (ρ x)).cells.length=n∧k+n≤o.cs.length∧(rd ob 1 (ρ x)).cells.all V.cell=true)
       (K .un ((j,some {o with cs:=setAt o.cs k (rd ob 1 (ρ x)).cells})::eF ob (ρ x)))
     |none=>False
   |_=>False
 | .stk p x=>match ρ p with
   | .pt j k=>match ob j with
     |some o=>chk (vH o=true∧isRef (ρ x)=true∧o.mu=true∧k+1≤o.cs.length) (K .un [(j,some {o with cs:=setAt o.cs k [ρ x]})])
     |none=>False
   |_=>False
 | .zT off p=>match ρ p with
   | .pt j k=>K (.pt j (k+off)) []
   | .ip cs k=>K (.ip cs (k+off)) []
   |_=>False
 | .Ov zero ps=>
   chk (jZ ob (ps.map fun p=>ρ p.2.2)∧fitAll zero.length (ps.map fun p=>(p.1,(rd ob 1 (ρ p.2.2)).cells))=true∧(ps.all fun p=>(rd ob 1 (ρ p.2.2)).cells.length==p.2.1)=true)
    (K (.g (jc zero (ps.map fun p=>(p.1,(rd ob 1 (ρ p.2.2)).cells)))) (ps.flatMap fun p=>eF ob (ρ p.2.2)))
 | .Dz e sz n zero ps=>
   chk (jZ ob (ps.map fun p=>ρ p.2)∧fitAll zero.length (ps.map fun p=>(p.1*sz,(rd ob 1 (ρ p.2)).cells))=true∧(ps.all fun p=>(rd ob 1 (ρ p.2)).cells.length==sz)=true)
    (K (.ow sz id n) ((id,some {e,sz,cs:=jc zero (ps.map fun p=>(p.1*sz,(rd ob 1 (ρ p.2)).cells)),mu:=true,jl:=false})::ps.flatMap fun p=>eF ob (ρ p.2)))
 | .mk e sz bytes zero l c=>match ρ l,ρ c with
   | .i _ a,.i _ b=>chk (0≤a∧a≤b∧b*bytes≤281474976710656∧b≤1099511627776)
      (K (.ow sz id a.toNat) [(id,some {e,sz,cs:=(List.replicate a.toNat zero).flatten,mu:=true,jl:=false})])
   |_,_=>False
 | .sub sz x lo hi=>match ρ x with
   | .l s cs=>
     match lo.map ρ,hi.map ρ with
     |none,none=>chk (s=sz) (K (.l s cs) [])
     |some (.i _ a),none=>chk (s=sz∧0≤a∧a.toNat*sz≤cs.length) (K (.l s (cs.drop (a.toNat*sz))) [])
     |none,some (.i _ b)=>chk (s=sz∧0≤b∧b.toNat*sz≤cs.length) (K (.l s (cs.take (b.toNat*sz))) [])
     |some (.i _ a),some (.i _ b)=>chk (s=sz∧0≤a∧a≤b∧b.toNat*sz≤cs.length) (K (.l s ((cs.take (b.toNat*sz)).drop (a.toNat*sz))) [])
     |_,_=>False
   | .ow s j m=>
     match lo.map ρ,hi.map ρ with
     |none,none=>chk (s=sz) (K (.ow s j m) [])
     |some (.i _ a),none=>chk (s=sz∧0≤a∧a≤m) (K (.sl s j (a.toNat*sz) (m-a.toNat)) [])
     |none,some (.i _ b)=>chk (s=sz∧0≤b∧b≤m) (K (.sl s j 0 b.toNat) [])
     |some (.i _ a),some (.i _ b)=>chk (s=sz∧0≤a∧a≤b∧b≤m) (K (.sl s j (a.toNat*sz) (b.toNat-a.toNat)) [])
     |_,_=>False
   | .sl s j off m=>
     match lo.map ρ,hi.map ρ with
     |none,none=>chk (s=sz) (K (.sl s j off m) [])
     |some (.i _ a),none=>chk (s=sz∧0≤a∧a≤m) (K (.sl s j (off+a.toNat*sz) (m-a.toNat)) [])
     |none,some (.i _ b)=>chk (s=sz∧0≤b∧b≤m) (K (.sl s j off b.toNat) [])
     |some (.i _ a),some (.i _ b)=>chk (s=sz∧0≤a∧a≤b∧b≤m) (K (.sl s j (off+a.toNat*sz) (b.toNat-a.toNat)) [])
     |_,_=>False
   | .nl=>
     match lo.map ρ,hi.map ρ with
     |none,none=>K .nl []
     |some (.i _ a),none=>chk (a=0) (K .nl [])
     |none,some (.i _ b)=>chk (b=0) (K .nl [])
     |some (.i _ a),some (.i _ b)=>chk (a=0∧b=0) (K .nl [])
     |_,_=>False
   | .kn (.slice ba n c) (.l s cs)=>
     match lo.map ρ,hi.map ρ with
     |none,some (.i _ b)=>chk (s=sz∧0≤b∧b≤n∧0<c∧(∃g,ba=some ⟨g,0,none⟩)) (K (.kn (.slice ba b.toNat c) (.l s (cs.take (b.toNat*sz)))) [])
     |_,_=>False
   |_=>False
 | .len x=>match ρ x with
   | .l s cs=>K (.i .i64 ((cs.length/s:Nat):Int)) []
   | .ow _ _ m=>K (.i .i64 m) []
   | .sl _ _ _ m=>K (.i .i64 m) []
   | .nl=>K (.i .i64 0) []
   |_=>False
 | .app e sz bytes s x=>
   match ρ s,rd ob sz (yQ (ρ x))with
   | .nl,.l s' xs=>chk (okR ob (yQ (ρ x))∧s'=sz∧xs.all V.cell=true∧xs.length/sz*bytes≤70368744177664∧xs.length/sz≤1099511627776)
      (K (.ow sz id (xs.length/sz)) ((id,some {e,sz,cs:=xs,mu:=true,jl:=false})::[]))
   | .ow s1 j m,.l s' xs=>match ob j with
     |some o=>chk (okR ob (yQ (ρ x))∧s1=sz∧s'=sz∧o.e=e∧o.sz=sz∧o.mu=true∧o.jl=false∧xs.all V.cell=true∧(m+xs.length/sz)*bytes≤70368744177664∧m+xs.length/sz≤1099511627776)
       (K (.ow sz id (m+xs.length/sz)) [(j,none),(id,some {o with cs:=o.cs++xs})])
     |none=>False
   |_,_=>False
 | .al e zero=>K (.pt id 0) [(id,some {e,sz:=zero.length,cs:=zero,mu:=true,jl:=true})]
 | .ext x ix=>match ρ x with
   | .t vs=>chk (ix<vs.length) (K (vs.getD ix .un) [])
   | .tw sz j n rs=>match ix with
     |0=>K (.ow sz j n) []
     |ix+1=>chk (ix<rs.length) (K (rs.getD ix .un) [])
   |_=>False
 | .call f args=>
   chk (jZ ob (args.map fun p=>ρ p.2)∧(args.all fun p=>(rd ob p.1 (ρ p.2)).aQ)=true)<|
   ∃n r,F f (args.map fun p=>Ox n ob p.1 (ρ p.2)) r∧
    match r with
    | .o e sz cs=>chk (0<sz) (K (.ow sz id (cs.length/sz)) ((id,some {e,sz,cs,mu:=true,jl:=false})::if r.iI then args.flatMap fun p=>eF ob (ρ p.2)else[]))
    | .fr r=>K r []
    | .to e sz cs rs=>K (.tw sz id (cs.length/sz) rs) ((id,some {e,sz,cs,mu:=true,jl:=false})::if(V.o e sz cs).iI||(V.t rs).iI then args.flatMap fun p=>eF ob (ρ p.2)else[])
    | .mu _ _=>False
    |r=>K r (if r.iI then args.flatMap fun p=>eF ob (ρ p.2)else[])
 | .rV f args=>∃r,G f (args.map ρ) r∧K r []
 | .nc x=>match ρ x with
   | .pt j k=>K (.pt j k) []
   | .ip cs k=>K (.ip cs k) []
   |_=>False
 | .mm mx x y=>match ρ x,ρ y with
   | .i k a,.i k' b=>chk (k=k') (K (.i k (if mx then max a b else min a b)) [])
   |_,_=>False
 | .JZ neg x=>match ρ x with
   | .nl=>K (.b (!neg)) []
   | .l _ cs=>∀t:Bool,(t=true→cs=[])→K (.b (t != neg)) []
   | .ow _ _ n=>∀t:Bool,(t=true→n=0)→K (.b (t != neg)) []
   |_=>False
 | .bx e x=>chk (okR ob (ρ x)∧(rd ob 1 (ρ x)).cells.all V.cell=true)
    (K (.pt id 0) ((id,some {e,sz:=(rd ob 1 (ρ x)).cells.length,cs:=(rd ob 1 (ρ x)).cells,mu:=true,jl:=true})::eF ob (ρ x)))
 | .J3 sz x y=>match vP (ρ x),rd ob sz (ρ y)with
   | .sl s1 j off m,.l s' xs=>match ob j with
     |some o=>chk (okR ob (ρ y)∧s1=sz∧s'=sz∧o.mu=true∧off+m*sz≤o.cs.length∧xs.all V.cell=true)
       (K (.i .i64 ((min (xs.length/sz) m:Nat):Int)) [(j,some {o with cs:=setAt o.cs off (xs.take (m*sz))})])
     |none=>False
   |_,_=>False
 | .oU f m args=>match (args[m]?).map fun p=>ρ p.2 with
   |some (.ow z j n)=>match ob j with
    |some o=>
     chk (jZ ob (args.map fun p=>ρ p.2)∧(args.all fun p=>(rd ob p.1 (ρ p.2)).aQ)=true∧o.mu=true∧o.jl=false∧((args.eraseIdx m).all fun p=>(eF ob (ρ p.2)).all fun q=>q.1 != j)=true)<|
     ∃r cs',F f ((args.map fun p=>rd ob p.1 (ρ p.2)).set m (.o o.e o.sz o.cs)) (.mu r cs')∧r.iI=false∧K r ((j,some {o with cs:=cs'})::(args.eraseIdx m).flatMap fun p=>eF ob (ρ p.2))
    |none=>False
   |_=>False
 | .bad=>False
end
end Go.Proofs.YtcgfgifjkkmmcaaGreatDoor.Ab
namespace Go.Proofs.YtcgfgifjkkmmcaaGreatDoor.Ab
open Go Go.RowKit
def cS:Value→V
 | .int k n=> .i k n
 | .bool b=> .b b
 | .string s=> .s s.data.toList
 | .slice none 0 0=> .l 1 []
 | .float .f64 0=> .f 0
 | .float .f64 4607182418800017408=> .f 1
 | .complex .f64 0 0=> .z 0 0
 | .complex .f64 4607182418800017408 0=> .z 1 0
 | .complex .f64 0 4607182418800017408=> .z 0 1
 |v=> .c v
def cV:Value→V
 | .slice none 0 0=> .nl
 | .agg cs=> .g (cs.toList.map cS)
 |v=>cS v
def cX:Operand→Option X
 | .tmp t=>some (.t t)
 | .const v=>some (.k (cV v))
 | .func f=>some (.k (.c (.func (.func f) #[] #[])))
 | .global g=>some (.k (match tabs g with|some cs=> .ip cs 0|none=> .any))
def xE(P:Program)(t:TypeId):Option (Nat×Nat×List V):=
 match P.info? t with
 |some i=>match i.zero with
  |some z=>if z.cells.size=i.size∧0<i.size∧(z.cells.toList.map cS).all V.cell=true then some (i.size,i.bytes,z.cells.toList.map cS)else none
  |none=>none
 |none=>none
def j_(P:Program)(t:TypeId):Bool:=
 match P.underlying t with
 |some (.struct _)|some (.array _ _)=>true
 |_=>false
def E5(P:Program)(t:TypeId):Option TypeId:=
 match P.underlying t with
 |some (.slice e)=>some e
 |_=>none
def ZW :Option Operand→Option (Option X)
 |none=>some none
 |some x=>(cX x).map some
def cXs:List Operand→Option (List X)
 |[]=>some []
 |x::r=>match cX x,cXs r with
  |some x,some r=>some (x::r)
  |_,_=>none
def vT(P:Program):List (Operand×TypeId)→Option (List (Nat×X))
 |[]=>some []
 |(x,t)::r=>match cX x,vT P r with
  |some x,some r=>
   (match E5 P t with
     |some e=>(match xE P e with|some (sz,_,_)=>some ((sz,x)::r)|none=>none)
     |none=>some ((1,x)::r))
  |_,_=>none
def xG(P:Program)(fields:Array Field):List (Nat×Operand)→Option (List (Nat×Nat×X))
 |[]=>some []
 |(i,x)::r=>match cX x,xG P fields r,fields[i]? with
  |some x,some r,some f=>(match P.info? f.type with|some ti=>some ((f.offset,ti.size,x)::r)|none=>none)
  |_,_,_=>none
def tu:List (Nat×Operand)→Option (List (Nat×X))
 |[]=>some []
 |(i,x)::r=>match cX x,tu r with
  |some x,some r=>some ((i,x)::r)
  |_,_=>none
def mutf:Nat→Option Nat:=fun f=>if f=129 then some 0 else none
def bZ(f:Nat):Bool:=if f=1000064 then true else if f=1000062 then true else if f=1000022 then true else if f=90 then true else false
def O0(P:Program)(c:Call):Option a_:=
 match c.callee with
 | .builtin .len=>match c.args.toList,c.argTypes.toList with
   |[x],[t]=>(match P.underlying t,cX x with|some (.slice _),some x=>some (.len x)|_,_=>none)
   |_,_=>none
 | .builtin .append=>match c.args.toList,c.argTypes.toList with
   |[s,x],[t,t']=>if t=t' then(match E5 P t,cX s,cX x with
    |some e,some s,some x=>(match xE P e with|some (sz,BB,_)=>some (.app e sz BB s x)|none=>none)
    |_,_,_=>none)else none
   |_,_=>none
 | .builtin .max=>match c.args.toList with
   |[x,y]=>(match cX x,cX y with|some x,some y=>some (.mm true x y)|_,_=>none)
   |_=>none
 | .builtin .min=>match c.args.toList with
   |[x,y]=>(match cX x,cX y with|some x,some y=>some (.mm false x y)|_,_=>none)
   |_=>none
 | .builtin .copy=>match c.args.toList,c.argTypes.toList with
   |[x,y],[t,t']=>(match E5 P t,cX x,cX y with
    |some e,some x,some y=>(match P.info? e with|some ti=>if 0<ti.size then some (.J3 ti.size x y)else none|none=>none)
    |_,_,_=>none)
   |_,_=>none
 | .value (.func f)=>match P.funcs[f]? with
   |some fn=>if fn.name== "runtime.NumGoroutine" then none else if fn.body.isSome then
     (if c.args.size=c.argTypes.size then(match vT P (c.args.toList.zip c.argTypes.toList)with|some xs=>(match mutf f with|some m=>some (.oU f m xs)|none=>some (.call f xs))|none=>none)else none)
    else(match cXs c.args.toList with|some xs=>some (.rV f xs)|none=>none)
   |none=>none
 |_=>none
def cOp(P:Program):Op→Option a_
 | .move x| .assign x=>(cX x).map .mv
 | .pick c a b=>match cX c,cX a,cX b with|some c,some a,some b=>some (.pick c a b)|_,_,_=>none
 | .binOp op t x y _=>match cX x,cX y,P.underlying t with
   |some x,some y,some (.int _)=>some (.bin op x y)
   |some x,some y,some .string=>some (.bin op x y)
   |some x,some y,some .bool=>(match op with| .eql=>some (.OZ false x y)| .neq=>some (.OZ true x y)|_=>none)
   |some x,some (.k .nl),some (.slice _)=>(match op with| .eql=>some (.JZ false x)| .neq=>some (.JZ true x)|_=>none)
   |_,_,_=>none
 | .unOp op _ x=>(cX x).map (.un op)
 | .convert s d x=>match P.underlying s,P.underlying d,cX x with
   |some (.int _),some (.int k),some x=>some (.Ou k x)
   |_,_,_=>none
 | .index t x i=>match P.underlying t,cX x,cX i with
   |some .string,some x,some i=>some (.six x i)
   |_,_,_=>none
 | .indexAddr t x i=>match E5 P t,cX x,cX i with
   |some e,some x,some i=>(match P.info? e with|some ti=>if 0<ti.size then some (.idx ti.size x i)else none|none=>none)
   |_,_,_=>none
 | .load t p=>match cX p,P.info? t,P.underlying t with
   |some p,some ti,some _=>some (.ld (j_ P t) ti.size p)
   |_,_,_=>none
 | .store t p x=>match cX p,cX x,P.info? t with
   |some p,some x,some ti=>if keepT t&&ti.size==1 then some (.stk p x)else some (.st ti.size p x)
   |_,_,_=>none
 | .fieldAddr t p f=>match P.underlying t,cX p with
   |some (.struct fs),some p=>(match fs[f]? with
    |some fd=>(match P.info? fd.type with|some ti=>if 0<ti.size then some (.zT fd.offset p)else none|none=>none)
    |none=>none)
   |_,_=>none
 | .build t ps=>match P.underlying t,xE P t with
   |some (.struct fs),some (_,_,z)=>if(fs.toList.mapM (fun f=>(P.info? f.type).map fun i=>(f.offset,i.size))).isSome then(match xG P fs ps.toList with|some ps=>some (.Ov z ps)|none=>none)else none
   |_,_=>none
 | .buildSlice t n ps=>match E5 P t with
   |some e=>(match xE P e,tu ps.toList with
    |some (sz,_,z),some ps=>if n*sz≤65536 then some (.Dz e sz n ((List.replicate n z).flatten) ps)else none
    |_,_=>none)
   |none=>none
 | .makeSlice t l c=>match E5 P t,cX l,cX c with
   |some e,some l,some c=>(match xE P e with|some (sz,BB,z)=>some (.mk e sz BB z l c)|none=>none)
   |_,_,_=>none
 | .slice t x lo hi none=>match P.underlying t,cX x,ZW lo,ZW hi with
   |some (.slice e),some x,some lo,some hi=>(match P.info? e with|some ti=>if 0<ti.size then some (.sub ti.size x lo hi)else none|none=>none)
   |_,_,_,_=>none
 | .alloc t=>match xE P t with|some (_,_,z)=>some (.al t z)|none=>none
 | .extract x i=>(cX x).map (.ext · i)
 | .box e x=>(cX x).map (.bx e)
 | .nilCheck x=>(cX x).map .nc
 | .call c=>O0 P c
 |_=>none
def O3(P:Program)(o:Op):Option a_:=some ((cOp P o).getD .bad)
end Go.Proofs.YtcgfgifjkkmmcaaGreatDoor.Ab
namespace Go.Proofs.YtcgfgifjkkmmcaaGreatDoor.Ab
open Go Go.RowKit
section inv
variable {w:World} {H:Nat→Prop} {ov:Nat→Option Value} {v:Value}
theorem Rep.bP{k:IntKind}{n:Int}(h:Rep w H ov v (.i k n)):v= .int k n:=by cases h with|base h=>cases h;rfl
theorem Rep.lK{x:Bool}(h:Rep w H ov v (.b x)):v= .bool x:=by cases h with|base h=>cases h;rfl
theorem Rep.zV{l:List UInt8}(h:Rep w H ov v (.s l)):v= .string ⟨l.toArray⟩:=by cases h with|base h=>cases h;rfl
theorem Rep.inv_f{n:Int}(h:Rep w H ov v (.f n)):∃q,v= .float .f64 q∧FI q n:=by cases h with|base h=>cases h with|f q n h=>exact⟨q,rfl,h⟩
theorem Rep.yQ{x:V}(h:Rep w H ov v x):Rep w H ov v (Ab.yQ x):=by
 unfold Ab.yQ;split
 ·cases h with|base h=>cases h with|kn v x h=>exact .base h
 ·exact h
theorem Rep.DC{u:Value}{x:V}(h:Rep w H ov v (.kn u x)):v=u∧Rep0 w H u x:=by cases h with|base h=>cases h with|kn v x h=>exact⟨rfl,h⟩
theorem Rep.jJ(h:Rep w H ov v .nl):v= .slice none 0 0:=by cases h with|base h=>cases h;rfl
theorem Rep.O4(h:Rep w H ov v .un):v=undef:=by cases h with|base h=>cases h;rfl
theorem Rep.E8{u:Value}(h:Rep w H ov v (.c u)):v=u:=by cases h with|base h=>cases h;rfl
theorem Rep.B_{cs:List V}(h:Rep w H ov v (.g cs)):∃vs:List Value,v= .agg vs.toArray∧aj w H vs cs:=by
 cases h with|base h=>cases h with|g vs cs hn hr=>exact⟨vs,rfl,hn,hr⟩
theorem Rep.O6{cs:List V}(h:Rep w H ov v (.t cs)):∃vs:List Value,v= .tuple vs.toArray∧aj w H vs cs:=by
 cases h with|base h=>cases h with|t vs cs hn hr=>exact⟨vs,rfl,hn,hr⟩
theorem Rep0.nZ{sz:Nat}{cs:List V}(h:Rep0 w H v (.l sz cs)):∃a n cap,∃(f:Nat→Value) (b o:Nat),v= .slice a n cap∧0<sz∧cs.length=n*sz∧n≤maxLen∧n≤cap∧(cs=[]∨(a=some ⟨b,o,none⟩∧H b))∧
 (∀j,j<cs.length→w.cell? ⟨b,o+j,none⟩=some (f j))∧(∀(j:Nat) (x:V),cs[j]? =some x→Rep0 w H (f j) x):=by
 cases h with|l a n cap sz cs f b o hsz hn hm hcp ha hc hr=>exact⟨a,n,cap,f,b,o,rfl,hsz,hn,hm,hcp,ha,hc,hr⟩
theorem Rep.nZ{sz:Nat}{cs:List V}(h:Rep w H ov v (.l sz cs)):∃a n cap,∃(f:Nat→Value) (b o:Nat),v= .slice a n cap∧0<sz∧cs.length=n*sz∧n≤maxLen∧n≤cap∧(cs=[]∨(a=some ⟨b,o,none⟩∧H b))∧
 (∀j,j<cs.length→w.cell? ⟨b,o+j,none⟩=some (f j))∧(∀(j:Nat) (x:V),cs[j]? =some x→Rep0 w H (f j) x):=(h.down rfl).nZ
theorem Rep.H7{cs:List V}{k:Nat}(h:Rep w H ov v (.ip cs k)):∃(f:Nat→Value) (b o:Nat),v= .pointer (some ⟨b,o+k,none⟩)∧H b∧(∀j,j<cs.length→w.cell? ⟨b,o+j,none⟩=some (f j))∧
 (∀(j:Nat) (x:V),cs[j]? =some x→Rep0 w H (f j) x):=by
 cases h with|base h=>cases h with|ip cs k f b o hb hc hr=>exact⟨f,b,o,rfl,hb,hc,hr⟩
theorem Rep.fD{sz id n:Nat}(h:Rep w H ov v (.ow sz id n)):∃a cap,v= .slice a n cap∧ov id=some v∧n≤maxLen∧n≤cap∧(n=0∨∃b,a=some ⟨b,0,none⟩):=by
 cases h with|base h=>cases h|ow sz id n cap a hm hcp ha ho=>exact⟨a,cap,rfl,ho,hm,hcp,ha⟩
theorem Rep.DD{sz id n:Nat}{rs:List V}(h:Rep w H ov v (.tw sz id n rs)):∃a cap vs,v= .tuple (.slice a n cap::vs).toArray∧ov id=some (.slice a n cap)∧n≤maxLen∧n≤cap∧(n=0∨∃b,a=some ⟨b,0,none⟩)∧aj w H vs rs:=by
 cases h with|base h=>cases h|tw sz id n cap a vs rs hm hcp ha ho hr=>exact⟨a,cap,vs,rfl,ho,hm,hcp,ha,hr⟩
theorem Rep.ku{sz id off n:Nat}(h:Rep w H ov v (.sl sz id off n)):∃a cap u,v= .slice a n cap∧n≤maxLen∧n≤cap∧ov id=some u∧(n=0∨∃b,blk u=some b∧a=some ⟨b,off,none⟩):=by
 cases h with|base h=>cases h|sl a sz id off n cap u hm hcp ho ha hz=>exact⟨a,cap,u,rfl,hm,hcp,ho,ha⟩
theorem Rep.J4{sz id n:Nat}(hsz:0<sz)(h:Rep w H ov v (.sl sz id 0 n)):∃a cap m,v= .slice a n cap∧n≤maxLen∧n≤cap∧ov id=some (.slice a m cap):=by
 cases h with|base h=>cases h|sl a sz id off n cap u hm hcp ho ha hz=>obtain⟨m,rfl⟩:=hz rfl hsz;exact⟨a,cap,m,rfl,hm,hcp,ho⟩
theorem Rep.mZ{id off:Nat}(h:Rep w H ov v (.pt id off)):∃b u,v= .pointer (some ⟨b,off,none⟩)∧ov id=some u∧blk u=some b:=by
 cases h with|base h=>cases h|pt id off b u ho hb=>exact⟨b,u,rfl,ho,hb⟩
end inv
def Fin(w0:World)(H0:HS)(w:World)(H:Nat→Prop)(ov:Nat→Option Value)(ob:Nat→Option Ob)(id:Nat)(R:V→List (Nat×Option Ob)→Prop)(a:Act)(dst:Option Tmp)(K:Act→World→Prop):Prop:=
 ∀v up cv w' H' bJ,R v up→Ext w H ov w' H' bJ→(∀i,i≠id→ov i=none→bJ i=none)→Mem w0 H0 w' H' bJ (upd ob up)→Rep w' H' bJ cv v→K (a.put dst cv) w'
theorem ZX{P:Program}(op:BinOp)(t:TypeId)(k k':IntKind)(x y:Int){R':V→Prop}(h:bi op k x k' y R')(w:World):
 ∃v,(binOp op t (.int k x) (.int k' y)).run P w= .ok v w∧∃u,R' u∧∀(w:World) (H:Nat→Prop) (ov:Nat→Option Value),Rep w H ov v u:=by
 cases op<;>simp only[bi]at h
 case shl=>
  obtain⟨h1,h2⟩:=h;refine⟨_,?_,_,h2,fun _ _ _=> .i _ _⟩;simp[binOp,Op.shift,show¬y<0 by omega]
 case shr=>
  obtain⟨h1,h2⟩:=h;refine⟨_,?_,_,h2,fun _ _ _=> .i _ _⟩;simp[binOp,Op.shift,show¬y<0 by omega]
 case quo=>
  obtain⟨⟨rfl,h1⟩,h2⟩:=h;exact⟨_,by simp[binOp,Op.intDiv,h1],_,h2,fun _ _ _=> .i _ _⟩
 case rem=>
  obtain⟨⟨rfl,h1⟩,h2⟩:=h;exact⟨_,by simp[binOp,Op.intDiv,h1],_,h2,fun _ _ _=> .i _ _⟩
 all_goals
  obtain⟨rfl,h2⟩:=h
  refine⟨_,?_,_,h2,fun _ _ _=>by first|exact .i _ _|exact .b _⟩
  first
   |simp only[binOp_and,binOp_or,binOp_xor,binOp_andNot,intBits_and,intBits_or,intBits_xor,intBits_andNot,Sem.run_pure]
   |(simp[binOp,Op.intArith,Op.intCmp];done)
   |(simp[binOp,Op.intArith,Op.intCmp,bne];done)
   |(simp only[binOp_eql,binOp_neq,Sem.run_pure,show(x==y)=decide (x=y)from Bool.eq_iff_iff.2 sy,bne,decide_not])
theorem cS_nl(v:Value):cS v≠ .nl:=by
 intro h;unfold cS at h;split at h<;>cases h
theorem Va{a:Act}{y:Operand}(h:cX y=some (.k .nl)):a.eval y= .slice none 0 0:=by
 cases y with
 |const v=>
  simp only[cX,Option.some.injEq,X.k.injEq]at h;show v=_;unfold cV at h;split at h
  ·rfl
  ·cases h
  ·exact absurd h (cS_nl _)
 |func f=>simp[cX]at h
 |tmp t=>simp[cX]at h
 |global g=>simp only[cX,Option.some.injEq,X.k.injEq]at h;split at h<;>cases h
section ops
variable {P:Program} {w0 w:World} {H0:HS} {H:Nat→Prop} {ov:Nat→Option Value} {ob:Nat→Option Ob} {id:Nat} {ρ:X→V} {a:Act} {o:Oper} {K:Act→World→Prop} {Q:Exit→Act→World→Prop}
 {R:V→List (Nat×Option Ob)→Prop}
theorem fin_same(hm:Mem w0 H0 w H ov ob)(hF:Fin w0 H0 w H ov ob id R a o.dst K){cv:Value}{v:V}(hrun:(execOp a.eval o).run P w= .ok (.value cv) w)(hr:Rep w H ov cv v)(hR:R v []):o.wp P a w K Q:=by
 unfold Oper.wp;rw[hrun];exact hF v [] cv w H ov hR (Ext.refl _ _ _) (fun _ _ h=>h) hm hr
variable (hm:Mem w0 H0 w H ov ob) (hρ:∀p x,cX p=some x→Rep w H ov (a.eval p) (ρ x)) (hF:Fin w0 H0 w H ov ob id R a o.dst K)
include hm hρ hF
theorem s_mv{x:Operand}{y:X}(hop:o.op= .move x∨o.op= .assign x)(hx:cX x=some y)(h:R (ρ y) []):o.wp P a w K Q:=by
 refine fin_same hm hF (cv:=a.eval x) ?_ (hρ x y hx) h;rcases hop with hop|hop<;>simp[execOp,hop]
theorem ZY{c x y:Operand}{c' x' y':X}(hop:o.op= .pick c x y)(hc:cX c=some c')(hx:cX x=some x')(hy:cX y=some y')(h:cnd (ρ c') (R (ρ x') []) (R (ρ y') [])):o.wp P a w K Q:=by
 have h1:=hρ c c' hc;cases hv:ρ c'<;>rw[hv]at h h1<;>simp only[cnd]at h;case b t=>
  have e:=h1.lK;cases t
  ·exact fin_same hm hF (cv:=a.eval y) (by simp[execOp,hop,e,asBool]) (hρ y y' hy) (h.2 rfl)
  ·exact fin_same hm hF (cv:=a.eval x) (by simp[execOp,hop,e,asBool]) (hρ x x' hx) (h.1 rfl)
theorem Yq{op:BinOp}{t t':TypeId}{x y:Operand}{x' y':X}(hop:o.op= .binOp op t x y t')(hx:cX x=some x')(hy:cX y=some y')
 (h:ev (fun _ _ _=>False) (fun _ _ _=>False) ρ ob id R (.bin op x' y')):o.wp P a w K Q:=by
 have h1:=hρ x x' hx
 have h2:=hρ y y' hy
 simp only[ev]at h
 cases hv:ρ x'<;>rw[hv]at h h1<;>(try simp only[]at h)
 case i k n=>
  cases hu:ρ y'<;>rw[hu]at h h2<;>(try simp only[]at h);case i k' m=>
   obtain⟨v,hrun,u,hR,hr⟩:=ZX (P:=P) op t k k' n m h w;refine fin_same hm hF (cv:=v) ?_ (hr _ _ _) hR;simp[execOp,hop,h1.bP,h2.bP,eqGuard_at_int,hrun]
 case s l=>
  cases hu:ρ y'<;>rw[hu]at h h2<;>(try simp only[]at h);case s l'=>
   have tl:∀l:List UInt8,(⟨l.toArray⟩:ByteArray).toList=l:=ByteArray.toList_mk;cases op<;>simp only[bs]at h;case add=>
    obtain⟨hs,hR⟩:=h;refine fin_same hm hF (cv:= .string ⟨(l++l').toArray⟩) ?_ (.s _) hR;have hsz:¬((9223372036854775807:Int)<((⟨l.toArray⟩:ByteArray).size+(⟨l'.toArray⟩:ByteArray).size:Nat)):=by
     have e1:(⟨l.toArray⟩:ByteArray).size=l.length:=by simp[ByteArray.size]
     have e2:(⟨l'.toArray⟩:ByteArray).size=l'.length:=by simp[ByteArray.size]
     omega
    simp only[execOp,hop,h1.zV,h2.zV,eqGuard_at_string,binOp,Op.stringOp,Sem.run_bind,Sem.run_pure,Result.andThen_ok,IntKind.max_i64,gt_iff_lt];rw[if_neg hsz];simp[ByteArray.ext_iff]
   case eql=>
    refine fin_same hm hF (cv:= .bool (l==l')) ?_ (.b _) h;simp[execOp,hop,h1.zV,h2.zV,eqGuard_at_string,binOp,Op.stringOp,tl]
   case neq=>
    refine fin_same hm hF (cv:= .bool (!(l==l'))) ?_ (.b _) h;simp[execOp,hop,h1.zV,h2.zV,eqGuard_at_string,binOp,Op.stringOp,tl]
theorem Yr{op:BinOp}{t t':TypeId}{x y:Operand}{x' y':X}{neg:Bool}(hop:o.op= .binOp op t x y t')(hn:op=if neg then .neq else .eql)(ht:P.underlying t=some .bool)(hx:cX x=some x')(hy:cX y=some y')
 (h:ev (fun _ _ _=>False) (fun _ _ _=>False) ρ ob id R (.OZ neg x' y')):o.wp P a w K Q:=by
 have h1:=hρ x x' hx
 have h2:=hρ y y' hy
 simp only[ev]at h
 cases hv:ρ x'<;>rw[hv]at h h1<;>(try simp only[]at h)
 case b n=>
  cases hu:ρ y'<;>rw[hu]at h h2<;>(try simp only[]at h);case b m=>
   refine fin_same hm hF (cv:= .bool (if neg then !(n==m)else n==m)) ?_ (.b _) h;cases neg<;>(simp only[Bool.false_eq_true,if_false,if_true]at hn;subst hn;simp only[execOp,hop,h1.lK,h2.lK,eqGuard_at_bool,Sem.run_bind,Sem.run_pure,Result.andThen_ok,run_eql_bool w t n m ht,run_neq_bool w t n m ht,Bool.false_eq_true,if_false,if_true])
theorem Yt{op:BinOp}{t t' e:TypeId}{x y:Operand}{x':X}{neg:Bool}(hop:o.op= .binOp op t x y t')(hn:op=if neg then .neq else .eql)(ht:P.underlying t=some (.slice e))(hx:cX x=some x')(hy:cX y=some (.k .nl))
 (h:ev (fun _ _ _=>False) (fun _ _ _=>False) ρ ob id R (.JZ neg x')):o.wp P a w K Q:=by
 have h1:=hρ x x' hx
 have e2:=Va (a:=a) hy
 have run:∀(b:Option Addr) (n c:Nat),a.eval x= .slice b n c→(execOp a.eval o).run P w= .ok (.value (.bool (b.isNone != neg))) w:=fun b n c e1=>by
  have g:eqGuard op t x y (.slice b n c) (.slice none 0 0)=pure ():=by cases neg<;>(simp only[Bool.false_eq_true,if_false,if_true]at hn;subst hn;simp[eqGuard])
  cases neg<;>(simp only[Bool.false_eq_true,if_false,if_true]at hn;subst hn;simp only[execOp,hop,e1,e2,g,Sem.run_bind,Sem.run_pure,Result.andThen_ok,Lib.run_eql_slice_nil w t e b n c 0 0 ht,run_neq_slice_nil_any w t e b n c 0 0 ht];cases b<;>rfl)
 simp only[ev]at h
 cases hv:ρ x'<;>rw[hv]at h h1<;>(try exact h.elim)
 case nl=>
  refine fin_same hm hF (cv:= .bool ((none:Option Addr).isNone != neg)) (run none 0 0 h1.jJ) (.b _) ?_;cases neg<;>exact h
 case l sz cs=>
  obtain⟨b,n,cap,f,g,o',e1,h3,h4,h5,h6,h7,_⟩:=h1.nZ;refine fin_same hm hF (run b n cap e1) (.b _) (h _ fun hb=>?_);rcases h7 with h7|⟨rfl,_⟩
  ·exact h7
  ·cases hb
 case ow sz j n=>
  obtain⟨b,cap,e1,_,_,_,h7⟩:=h1.fD;refine fin_same hm hF (run b n cap e1) (.b _) (h _ fun hb=>?_);rcases h7 with h7|⟨g,rfl⟩
  ·exact h7
  ·cases hb
theorem s_un{op:UnOp}{t:TypeId}{x:Operand}{x':X}(hop:o.op= .unOp op t x)(hx:cX x=some x')
 (h:ev (fun _ _ _=>False) (fun _ _ _=>False) ρ ob id R (.un op x')):o.wp P a w K Q:=by
 have h1:=hρ x x' hx
 simp only[ev]at h
 cases op<;>cases hv:ρ x'<;>rw[hv]at h h1<;>(try simp only[]at h)
 all_goals first
  |(refine fin_same hm hF (cv:= .bool _) ?_ (.b _) h;simp[execOp,hop,h1.lK,Op.unary];done)
  |(refine fin_same hm hF (cv:= .int _ _) ?_ (.i _ _) h;simp[execOp,hop,h1.bP,Op.unary,Op.intArith,intBits_xor];done)
  |(obtain⟨q,e1,e2⟩:=h1.inv_f;refine fin_same hm hF (cv:= .float .f64 (Op.negFloat .f64 q)) ?_ (.base (.f _ _ (ZN e2))) h;simp[execOp,hop,e1,Op.unary];done)
theorem s_cvt{s d:TypeId}{k:IntKind}{x:Operand}{x':X}(hop:o.op= .convert s d x){ds:TypeDesc}(hs:P.underlying s=some ds)(hd:P.underlying d=some (.int k))(hx:cX x=some x')
 (h:ev (fun _ _ _=>False) (fun _ _ _=>False) ρ ob id R (.Ou k x')):o.wp P a w K Q:=by
 have h1:=hρ x x' hx
 simp only[ev]at h
 cases hv:ρ x'<;>rw[hv]at h h1<;>(try simp only[]at h)
 case i k' n=>
  refine fin_same hm hF (cv:= .int k (k.wrap n)) ?_ (.i _ _) h;simp[execOp,hop,h1.bP,convert,run_underlying hs,run_underlying hd,Conv.intToInt]
theorem s_six{t:TypeId}{x i:Operand}{x' i':X}(hop:o.op= .index t x i)(ht:P.underlying t=some .string)(hx:cX x=some x')(hi:cX i=some i')
 (h:ev (fun _ _ _=>False) (fun _ _ _=>False) ρ ob id R (.six x' i')):o.wp P a w K Q:=by
 have h1:=hρ x x' hx
 have h2:=hρ i i' hi
 simp only[ev]at h
 cases hv:ρ x'<;>rw[hv]at h h1<;>(try simp only[]at h)
 case s l=>
  cases hu:ρ i'<;>rw[hu]at h h2<;>(try simp only[]at h);case i k n=>
   obtain⟨⟨h0,hl⟩,hR⟩:=h;have hlt:n.toNat<l.length:=om;refine fin_same hm hF (cv:= .int .u8 ((l.getD n.toNat 0).toNat:Int)) ?_ (.i _ _) hR;have e:(⟨l.toArray⟩:ByteArray)[n.toNat]? =some l[n.toNat]:=by
    rw[getElem?_pos (⟨l.toArray⟩:ByteArray) n.toNat (by simpa[ByteArray.size]using hlt)];rfl
   simp[execOp,hop,h1.zV,h2.bP,Instr.index,asIntOf,run_underlying ht,h0,e,List.getD,List.getElem?_eq_getElem hlt]
theorem s_ext{x:Operand}{x':X}{ix:Nat}(hop:o.op= .extract x ix)(hx:cX x=some x')
 (h:ev (fun _ _ _=>False) (fun _ _ _=>False) ρ ob id R (.ext x' ix)):o.wp P a w K Q:=by
 have h1:=hρ x x' hx
 simp only[ev]at h
 cases hv:ρ x'<;>rw[hv]at h h1<;>(try simp only[]at h)
 case t vs=>
  obtain⟨hl,hR⟩:=h;obtain⟨us,e,hn,hr⟩:=h1.O6;have hl':ix<us.length:=om;refine fin_same hm hF (cv:=us[ix]) ?_ (.up (hr ix _ _ (List.getElem?_eq_getElem hl') ?_)) hR
  ·simp[execOp,hop,e,Instr.extract,hl']
  ·simp[List.getD,List.getElem?_eq_getElem hl]
 case tw sz j n rs=>
  obtain⟨ba,cap,us,e,ho,hml,hcp,ha,hr⟩:=h1.DD;cases ix with
  |zero=>exact fin_same hm hF (cv:= .slice ba n cap) (by simp[execOp,hop,e,Instr.extract]) (.ow sz j n cap ba hml hcp ha ho) h
  |succ ix=>
   obtain⟨hl,hR⟩:=h;have hl':ix<us.length:=by have:=hr.1;omega
   refine fin_same hm hF (cv:=us[ix]) ?_ (.up (hr.2 ix _ _ (List.getElem?_eq_getElem hl') ?_)) hR
   ·simp[execOp,hop,e,Instr.extract,hl']
   ·simp[List.getD,List.getElem?_eq_getElem hl]
theorem s_nc{x:Operand}{x':X}(hop:o.op= .nilCheck x)(hx:cX x=some x')
 (h:ev (fun _ _ _=>False) (fun _ _ _=>False) ρ ob id R (.nc x')):o.wp P a w K Q:=by
 have h1:=hρ x x' hx
 simp only[ev]at h
 cases hv:ρ x'<;>rw[hv]at h h1<;>(try simp only[]at h)
 case pt j k=>
  obtain⟨b,u,e,_⟩:=h1.mZ;exact fin_same hm hF (cv:=a.eval x) (by simp[execOp,hop,e]) h1 h
 case ip cs k=>
  obtain⟨f,b,u,e,_⟩:=h1.H7;exact fin_same hm hF (cv:=a.eval x) (by simp[execOp,hop,e]) h1 h
omit hρ in
theorem zg{t e:TypeId}{x:Operand}{x':X}(hop:o.op= .call {callee:= .builtin .len,args:=#[x],argTypes:=#[t]})(ht:P.underlying t=some (.slice e))(hx:cX x=some x')
 {base:Option Addr} {n cap:Nat} (hv:a.eval x= .slice base n cap) (h:R (.i .i64 n) []):o.wp P a w K Q:=by
 refine fin_same hm hF (cv:= .int .i64 n) ?_ (.i _ _) h
 simp only[execOp,hop,resolve,invoke,builtin,hv,List.map_toArray,List.map_cons,List.map_nil,Sem.run_bind,Sem.run_pure,Result.andThen_ok]
 simp[Builtin.len_,run_underlying ht,goInt]
theorem s_mm{mx:Bool}{c:Call}{x y:Operand}{x' y':X}(hop:o.op= .call c)(hc:c.callee= .builtin (if mx then .max else .min))(ha:c.args=#[x,y])(hx:cX x=some x')(hy:cX y=some y')
 (h:ev (fun _ _ _=>False) (fun _ _ _=>False) ρ ob id R (.mm mx x' y')):o.wp P a w K Q:=by
 have h1:=hρ x x' hx
 have h2:=hρ y y' hy
 simp only[ev]at h
 cases hv:ρ x'<;>rw[hv]at h h1<;>(try simp only[]at h)
 case i k n=>
  cases hu:ρ y'<;>rw[hu]at h h2<;>(try simp only[]at h);case i k' m=>
   obtain⟨rfl,hR⟩:=h;refine fin_same hm hF (cv:= .int k (if mx then max n m else min n m)) ?_ (.i _ _) hR;cases mx
   ·have e:(if n>m then m else n)=min n m:=by rw[Int.min_def];split<;>split<;>omega
    simp[execOp,hop,resolve,hc,ha,invoke,builtin,h1.bP,h2.bP,Builtin.min_,Builtin.min2,←e]
   ·have e:(if m>n then m else n)=max n m:=by rw[Int.max_def];split<;>split<;>omega
    simp[execOp,hop,resolve,hc,ha,invoke,builtin,h1.bP,h2.bP,Builtin.max_,Builtin.max2,←e]
end ops
end Go.Proofs.YtcgfgifjkkmmcaaGreatDoor.Ab
namespace Go.Proofs.YtcgfgifjkkmmcaaGreatDoor.Ab
end Go.Proofs.YtcgfgifjkkmmcaaGreatDoor.Ab
namespace Go.Proofs.YtcgfgifjkkmmcaaGreatDoor.Ab
open Go Go.RowKit
section lemmas
variable {P:Program} {w0 w:World} {H0:HS} {H:Nat→Prop} {ov:Nat→Option Value} {ob:Nat→Option Ob}
theorem Mem.at(hm:Mem w0 H0 w H ov ob){j k:Nat}{o:Ob}{x:V}{u:Value}{b:Nat}(ho:ob j=some o)(hx:o.cs[k]? =some x)(hu:ov j=some u)(hb:blk u=some b):
 ∃c,w.cell? ⟨b,k,none⟩=some c∧w.frozen? ⟨b,k,none⟩=false∧Rep w H ov c x∧Ow w0 H0 b:=by
 obtain⟨u',hu',hr⟩:=hm.obj j o ho
 obtain rfl:u=u':=by rw[hu]at hu';exact Option.some.inj hu'
 obtain⟨b',c,hb',hc,hf,hr',hB⟩:=hr.cell hx
 obtain rfl:b=b':=by rw[hb]at hb';exact Option.some.inj hb'
 exact⟨c,hc,hf,hr',hB⟩
theorem rX(t:TypeId)(b k n:Nat)(us:List Value)(hl:us.length=n)(hc:∀j u,us[j]? =some u→w.cell? ⟨b,k+j,none⟩=some u){ti:TypeInfo}(hi:P.info? t=some ti)(hs:ti.size=n){d:TypeDesc}(hd:P.underlying t=some d):
 (j_ P t=true→(Instr.loadAt t (.pointer (some ⟨b,k,none⟩))).run P w= .ok (.agg us.toArray) w)∧
 (j_ P t=false→∀u,us[0]? =some u→(Instr.loadAt t (.pointer (some ⟨b,k,none⟩))).run P w= .ok u w):=by
 have hl':(loadCells ⟨b,k,none⟩ n).run P w= .ok us.toArray w:=by
  rw[←hl];exact run_loadCells_list w ⟨b,k,none⟩ us fun j u hu=>by rw[Addr.add_lit];exact hc j u hu
 have hag:(isAgg t).run P w= .ok (j_ P t) w:=by
  simp only[isAgg,j_,Sem.run_bind,run_underlying hd,Result.andThen_ok,hd];cases d<;>rfl
 constructor
 ·intro h;simp[Instr.loadAt,Instr.sureAddr,loadVar,hag,h,sizeOf,typeInfo,hi,hs,hl']
 ·intro h u hu;have:=hc 0 u hu;simp only[Nat.add_zero]at this;simp[Instr.loadAt,Instr.sureAddr,loadVar,hag,h,this]
theorem aj.drop_take{xs:List Value}{cs:List V}(h:aj w H xs cs)(k n:Nat):aj w H ((xs.drop k).take n) ((cs.drop k).take n):=by
 refine⟨by simp[h.1],fun j v x h1 h2=>?_⟩;rw[List.getElem?_take]at h1 h2;split at h1
 ·rename_i hj;rw[if_pos hj]at h2;rw[List.getElem?_drop]at h1 h2;exact h.2 _ v x h1 h2
 ·cases h1
theorem Mem.row(hm:Mem w0 H0 w H ov ob){j k n:Nat}{o:Ob}{u:Value}{b:Nat}(ho:ob j=some o)(hrf:vH o=false)(hk:k+n≤o.cs.length)(hu:ov j=some u)(hb:blk u=some b):
 ∃us:List Value,us.length=n∧(∀i c,us[i]? =some c→w.cell? ⟨b,k+i,none⟩=some c)∧aj w H us ((o.cs.drop k).take n):=by
 have h1:∀i,i<n→∃c,w.cell? ⟨b,k+i,none⟩=some c∧∀x,o.cs[k+i]? =some x→Rep0 w H c x:=fun i hi=>by
  obtain⟨c,h1,_,h3,_⟩:=hm.at (k:=k+i) (x:=o.cs[k+i]) ho (List.getElem?_eq_getElem om) hu hb;obtain⟨u',_,hor⟩:=hm.obj j o ho;exact⟨c,h1,fun x hx=>by rw[List.getElem?_eq_getElem om]at hx;cases hx;exact h3.down (hor.cl hrf _ (List.getElem_mem _))⟩
 refine⟨(List.range n).map fun i=>(w.cell? ⟨b,k+i,none⟩).getD undef,sy,fun i c hc=>?_,by simp;omega,fun i v x h2 h3=>?_⟩
 ·simp only[List.getElem?_map,List.getElem?_range,Option.map_eq_some_iff]at hc;obtain⟨i',hi',rfl⟩:=hc;have hi:i<n:=by
   rcases Nat.lt_or_ge i n with h|h
   ·exact h
   ·simp[List.getElem?_eq_none,h]at hi'
  obtain rfl:i=i':=by simp[List.getElem?_range hi]at hi';exact hi'
  obtain⟨c,hc,_⟩:=h1 i hi;rw[hc];rfl
 ·rw[List.getElem?_take]at h3;split at h3
  ·rename_i hi;rw[List.getElem?_drop]at h3;obtain⟨c,hc,hr⟩:=h1 i hi;simp only[List.getElem?_map,List.getElem?_range hi,Option.map_some,hc,Option.getD_some,Option.some.injEq]at h2;subst h2;exact hr x h3
  ·cases h3
theorem O7{cs:List V}{k n b o:Nat}{f:Nat→Value}(hk:k+n≤cs.length)(hc:∀j,j<cs.length→w.cell? ⟨b,o+j,none⟩=some (f j))(hr:∀(j:Nat) (x:V),cs[j]? =some x→Rep0 w H (f j) x):
 ∃us:List Value,us.length=n∧(∀i c,us[i]? =some c→w.cell? ⟨b,o+k+i,none⟩=some c)∧aj w H us ((cs.drop k).take n):=by
 refine⟨(List.range n).map fun i=>f (k+i),sy,fun i c h=>?_,by simp;omega,fun i v x h2 h3=>?_⟩
 ·have hi:i<n:=by
   rcases Nat.lt_or_ge i n with h'|h'
   ·exact h'
   ·simp[h']at h
  simp only[List.getElem?_map,List.getElem?_range hi,Option.map_some,Option.some.injEq]at h;subst h;rw[Nat.add_assoc];exact hc _ om
 ·rw[List.getElem?_take]at h3;split at h3
  ·rename_i hi;rw[List.getElem?_drop]at h3;simp only[List.getElem?_map,List.getElem?_range hi,Option.map_some,Option.some.injEq]at h2;subst h2;exact hr _ x h3
  ·cases h3
end lemmas
section ops
variable {P:Program} {w0 w:World} {H0:HS} {H:Nat→Prop} {ov:Nat→Option Value} {ob:Nat→Option Ob} {id:Nat} {ρ:X→V} {a:Act} {o:Oper} {K:Act→World→Prop} {Q:Exit→Act→World→Prop}
 {R:V→List (Nat×Option Ob)→Prop}
variable (hm:Mem w0 H0 w H ov ob) (hρ:∀p x,cX p=some x→Rep w H ov (a.eval p) (ρ x)) (hF:Fin w0 H0 w H ov ob id R a o.dst K)
include hm hρ hF
theorem s_ld{t:TypeId}{p:Operand}{p':X}{ti:TypeInfo}{d:TypeDesc}(hop:o.op= .load t p)(hp:cX p=some p')(hi:P.info? t=some ti)(hd:P.underlying t=some d)
 (h:ev (fun _ _ _=>False) (fun _ _ _=>False) ρ ob id R (.ld (j_ P t) ti.size p')):o.wp P a w K Q:=by
 have h1:=hρ p p' hp
 simp only[ev]at h
 cases hv:ρ p'<;>rw[hv]at h h1<;>(try simp only[]at h)
 case ip cs k=>
  obtain⟨f,b,q,e,hb,hc,hr⟩:=h1.H7;cases hag:j_ P t<;>rw[hag]at h<;>simp only[Bool.false_eq_true,if_false,if_true]at h
  ·obtain⟨hk,hR⟩:=h;obtain⟨us,hl,hus,hra⟩:=O7 (w:=w) (H:=H) (n:=1) hk hc hr;obtain⟨u,hu⟩:∃u,us[0]? =some u:=⟨us[0],List.getElem?_eq_getElem om⟩;have h0:=hus 0 u hu;have hag':(isAgg t).run P w= .ok false w:=by
    rw[←hag];simp only[isAgg,j_,Sem.run_bind,run_underlying hd,Result.andThen_ok,hd];cases d<;>rfl
   refine fin_same hm hF (cv:=u) ?_ (.up (hra.2 0 u (cs.getD k .un) hu ?_)) hR
   ·simp only[Nat.add_zero]at h0;simp[execOp,hop,e,Instr.loadAt,Instr.sureAddr,loadVar,hag',h0]
   ·simp[List.getElem?_take,List.getD,List.getElem?_eq_getElem hk]
  ·obtain⟨hk,hR⟩:=h;obtain⟨us,hl,hus,hra⟩:=O7 (w:=w) (H:=H) hk hc hr;refine fin_same hm hF (cv:= .agg us.toArray) ?_ (.up (.g us _ hra.1 hra.2)) hR;simp[execOp,hop,e,(rX (P:=P) t b (q+k) ti.size us hl hus hi rfl hd).1 hag]
 case pt j k=>
  obtain⟨b,u,e,hu,hb⟩:=h1.mZ;cases ho:ob j with
  |none=>rw[ho]at h;exact h.elim
  |some oo=>
   rw[ho]at h;cases hag:j_ P t<;>rw[hag]at h<;>simp only[Bool.false_eq_true,if_false,if_true]at h
   ·obtain⟨hk,hR⟩:=h;obtain⟨c,hc,_,hr,_⟩:=hm.at ho (List.getElem?_eq_getElem hk) hu hb;have hag':(isAgg t).run P w= .ok false w:=by
     rw[←hag];simp only[isAgg,j_,Sem.run_bind,run_underlying hd,Result.andThen_ok,hd];cases d<;>rfl
    refine fin_same hm hF (cv:=c) ?_ (v:=oo.cs.getD k .un) ?_ hR
    ·simp[execOp,hop,e,Instr.loadAt,Instr.sureAddr,loadVar,hag',hc]
    ·simpa[List.getD,List.getElem?_eq_getElem hk]using hr
   ·obtain⟨⟨hk,hrf⟩,hR⟩:=h;obtain⟨us,hl,hus,hra⟩:=hm.row ho hrf hk hu hb;refine fin_same hm hF (cv:= .agg us.toArray) ?_ (.up (.g us _ hra.1 hra.2)) hR;simp[execOp,hop,e,(rX (P:=P) t b k ti.size us hl hus hi rfl hd).1 hag]
theorem s_idx{t e:TypeId}{x i:Operand}{x' i':X}{ti:TypeInfo}(hop:o.op= .indexAddr t x i)(ht:P.underlying t=some (.slice e))(hi:P.info? e=some ti)(hx:cX x=some x')(hix:cX i=some i')
 (h:ev (fun _ _ _=>False) (fun _ _ _=>False) ρ ob id R (.idx ti.size x' i')):o.wp P a w K Q:=by
 have h1:=hρ x x' hx
 have h2:=hρ i i' hix
 simp only[ev]at h
 have run:∀(b k:Nat) (len cap:Nat) (kk:IntKind) (n:Int),0≤n→n<len→a.eval x= .slice (some ⟨b,k,none⟩) len cap→a.eval i= .int kk n→
  (execOp a.eval o).run P w= .ok (.value (.pointer (some ⟨b,k+n.toNat*ti.size,none⟩))) w:=fun b k len cap kk n h0 hl he hn=>by
  simp[execOp,hop,he,hn,Instr.indexAt,asIntOf,run_underlying ht,h0,hl,sizeOf,typeInfo,hi,Addr.add_lit]
 cases hv:ρ x'<;>rw[hv]at h h1<;>(try simp only[]at h)
 case l s cs=>
  cases hu:ρ i'<;>rw[hu]at h h2<;>(try simp only[]at h);case i k n=>
   obtain⟨⟨hs,h0,hl⟩,hR⟩:=h;obtain⟨ba,m,cap,f,b,q,e1,hsz,hn,hm',hcp,ha,hc,hr⟩:=h1.nZ;have hlt:n.toNat<m:=by
    rcases Nat.lt_or_ge n.toNat m with h'|h'
    ·exact h'
    ·have:=Nat.mul_le_mul_right s h';rw[hs]at this;rw[hs]at hn;omega
   rcases ha with rfl|⟨rfl,hb⟩
   ·simp at hl
   ·exact fin_same hm hF (run b q m cap k n h0 om e1 h2.bP) (.up (.ip cs _ f b q hb hc hr)) hR
 case ow s j m=>
  cases hu:ρ i'<;>rw[hu]at h h2<;>(try simp only[]at h);case i k n=>
   obtain⟨⟨hs,h0,hl⟩,hR⟩:=h;obtain⟨ba,cap,e1,ho,hm',hcp,ha⟩:=h1.fD;rcases ha with h'|⟨b,rfl⟩
   ·omega
   ·have hrun:=run b 0 m cap k n h0 hl e1 h2.bP;rw[Nat.zero_add]at hrun;exact fin_same hm hF hrun (.pt j _ b _ ho (by rw[e1];rfl)) hR
 case sl s j off m=>
  cases hu:ρ i'<;>rw[hu]at h h2<;>(try simp only[]at h);case i k n=>
   obtain⟨⟨hs,h0,hl⟩,hR⟩:=h;obtain⟨ba,cap,u,e1,hm',hcp,ho,ha⟩:=h1.ku;rcases ha with h'|⟨b,hb,rfl⟩
   ·omega
   ·exact fin_same hm hF (run b off m cap k n h0 hl e1 h2.bP) (.pt j _ b u ho hb) hR
theorem s_fad{t:TypeId}{p:Operand}{p':X}{i:Nat}{fs:Array Field}{fd:Field}{ti:TypeInfo}(hop:o.op= .fieldAddr t p i)(ht:P.underlying t=some (.struct fs))(hf:fs[i]? =some fd)(hi:P.info? fd.type=some ti)(hsz:0<ti.size)(hp:cX p=some p')
 (h:ev (fun _ _ _=>False) (fun _ _ _=>False) ρ ob id R (.zT fd.offset p')):o.wp P a w K Q:=by
 have h1:=hρ p p' hp
 simp only[ev]at h
 have run:∀b k:Nat,a.eval p= .pointer (some ⟨b,k,none⟩)→(execOp a.eval o).run P w= .ok (.value (.pointer (some ⟨b,k+fd.offset,none⟩))) w:=fun b k e=>by
  have hz:¬ti.size=0:=om;simp[execOp,hop,e,Instr.fieldAt,run_underlying ht,hf,Instr.sureAddr,fieldPlace,sizeOf,typeInfo,hi,hz,Addr.add_lit]
 cases hv:ρ p'<;>rw[hv]at h h1<;>(try simp only[]at h)
 case ip cs k=>
  obtain⟨f,b,q,e,hb,hc,hr⟩:=h1.H7;have hrun:=run b (q+k) e;rw[Nat.add_assoc]at hrun;exact fin_same hm hF hrun (.up (.ip cs _ f b q hb hc hr)) h
 case pt j k=>
  obtain⟨b,u,e,hu,hb⟩:=h1.mZ;exact fin_same hm hF (run b k e) (.pt j _ b u hu hb) h
omit hm hF hρ in
theorem uw{x:Option Operand}{x':Option X}(h:ZW x=some x'):(x=none∧x'=none)∨∃y y',x=some y∧x'=some y'∧cX y=some y':=by
 cases x with
 |none=>left;simp[ZW]at h;exact⟨rfl,h.symm⟩
 |some y=>
  right;simp[ZW]at h;obtain⟨y',h1,rfl⟩:=h;exact⟨y,y',rfl,rfl,h1⟩
omit hm hF hρ in
theorem Vb{t e:TypeId}{ti:TypeInfo}(ht:P.underlying t=some (.slice e))(hi:P.info? e=some ti)(ba:Option Addr)(n cap:Nat)(lo hi':Option Value)(l h:Nat)(hlo:(lo=none∧l=0)∨∃k,lo=some (.int k (l:Int)))(hhi:(hi'=none∧h=n)∨∃k,hi'=some (.int k (h:Int)))
 (h1:l≤h) (h2:h≤cap):(Instr.sliceAt t (.slice ba n cap) lo hi' none).run P w= .ok (.slice (if cap=l then ba else ba.map (·.add (l*ti.size))) (h-l) (cap-l)) w:=by
 have h1':(l:Int)≤h:=om
 have h2':(h:Int)≤cap:=om
 rcases hlo with ⟨rfl,rfl⟩|⟨k,rfl⟩<;>rcases hhi with ⟨rfl,rfl⟩|⟨k',rfl⟩<;>
  simp[Instr.sliceAt,Instr.slice,Instr.sliceBounds,Instr.sliceBound,asIntOf,run_underlying ht,sizeOf,typeInfo,hi,h1,h2]
omit hm hF hρ in
theorem oV{sz:Nat}{cs:List V}{ba:Option Addr}{n cap l h:Nat}(hr:Rep w H ov (.slice ba n cap) (.l sz cs))(h1:l≤h)(h2:h≤n):
 Rep w H ov (.slice (if cap=l then ba else ba.map (·.add (l*sz))) (h-l) (cap-l)) (.l sz ((cs.take (h*sz)).drop (l*sz))):=by
 obtain⟨_,_,_,f,b,o,e,hsz,hn,hm,hcp,ha,hc,hr'⟩:=hr.nZ
 cases e
 have hle:h*sz≤n*sz:=Nat.mul_le_mul_right _ h2
 have hlen:((cs.take (h*sz)).drop (l*sz)).length=(h-l)*sz:=by
  rw[List.length_drop,List.length_take,Nat.sub_mul,hn];omega
 refine .up (.l _ _ _ sz _ (fun j=>f (l*sz+j)) b (o+l*sz) hsz hlen om om ?_ (fun j hj=>?_) (fun j x hx=>?_))
 ·by_cases hE:(cs.take (h*sz)).drop (l*sz)=[]
  ·exact .inl hE
  ·right;have hpos:0<(h-l)*sz:=by rw[←hlen];exact List.length_pos_iff.2 hE
   have hl:l<h:=by
    rcases Nat.lt_or_ge l h with h'|h'
    ·exact h'
    ·rw[Nat.sub_eq_zero_of_le h',Nat.zero_mul]at hpos;omega
   rcases ha with rfl|⟨rfl,hb⟩
   ·simp at hE
   ·rw[if_neg om];exact⟨by simp[Addr.add_lit],hb⟩
 ·rw[hlen]at hj;have hj':l*sz+j<cs.length:=by
   rw[hn];have:l*sz+(h-l)*sz=h*sz:=by rw[←Nat.add_mul];congr 1;omega
   omega
  rw[Nat.add_assoc];exact hc _ hj'
 ·rw[List.getElem?_drop,List.getElem?_take]at hx;split at hx
  ·exact hr' _ x hx
  ·cases hx
omit hm hF hρ in
theorem jv{sz j off n cap l h:Nat}{ba:Option Addr}(hr:Rep w H ov (.slice ba n cap) (.sl sz j off n))(h1:l≤h)(h2:h≤n):
 Rep w H ov (.slice (if cap=l then ba else ba.map (·.add (l*sz))) (h-l) (cap-l)) (.sl sz j (off+l*sz) (h-l)):=by
 have hz0:=fun(h0:off=0) (hs:0<sz)=>Rep.J4 hs (h0▸hr)
 obtain⟨_,_,u,e,hm,hcp,ho,ha⟩:=hr.ku
 cases e
 refine .sl _ _ _ _ _ _ u om om ho ?_ (fun h0 hs=>?_)
 rotate_left 1
 ·have hl0:l=0:=by
   rcases Nat.mul_eq_zero.1 (show l*sz=0 by omega)with h|h<;>omega
  subst hl0;obtain⟨_,_,m,e,_,_,ho2⟩:=hz0 om hs;cases e;rw[ho]at ho2;refine⟨m,?_⟩;rw[Option.some.inj ho2,Nat.sub_zero,Nat.zero_mul];congr 1;split
  ·rfl
  ·cases ba with
   |none=>rfl
   |some x=>simp[Addr.add]
 by_cases hl:h-l=0
 ·exact .inl hl
 ·right;rcases ha with ha|⟨b,hb,rfl⟩
  ·omega
  ·refine⟨b,hb,?_⟩;rw[if_neg om];simp[Addr.add_lit]
omit hm hF hρ in
theorem xH{sz j n:Nat}{v:Value}(hr:Rep w H ov v (.ow sz j n)):Rep w H ov v (.sl sz j 0 n):=by
 obtain⟨a,cap,rfl,ho,hm,hcp,ha⟩:=hr.fD;exact .sl _ _ _ _ _ _ _ hm hcp ho (ha.imp id fun⟨b,e⟩=>⟨b,by rw[e];rfl,e⟩) (fun _ _=>⟨_,rfl⟩)
theorem s_sub{t e:TypeId}{x:Operand}{lo hi:Option Operand}{x':X}{lo' hi':Option X}{ti:TypeInfo}(hop:o.op= .slice t x lo hi none)(ht:P.underlying t=some (.slice e))(hi0:P.info? e=some ti)(hx:cX x=some x')(hlo:ZW lo=some lo')(hhi:ZW hi=some hi')
 (h:ev (fun _ _ _=>False) (fun _ _ _=>False) ρ ob id R (.sub ti.size x' lo' hi')):o.wp P a w K Q:=by
 have h1:=hρ x x' hx
 simp only[ev]at h
 have run:∀(ba:Option Addr) (n cap l hh:Nat),a.eval x= .slice ba n cap→((lo.map a.eval=none∧l=0)∨∃k,lo.map a.eval=some (.int k (l:Int)))→((hi.map a.eval=none∧hh=n)∨∃k,hi.map a.eval=some (.int k (hh:Int)))→l≤hh→hh≤cap→
  (execOp a.eval o).run P w= .ok (.value (.slice (if cap=l then ba else ba.map (·.add (l*ti.size))) (hh-l) (cap-l))) w:=fun ba n cap l hh e hl hh' h1 h2=>by
  have:=Vb (P:=P) (w:=w) ht hi0 ba n cap _ _ l hh hl hh' h1 h2
  simp[execOp,hop,e,this]
 have A0:∀(k:IntKind) (n:Int) (y:Operand),a.eval y= .int k n→0≤n→∃k',(some y).map a.eval=some (.int k' (n.toNat:Int)):=fun k n y e h0=>⟨k,by simp[e,Int.toNat_of_nonneg h0]⟩
 have toN:∀(n:Int) (m:Nat),0≤n→n≤m→n.toNat≤m:=fun n m _ _=>om
 cases hv:ρ x'<;>rw[hv]at h h1<;>(try simp only[]at h)
 case l s cs=>
  obtain⟨ba,n,cap,f,b,q,e1,hsz,hn,hm',hcp,ha,hc,hr⟩:=h1.nZ;rw[e1]at h1;have O8:∀m:Nat,m*s≤cs.length→m≤n:=fun m hmm=>by rw[hn]at hmm;exact Nat.le_of_mul_le_mul_right hmm hsz
  rcases uw hlo with ⟨rfl,rfl⟩|⟨y,y',rfl,rfl,hy⟩<;>rcases uw hhi with ⟨rfl,rfl⟩|⟨z,z',rfl,rfl,hz⟩<;>simp only[Option.map_none,Option.map_some]at h
  ·obtain⟨rfl,hR⟩:=h;have hk:=oV (l:=0) (h:=n) h1 (Nat.zero_le _) (Nat.le_refl _);rw[←hn,List.take_length,Nat.zero_mul,List.drop_zero]at hk;exact fin_same hm hF (run ba n cap 0 n e1 (.inl ⟨rfl,rfl⟩) (.inl ⟨rfl,rfl⟩) (Nat.zero_le _) hcp) (by simpa using hk) hR
  ·have h3:=hρ z z' hz;cases hu:ρ z'<;>rw[hu]at h h3<;>(try simp only[]at h);case i k m=>
    obtain⟨⟨rfl,h0,hl⟩,hR⟩:=h;have hle:=O8 _ hl;have hk:=oV (l:=0) (h:=m.toNat) h1 (Nat.zero_le _) hle;rw[Nat.zero_mul,List.drop_zero]at hk;exact fin_same hm hF (run ba n cap 0 m.toNat e1 (.inl ⟨rfl,rfl⟩) (.inr (A0 k m z h3.bP h0)) (Nat.zero_le _) om) (by simpa using hk) hR
  ·have h3:=hρ y y' hy;cases hu:ρ y'<;>rw[hu]at h h3<;>(try simp only[]at h);case i k m=>
    obtain⟨⟨rfl,h0,hl⟩,hR⟩:=h;have hle:=O8 _ hl;have hk:=oV (l:=m.toNat) (h:=n) h1 hle (Nat.le_refl _);rw[←hn,List.take_length]at hk;exact fin_same hm hF (run ba n cap m.toNat n e1 (.inr (A0 k m y h3.bP h0)) (.inl ⟨rfl,rfl⟩) hle hcp) hk hR
  ·have h3:=hρ y y' hy;have h4:=hρ z z' hz;cases hu:ρ y'<;>rw[hu]at h h3<;>(try simp only[]at h);case i k m=>
    cases hu':ρ z'<;>rw[hu']at h h4<;>(try simp only[]at h);case i k' m'=>
     obtain⟨⟨rfl,h0,hmm,hl⟩,hR⟩:=h;have hle:=O8 _ hl;exact fin_same hm hF (run ba n cap m.toNat m'.toNat e1 (.inr (A0 k m y h3.bP h0)) (.inr (A0 k' m' z h4.bP om)) om om) (oV h1 om hle) hR
 case ow s j n=>
  obtain⟨ba,cap,e1,ho,hm',hcp,ha⟩:=h1.fD;have hs:=xH h1;rw[e1]at h1 hs;rcases uw hlo with ⟨rfl,rfl⟩|⟨y,y',rfl,rfl,hy⟩<;>rcases uw hhi with ⟨rfl,rfl⟩|⟨z,z',rfl,rfl,hz⟩<;>simp only[Option.map_none,Option.map_some]at h
  ·obtain⟨rfl,hR⟩:=h;refine fin_same hm hF (cv:= .slice ba n cap) ?_ h1 hR;have hrun:=run ba n cap 0 n e1 (.inl ⟨rfl,rfl⟩) (.inl ⟨rfl,rfl⟩) (Nat.zero_le _) hcp;rw[hrun];rcases ha with rfl|⟨b,rfl⟩
   ·cases ba<;>simp[Addr.add]
   ·simp[Addr.add]
  ·have h3:=hρ z z' hz;cases hu:ρ z'<;>rw[hu]at h h3<;>(try simp only[]at h);case i k m=>
    obtain⟨⟨rfl,h0,hl⟩,hR⟩:=h;have hk:=jv (l:=0) (h:=m.toNat) hs (Nat.zero_le _) om;exact fin_same hm hF (run ba n cap 0 m.toNat e1 (.inl ⟨rfl,rfl⟩) (.inr (A0 k m z h3.bP h0)) (Nat.zero_le _) om) (by simpa using hk) hR
  ·have h3:=hρ y y' hy;cases hu:ρ y'<;>rw[hu]at h h3<;>(try simp only[]at h);case i k m=>
    obtain⟨⟨rfl,h0,hl⟩,hR⟩:=h;have hk:=jv (l:=m.toNat) (h:=n) hs om (Nat.le_refl _);rw[Nat.zero_add]at hk;exact fin_same hm hF (run ba n cap m.toNat n e1 (.inr (A0 k m y h3.bP h0)) (.inl ⟨rfl,rfl⟩) om hcp) hk hR
  ·have h3:=hρ y y' hy;have h4:=hρ z z' hz;cases hu:ρ y'<;>rw[hu]at h h3<;>(try simp only[]at h);case i k m=>
    cases hu':ρ z'<;>rw[hu']at h h4<;>(try simp only[]at h);case i k' m'=>
     obtain⟨⟨rfl,h0,hmm,hl⟩,hR⟩:=h;have hk:=jv (l:=m.toNat) (h:=m'.toNat) hs om om;rw[Nat.zero_add]at hk;exact fin_same hm hF (run ba n cap m.toNat m'.toNat e1 (.inr (A0 k m y h3.bP h0)) (.inr (A0 k' m' z h4.bP om)) om om) hk hR
 case sl s j off n=>
  obtain⟨ba,cap,u,e1,hm',hcp,ho,ha⟩:=h1.ku;rw[e1]at h1;rcases uw hlo with ⟨rfl,rfl⟩|⟨y,y',rfl,rfl,hy⟩<;>rcases uw hhi with ⟨rfl,rfl⟩|⟨z,z',rfl,rfl,hz⟩<;>simp only[Option.map_none,Option.map_some]at h
  ·obtain⟨rfl,hR⟩:=h;have hk:=jv (l:=0) (h:=n) h1 (Nat.zero_le _) (Nat.le_refl _);exact fin_same hm hF (run ba n cap 0 n e1 (.inl ⟨rfl,rfl⟩) (.inl ⟨rfl,rfl⟩) (Nat.zero_le _) hcp) (by simpa using hk) hR
  ·have h3:=hρ z z' hz;cases hu:ρ z'<;>rw[hu]at h h3<;>(try simp only[]at h);case i k m=>
    obtain⟨⟨rfl,h0,hl⟩,hR⟩:=h;have hk:=jv (l:=0) (h:=m.toNat) h1 (Nat.zero_le _) om;exact fin_same hm hF (run ba n cap 0 m.toNat e1 (.inl ⟨rfl,rfl⟩) (.inr (A0 k m z h3.bP h0)) (Nat.zero_le _) om) (by simpa using hk) hR
  ·have h3:=hρ y y' hy;cases hu:ρ y'<;>rw[hu]at h h3<;>(try simp only[]at h);case i k m=>
    obtain⟨⟨rfl,h0,hl⟩,hR⟩:=h;exact fin_same hm hF (run ba n cap m.toNat n e1 (.inr (A0 k m y h3.bP h0)) (.inl ⟨rfl,rfl⟩) om hcp) (jv h1 om (Nat.le_refl _)) hR
  ·have h3:=hρ y y' hy;have h4:=hρ z z' hz;cases hu:ρ y'<;>rw[hu]at h h3<;>(try simp only[]at h);case i k m=>
    cases hu':ρ z'<;>rw[hu']at h h4<;>(try simp only[]at h);case i k' m'=>
     obtain⟨⟨rfl,h0,hmm,hl⟩,hR⟩:=h;exact fin_same hm hF (run ba n cap m.toNat m'.toNat e1 (.inr (A0 k m y h3.bP h0)) (.inr (A0 k' m' z h4.bP om)) om om) (jv h1 om om) hR
 case nl=>
  have e1:=h1.jJ;have nl':∀l hh:Nat,l=0→hh=0→Rep w H ov (.slice (if 0=l then none else(none:Option Addr).map (·.add (l*ti.size))) (hh-l) (0-l)) .nl:=fun l hh e e'=>by subst e;subst e';exact .nl
  rcases uw hlo with ⟨rfl,rfl⟩|⟨y,y',rfl,rfl,hy⟩<;>rcases uw hhi with ⟨rfl,rfl⟩|⟨z,z',rfl,rfl,hz⟩<;>simp only[Option.map_none,Option.map_some]at h
  ·exact fin_same hm hF (run none 0 0 0 0 e1 (.inl ⟨rfl,rfl⟩) (.inl ⟨rfl,rfl⟩) (Nat.le_refl _) (Nat.le_refl _)) (nl' 0 0 rfl rfl) h
  ·have h3:=hρ z z' hz;cases hu:ρ z'<;>rw[hu]at h h3<;>(try simp only[]at h);case i k m=>
    obtain⟨rfl,hR⟩:=h;exact fin_same hm hF (run none 0 0 0 0 e1 (.inl ⟨rfl,rfl⟩) (.inr (A0 k 0 z h3.bP om)) (Nat.le_refl _) (Nat.le_refl _)) (nl' 0 0 rfl rfl) hR
  ·have h3:=hρ y y' hy;cases hu:ρ y'<;>rw[hu]at h h3<;>(try simp only[]at h);case i k m=>
    obtain⟨rfl,hR⟩:=h;exact fin_same hm hF (run none 0 0 0 0 e1 (.inr (A0 k 0 y h3.bP om)) (.inl ⟨rfl,rfl⟩) (Nat.le_refl _) (Nat.le_refl _)) (nl' 0 0 rfl rfl) hR
  ·have h3:=hρ y y' hy;have h4:=hρ z z' hz;cases hu:ρ y'<;>rw[hu]at h h3<;>(try simp only[]at h);case i k m=>
    cases hu':ρ z'<;>rw[hu']at h h4<;>(try simp only[]at h);case i k' m'=>
     obtain⟨⟨rfl,rfl⟩,hR⟩:=h;exact fin_same hm hF (run none 0 0 0 0 e1 (.inr (A0 k 0 y h3.bP om)) (.inr (A0 k' 0 z h4.bP om)) (Nat.le_refl _) (Nat.le_refl _)) (nl' 0 0 rfl rfl) hR
 case kn v x=>
  cases v<;>(try simp only[]at h);case slice ba n cap=>
   cases x<;>(try simp only[]at h);case l s cs=>
    obtain⟨e1,h5⟩:=h1.DC;have h6:Rep w H ov (.slice ba n cap) (.l s cs):= .base h5;rcases uw hlo with ⟨rfl,rfl⟩|⟨y,y',rfl,rfl,hy⟩<;>rcases uw hhi with ⟨rfl,rfl⟩|⟨z,z',rfl,rfl,hz⟩<;>simp only[Option.map_none,Option.map_some]at h
    ·have h3:=hρ z z' hz;cases hu:ρ z'<;>rw[hu]at h h3<;>(try simp only[]at h);case i k m=>
      obtain⟨⟨rfl,h0,hl,hcp,g,rfl⟩,hR⟩:=h;have hcap:n≤cap:=by
       cases h5;assumption
      have hk:=oV (l:=0) (h:=m.toNat) h6 (Nat.zero_le _) om;rw[Nat.zero_mul,List.drop_zero]at hk;have hrun:=run (some ⟨g,0,none⟩) n cap 0 m.toNat e1 (.inl ⟨rfl,rfl⟩) (.inr (A0 k m z h3.bP h0)) (Nat.zero_le _) om;have ea:(if cap=0 then(some ⟨g,0,none⟩:Option Addr)else(some ⟨g,0,none⟩:Option Addr).map (·.add (0*ti.size)))=some ⟨g,0,none⟩:=by
       split
       ·rfl
       ·simp[Addr.add]
      rw[ea]at hrun;rw[Nat.zero_mul]at ea;rw[ea]at hk;exact fin_same hm hF hrun (by
       have hk':=hk.down rfl;simp only[Nat.sub_zero]at hk' ⊢;exact .base (.kn _ _ hk')) hR
end ops
end Go.Proofs.YtcgfgifjkkmmcaaGreatDoor.Ab
namespace Go.Proofs.YtcgfgifjkkmmcaaGreatDoor.Ab
open Go Go.RowKit
section
variable {w0 w w':World} {H0:HS} {H:Nat→Prop} {ov:Nat→Option Value} {ob:Nat→Option Ob}
def dQ(ob:Nat→Option Ob)(up:List (Nat×Option Ob)):Prop:=∀k x,(k,x)∈up→∃o,ob k=some o∧x=some {o with mu:=false}
theorem dQ.nil:dQ ob []:=fun _ _ h=>by cases h
theorem dQ.append{u1 u2:List (Nat×Option Ob)}(h1:dQ ob u1)(h2:dQ ob u2):dQ ob (u1++u2):=fun k x h=>(List.mem_append.1 h).elim (h1 k x) (h2 k x)
theorem iR(v:V):dQ ob (eF ob v):=by
 intro k x h;cases v<;>simp only[eF]at h<;>(try cases h);all_goals
  split at h
  ·rename_i o ho;simp only[List.mem_singleton,Prod.mk.injEq]at h;obtain⟨rfl,rfl⟩:=h;exact⟨o,ho,rfl⟩
  ·cases h
theorem gY{α:Type}(l:List α)(f:α→V):dQ ob (l.flatMap fun p=>eF ob (f p)):=by
 intro k x h;obtain⟨p,_,hp⟩:=List.mem_flatMap.1 h;exact iR _ k x hp
theorem jD(up:List (Nat×Option Ob))(i:Nat):(upd ob up i=ob i∧∀x,(i,x) ∉ up)∨(i,upd ob up i)∈up:=by
 induction up with
 |nil=>exact .inl ⟨rfl,fun _ h=>by cases h⟩
 |cons p r ih=>
  obtain⟨k,v⟩:=p;simp only[upd];split
  ·rename_i hk;subst hk;exact .inr (List.mem_cons_self)
  ·rename_i hk;rcases ih with ⟨h1,h2⟩|h
   ·refine .inl ⟨h1,fun x h=>?_⟩;rcases List.mem_cons.1 h with e|h
    ·cases e;exact hk rfl
    ·exact h2 x h
   ·exact .inr (List.mem_cons_of_mem _ h)
theorem dU.lt{O:Nat→Prop}{v:Value}{o:Ob}(h:dU w H O ov v o){b:Nat}(hb:blk v=some b):O b∧b<w.heap.size:=by
 refine⟨h.ow b hb,?_⟩;rcases h.bd with ⟨_,⟨b',cur,rfl,hB,hh,_⟩|⟨_,n,xs,hown,_⟩⟩|⟨_,_,n,xs,hown,_⟩
 ·cases hb;exact(Array.getElem?_eq_some_iff.1 hh).1
 ·rcases hown.2 with ⟨rfl,_⟩|⟨g,cap,cur,rfl,hB,hh,_⟩
  ·cases hb
  ·cases hb;exact(Array.getElem?_eq_some_iff.1 hh).1
 ·rcases hown.2 with ⟨rfl,_⟩|⟨g,cap,cur,rfl,hB,hh,_⟩
  ·cases hb
  ·cases hb;exact(Array.getElem?_eq_some_iff.1 hh).1
theorem Mem.freeze(hm:Mem w0 H0 w H ov ob){up:List (Nat×Option Ob)}(hu:dQ ob up):
 ∃H':Nat→Prop,Ext w H ov w H' ov∧Mem w0 H0 w H' ov (upd ob up)∧(∀k x u b,(k,x)∈up→ov k=some u→blk u=some b→H' b)∧
  (∀b,H' b→H b∨∃k x u,(k,x)∈up∧ov k=some u∧blk u=some b):=by
 have alive:∀i o,upd ob up i=some o→∃o',ob i=some o'∧((o=o'∧∀x,(i,x) ∉ up)∨(o={o' with mu:=false}∧∃x,(i,x)∈up)):=fun i o h=>by
  rcases jD (ob:=ob) up i with ⟨h1,h2⟩|h1
  ·exact⟨o,h1▸h,.inl ⟨rfl,h2⟩⟩
  ·obtain⟨o',ho',e⟩:=hu _ _ h1;rw[h]at e;exact⟨o',ho',.inr ⟨Option.some.inj e,_,h1⟩⟩
 refine⟨fun b=>H b∨∃k x u,(k,x)∈up∧ov k=some u∧blk u=some b,⟨fun b h=> .inl h,fun _ _=>rfl,fun _ _ h=>h⟩,⟨hm.bel,hm.tj.mono (fun _ h=> .inl h) (fun _ _=>rfl),?_,?_,?_,?_⟩,fun k x u b h1 h2 h3=> .inr ⟨k,x,u,h1,h2,h3⟩,fun b h=>h⟩
 ·rintro b (h|⟨k,x,u,h1,h2,h3⟩)
  ·exact hm.uk b h
  ·obtain⟨o,ho,_⟩:=hu _ _ h1;obtain⟨u',hu',hr⟩:=hm.obj k o ho;rw[h2]at hu';cases hu';exact(hr.lt h3).2
 ·rintro b (h|⟨k,x,u,h1,h2,h3⟩) hb
  ·exact hm.low b h hb
  ·obtain⟨o,ho,_⟩:=hu _ _ h1;obtain⟨u',hu',hr⟩:=hm.obj k o ho;rw[h2]at hu';cases hu';rcases(hr.lt h3).1 with h4|h4
   ·omega
   ·exact .inr h4
 ·intro i o hi;obtain⟨o',ho',hc⟩:=alive i o hi;obtain⟨u,hu',hr⟩:=hm.obj i o' ho';refine⟨u,hu',?_⟩;have mono:∀{xs:List Value} {cs:List V},aj w H xs cs→aj w (fun b=>H b∨∃k x u,(k,x)∈up∧ov k=some u∧blk u=some b) xs cs:=fun h=>h.mono (fun b h=> .inl h) (fun _ _=>rfl)
  have J5:∀{xs:List Value} {cs:List V},jU w H ov xs cs→jU w (fun b=>H b∨∃k x u,(k,x)∈up∧ov k=some u∧blk u=some b) ov xs cs:=fun h=>h.mono ⟨fun b h=> .inl h,fun _ _=>rfl,fun _ _ h=>h⟩
  rcases hc with ⟨rfl,hno⟩|⟨rfl,x,hx⟩
  ·refine⟨hr.w_,hr.ow,fun b hb=>⟨fun h=>?_,fun h=> .inl ((hr.fz b hb).2 h)⟩,?_⟩
   ·rcases h with h|⟨k,x,u',h1,h2,h3⟩
    ·exact(hr.fz b hb).1 h
    ·obtain⟨ok,hok,_⟩:=hu _ _ h1;exact absurd h3 (hm.sep i k _ _ _ _ b (fun e=>hno x (e▸h1)) ho' hok hu' h2 hb)
   ·rcases hr.bd with ⟨hv,⟨b,cur,hu0,hB,hh,hra⟩|⟨hsz,n,xs,hown,hra,hmm⟩⟩|⟨hv,hsz,n,xs,hown,hra,hmm⟩
    ·exact .inl ⟨hv,.inl ⟨b,cur,hu0,hB,hh,J5 hra⟩⟩
    ·exact .inl ⟨hv,.inr ⟨hsz,n,xs,hown,J5 hra,hmm⟩⟩
    ·exact .inr ⟨hv,hsz,n,xs,hown,mono hra,hmm⟩
  ·refine⟨hr.w_,hr.ow,fun b hb=>⟨fun _=>rfl,fun _=> .inr ⟨i,x,u,hx,hu',hb⟩⟩,?_⟩;rcases hr.bd with ⟨hv,⟨b,cur,hu0,hB,hh,hra⟩|⟨hsz,n,xs,hown,hra,hmm⟩⟩|⟨hv,hsz,n,xs,hown,hra,hmm⟩
   ·exact .inl ⟨hv,.inl ⟨b,cur,hu0,hB,hh,J5 hra⟩⟩
   ·exact .inl ⟨hv,.inr ⟨hsz,n,xs,hown,J5 hra,hmm⟩⟩
   ·exact .inr ⟨hv,hsz,n,xs,hown,mono hra,hmm⟩
 ·intro i j oi oj vi vj b hij hi hj;obtain⟨oi',hi',_⟩:=alive i oi hi;obtain⟨oj',hj',_⟩:=alive j oj hj;exact hm.sep i j oi' oj' vi vj b hij hi' hj'
theorem oG(hm:Mem w0 H0 w H ov ob){v:Value}{x:V}{sz:Nat}(hsz:0<sz)(hr:Rep w H ov v x)(hok:okR ob x)(hc:(rd ob sz x).aQ=true∨(rd ob sz x).cell=true){H':Nat→Prop}(hH:∀b,H b→H' b)
 (hfr:∀k y u b,(k,y)∈eF ob x→ov k=some u→blk u=some b→H' b):Rep0 w H' v (rd ob sz x):=by
 have row:∀(j off n:Nat) (o:Ob) (u:Value) (ba:Option Addr) (cap:Nat),ob j=some o→o.jl=false→ov j=some u→(∀b,blk u=some b→H' b)→v= .slice ba n cap→n≤maxLen→n≤cap→off+n*o.sz≤o.cs.length→
  (n=0∨∃b,blk u=some b∧ba=some ⟨b,off,none⟩)→Rep0 w H' v (.l o.sz ((o.cs.drop off).take (n*o.sz))):=by
  intro j off n o u ba cap ho zW hu hfb hv hml hcp hle ha
  obtain⟨u',hu',hor⟩:=hm.obj j o ho
  rw[hu]at hu';cases hu'
  have E_:0<o.sz:=by
   rcases hor.bd with ⟨h,_⟩|⟨_,h,_⟩
   ·rw[zW]at h;cases h
   ·exact h
  subst hv
  have hlen:((o.cs.drop off).take (n*o.sz)).length=n*o.sz:=by simp;omega
  rcases ha with rfl|⟨b,hb,rfl⟩
  ·simp only[Nat.zero_mul,List.take_zero];exact .l ba 0 cap o.sz [] (fun _=>undef) 0 0 E_ sy (Nat.zero_le _) hcp (.inl rfl) (fun j hj=>by simp at hj) (fun j x hx=>by simp at hx)
  ·obtain⟨us,h1,h2,h3⟩:=hm.row ho (nY zW) hle hu hb;refine .l _ n cap o.sz _ (fun j=>us.getD j undef) b off E_ hlen hml hcp (.inr ⟨rfl,hfb b hb⟩) (fun j hj=>?_) (fun j x hx=>?_)
   ·rw[hlen]at hj;have hj':j<us.length:=om;rw[h2 j us[j] (List.getElem?_eq_getElem hj')];simp[List.getD,List.getElem?_eq_getElem hj']
   ·have hj:j<us.length:=by
     have:=(List.getElem?_eq_some_iff.1 hx).1;rw[hlen]at this;omega
    have:=h3.2 j us[j] x (List.getElem?_eq_getElem hj) hx;simp only[List.getD,List.getElem?_eq_getElem hj,Option.getD_some];exact this.mono hH (fun _ _=>rfl)
 cases x with
 |ow s j n=>
  obtain⟨ba,cap,rfl,ho,hml,hcp,ha⟩:=hr.fD;simp only[rd]at hc ⊢;cases hoj:ob j with
  |none=>rw[hoj]at hc;simp[V.aQ,V.cell]at hc
  |some o=>
   rw[hoj]at hc;simp only[]at hc ⊢;cases hv:o.jl with
   |true=>rw[hv]at hc;simp[V.aQ,V.cell]at hc
   |false=>
    simp only[Bool.false_eq_true,if_false];obtain⟨u',hu',hor⟩:=hm.obj j o hoj;rw[ho]at hu';cases hu';have hn:o.cs.length=n*o.sz:=by
     rcases hor.bd with ⟨h,_⟩|⟨_,_,m,xs,hown,hra,_⟩
     ·rw[hv]at h;cases h
     ·have e:m=n:=by
       rcases hown.2 with ⟨h,h'⟩|⟨g,cap',cur,h,_⟩
       ·cases h;exact h'
       ·cases h;rfl
      rw[←hra.1,hown.1,e]
    have:=row j 0 n o _ ba cap hoj hv ho (fun b hb=>hfr j (some {o with mu:=false}) _ b (by simp[eF,hoj]) ho hb) rfl hml hcp om (ha.imp id fun⟨b,e⟩=>⟨b,by rw[e];rfl,e⟩);rw[List.drop_zero,←hn,List.take_length]at this;exact this
 |sl s j off n=>
  obtain⟨ba,cap,u,rfl,hml,hcp,ho,ha⟩:=hr.ku;simp only[rd]at hc ⊢;simp only[okR]at hok;cases hoj:ob j with
  |none=>rw[hoj]at hok;exact hok.elim
  |some o=>
   rw[hoj]at hc hok;simp only[]at hc ⊢;cases hv:o.jl with
   |true=>rw[hv]at hc;simp[V.aQ,V.cell]at hc
   |false=>
    simp only[Bool.false_eq_true,if_false];exact row j off n o u ba cap hoj hv ho (fun b hb=>hfr j (some {o with mu:=false}) _ b (by simp[eF,hoj]) ho hb) rfl hml hcp hok ha
 |nl=>
  rw[hr.jJ];exact .l none 0 0 sz [] (fun _=>undef) 0 0 hsz sy (Nat.zero_le _) (Nat.le_refl _) (.inl rfl) (fun j hj=>by simp at hj) (fun j x hx=>by simp at hx)
 |pt i k=>simp[rd,V.aQ,V.cell]at hc
 |tw sz i n rs=>simp[rd,V.aQ,V.cell]at hc
 |_=>
  cases hr with
  |base h=>exact h.mono hH (fun _ _=>rfl)
theorem Mem.step(hm:Mem w0 H0 w H ov ob){row:Option Nat}(hbel:aI w0 H0.e w')(hsz:w.heap.size≤w'.heap.size)(hg:∀k,k<w.heap.size→some k≠row→w'.heap[k]? =w.heap[k]?)
 (hH:∀b,H b→some b≠row) {ob':Nat→Option Ob} {bJ:Nat→Option Value} (hov:∀i v,ov i=some v→bJ i=some v)
 (hob:∀i o,ob' i=some o→(ob i=some o∧∀u b,ov i=some u→blk u=some b→some b≠row)∨
   (∃v,bJ i=some v∧dU w' H (Ow w0 H0) bJ v o∧∀j oj vj b,j≠i→ob' j=some oj→bJ j=some vj→blk v=some b→blk vj≠some b)):
 Ext w H ov w' H bJ∧Mem w0 H0 w' H bJ ob':=by
 have hw:∀b,H b→w'.heap[b]? =w.heap[b]? :=fun b hb=>hg b (hm.uk b hb) (hH b hb)
 refine⟨⟨fun _ h=>h,hw,hov⟩,⟨hbel,hm.tj.mono (fun _ h=>h) hw,fun b hb=>Nat.lt_of_lt_of_le (hm.uk b hb) hsz,hm.low,fun i o hi=>?_,?_⟩⟩
 ·rcases hob i o hi with ⟨h1,h2⟩|⟨v,h1,h2,_⟩
  ·obtain⟨u,hu,hr⟩:=hm.obj i o h1;exact⟨u,hov i u hu,hr.mono hov (fun _ h=>h) hw (fun b hb=>hg b (hr.lt hb).2 (h2 u b hu hb)) (fun b _ h=>h)⟩
  ·exact⟨v,h1,h2⟩
 ·intro i j oi oj vi vj b hij hi hj xe p_ hb;rcases hob i oi hi with ⟨h1,h2⟩|⟨v,h1,h2,h3⟩
  ·rcases hob j oj hj with ⟨k1,k2⟩|⟨v',k1,k2,k3⟩
   ·obtain⟨ui,hui,_⟩:=hm.obj i oi h1;obtain⟨uj,huj,_⟩:=hm.obj j oj k1;have e1:=hov i ui hui;have e2:=hov j uj huj;rw[xe]at e1;rw[p_]at e2;cases e1;cases e2;exact hm.sep i j oi oj _ _ b hij h1 k1 hui huj hb
   ·rw[p_]at k1;cases k1;exact fun hb'=>k3 i oi vi b hij hi xe hb' hb
  ·rw[xe]at h1;cases h1;exact h3 j oj vj b (fun e=>hij e.symm) hj p_ hb
def rY(ov:Nat→Option Value)(id:Nat)(v:Value):Nat→Option Value:=fun i=>if i=id then some v else ov i
theorem dB(id:Nat)(v:Value):rY ov id v id=some v:=by simp[rY]
theorem kz{id:Nat}{v:Value}(hid:ov id=none):∀i u,ov i=some u→rY ov id v i=some u:=fun i u h=>by
 unfold rY;split
 ·rename_i e;subst e;rw[hid]at h;cases h
 ·exact h
theorem gp{id:Nat}{v:Value}:∀i,i≠id→ov i=none→rY ov id v i=none:=fun i h1 h2=>by simp[rY,h1,h2]
theorem Mem.add(hm:Mem w0 H0 w H ov ob){id:Nat}(hid:ov id=none)(hob:ob id=none)(hb:Below w.heap.size w w'){v:Value}{o:Ob}(hr:∀bJ,dU w' H (Ow w0 H0) bJ v o)(hnew:∀b,blk v=some b→w.heap.size≤b):
 Ext w H ov w' H (rY ov id v)∧Mem w0 H0 w' H (rY ov id v) (upd ob [(id,some o)]):=by
 refine hm.step (row:=none) (hm.bel.after hb) hb.size (fun k hk _=>hb.block k hk) (fun _ _=>sy) (kz hid) fun i oi hi=>?_
 by_cases e:i=id
 ·subst e;right;simp only[upd,if_true,Option.some.injEq]at hi;subst hi;refine⟨v,dB i v,hr _,fun j oj vj b hj hoj p_ hbv hbj=>?_⟩;have h1:=hnew b hbv;simp only[upd,if_neg (fun e=>hj e.symm:¬i=j)]at hoj;obtain⟨u,hu,hur⟩:=hm.obj j oj hoj;have:=kz (v:=v) hid j u hu;rw[p_]at this;cases this;have:=(hur.lt hbj).2;omega
 ·left;simp only[upd,if_neg (fun e'=>e e'.symm:¬id=i)]at hi;exact⟨hi,fun _ _ _ _=>sy⟩
theorem g_{α:Type}:∀(vs cs:List α) (k:Nat),(setAt cs k vs).length=cs.length
 |[],cs,k=>rfl
 |v::r,cs,k=>by simp[setAt,g_ r]
theorem xI:∀(us:List Value) (xs:List V) (vs:List Value) (cs:List V) (k:Nat),aj w H us xs→aj w H vs cs→aj w H (setAt vs k us) (setAt cs k xs)
 |[],[],vs,cs,k,_,h=>h
 |[],_::_,_,_,_,h,_=>by have:=h.1;simp at this
 |_::_,[],_,_,_,h,_=>by have:=h.1;simp at this
 |u::us,x::xs,vs,cs,k,h,h'=>by
  refine xI us xs _ _ (k+1) ⟨by simpa using h.1,fun j v y h1 h2=>h.2 (j+1) v y (by simpa using h1) (by simpa using h2)⟩ ⟨by simp[h'.1],fun j v y h1 h2=>?_⟩;rw[List.getElem?_set]at h1 h2;by_cases e:k=j
  ·subst e;rw[if_pos rfl]at h1 h2;split at h1
   ·rename_i hl;rw[if_pos (by rw[←h'.1];exact hl)]at h2;cases h1;cases h2;exact h.2 0 _ _ rfl rfl
   ·cases h1
  ·rw[if_neg e]at h1 h2;exact h'.2 j v y h1 h2
theorem zX:∀(us:List Value) (xs:List V) (vs:List Value) (cs:List V) (k:Nat),jU w H ov us xs→jU w H ov vs cs→jU w H ov (setAt vs k us) (setAt cs k xs)
 |[],[],vs,cs,k,_,h=>h
 |[],_::_,_,_,_,h,_=>by have:=h.1;simp at this
 |_::_,[],_,_,_,h,_=>by have:=h.1;simp at this
 |u::us,x::xs,vs,cs,k,h,h'=>by
  refine zX us xs _ _ (k+1) ⟨by simpa using h.1,fun j v y h1 h2=>h.2 (j+1) v y (by simpa using h1) (by simpa using h2)⟩ ⟨by simp[h'.1],fun j v y h1 h2=>?_⟩;rw[List.getElem?_set]at h1 h2;by_cases e:k=j
  ·subst e;rw[if_pos rfl]at h1 h2;split at h1
   ·rename_i hl;rw[if_pos (by rw[←h'.1];exact hl)]at h2;cases h1;cases h2;exact h.2 0 _ _ rfl rfl
   ·cases h1
  ·rw[if_neg e]at h1 h2;exact h'.2 j v y h1 h2
theorem oW{α:Type}(p:α→Prop):∀(vs cs:List α) (k:Nat),(∀x,x∈cs→p x)→(∀x,x∈vs→p x)→∀x,x∈setAt cs k vs→p x
 |[],cs,k,h,_,x,hx=>h x hx
 |v::r,cs,k,h,h',x,hx=>oW p r (cs.set k v) (k+1) (fun y hy=>by
   rcases List.mem_or_eq_of_mem_set hy with h1|h1
   ·exact h y h1
   ·subst h1;exact h' _ (List.mem_cons_self)) (fun y hy=>h' y (List.mem_cons_of_mem _ hy)) x hx
end
end Go.Proofs.YtcgfgifjkkmmcaaGreatDoor.Ab
namespace Go.Proofs.YtcgfgifjkkmmcaaGreatDoor.Ab
open Go Go.RowKit
section
variable {P:Program} {w0 w w':World} {H0:HS} {H:Nat→Prop} {ov:Nat→Option Value} {ob:Nat→Option Ob}
theorem H8(v:Value):Rep0 w H v (cS v):=by
 unfold cS;split
 ·exact .i _ _
 ·exact .b _
 ·exact .s _
 ·exact .l none 0 0 1 [] (fun _=>undef) 0 0 dc sy (Nat.zero_le _) (Nat.le_refl _) (.inl rfl) (fun j hj=>by simp at hj) (fun j x hx=>by simp at hx)
 ·exact .f _ _ OX
 ·exact .f _ _ ZP
 ·exact .z _ _ _ _ OX OX
 ·exact .z _ _ _ _ ZP OX
 ·exact .z _ _ _ _ OX ZP
 ·exact .c _
theorem xJ(vs:List Value):aj w H vs (vs.map cS):=by
 refine⟨sy,fun j v x h1 h2=>?_⟩;rw[List.getElem?_map,h1]at h2;simp only[Option.map_some,Option.some.injEq]at h2;subst h2;exact H8 v
theorem dV{cs:List V}(h:cs.all V.cell=true):∀x,x∈cs→x.cell=true:=fun x hx=>List.all_eq_true.1 h x hx
theorem n_{y:V}(h:y.cells.all V.cell=true):y.aQ=true∨y.cell=true:=by
 cases y<;>first|exact .inl rfl|(right;simpa[V.cells]using h)
theorem tC{v:Value}{y:V}(h:Rep0 w H v y)(hc:y.cells.all V.cell=true):aj w H v.cells.toList y.cells:=by
 have one:y.cell=true→y.cells=[y]→aj w H v.cells.toList y.cells:=fun hy e=>by
  have h1:=h.oneCell hy;have e2:v.cells=#[v]:=by cases v<;>first|rfl|(simp[Value.oneCell']at h1)
  rw[e,e2];refine⟨rfl,fun j u x h1 h2=>?_⟩;cases j with
  |zero=>simp at h1 h2;subst h1;subst h2;exact h
  |succ j=>simp at h1
 cases y with
 |g cs=>
  cases h with
  |g vs cs hn hr=>exact⟨by simpa[Value.cells,V.cells]using hn,by simpa[Value.cells,V.cells]using hr⟩
 |_=>first|exact one rfl rfl|(exact one (by simpa[V.cells]using hc) rfl)
theorem Fa{α:Type}:∀(us xs:List α) (k:Nat),k+us.length≤xs.length→setAt xs k us=xs.take k++us++xs.drop (k+us.length)
 |[],xs,k,_=>by simp[setAt]
 |u::us,xs,k,h=>by
  have hk:k<xs.length:=by simp at h;omega
  rw[setAt,Fa us (xs.set k u) (k+1) (by simp at h ⊢;omega)];have e1:(xs.set k u).take (k+1)=xs.take k++[u]:=by
   rw[List.take_succ_eq_append_getElem (by simpa using hk)];simp[List.take_set_of_le]
  have e2:(xs.set k u).drop (k+1+us.length)=xs.drop (k+(us.length+1)):=by
   rw[List.drop_set_of_lt om];congr 1;omega
  rw[e1,e2];simp
theorem uP{α:Type}:∀(us xs:List α) (k m:Nat),(setAt xs k us).take m=setAt (xs.take m) k us
 |[],xs,k,m=>rfl
 |u::us,xs,k,m=>by rw[setAt,setAt,uP us,List.take_set]
theorem Mem.store(hm:Mem w0 H0 w H ov ob){j k:Nat}{o:Ob}{u:Value}{b:Nat}(ho:ob j=some o)(hmu:o.mu=true)(hu:ov j=some u)(hb:blk u=some b){us:List Value}{ys:List V}(hr:jU w H ov us ys)(hcl:∀x,x∈ys→x.cell=true∨(vH o=true∧isRef x=true))(hk:k+ys.length≤o.cs.length):
 ∃w',(storeCells ⟨b,k,none⟩ us).run P w= .ok () w'∧Ext w H ov w' H ov∧Mem w0 H0 w' H ov (upd ob [(j,some {o with cs:=setAt o.cs k ys})]):=by
 obtain⟨u',hu',hor⟩:=hm.obj j o ho
 rw[hu]at hu';cases hu'
 have LY:¬H b:=fun h=>by have:=(hor.fz b hb).1 h;rw[hmu]at this;cases this
 have h1:∀v∈us,v.oneCell'=true:=fun v hv=>by
  obtain⟨i,hi,rfl⟩:=List.getElem_of_mem hv;have hi':i<ys.length:=by rw[←hr.1];exact hi
  have hx:=hr.2 i _ _ (List.getElem?_eq_getElem hi) (List.getElem?_eq_getElem hi');rcases hcl _ (List.getElem_mem hi')with h1|⟨_,h1⟩
  ·exact(hx.down h1).oneCell h1
  ·generalize ys[i]=y at hx h1;cases y<;>first|(simp[isRef]at h1;done)|(obtain⟨_,_,e,_⟩:=hx.fD;rw[e];rfl)|(obtain⟨_,_,_,e,_⟩:=hx.ku;rw[e];rfl)|(rw[hx.jJ];rfl)
 have hB:=hor.lt hb
 have hblk:∃cur,w.heap[b]? =some (.cells cur o.e (0,0))∧o.cs.length≤cur.size∧
  (∀w'',(∀h:Nat,h≠b→w''.heap[h]? =w.heap[h]?)→w''.heap[b]? =some (.cells (setAt cur.toList k us).toArray o.e (0,0))→dU w'' H (Ow w0 H0) ov u {o with cs:=setAt o.cs k ys}):=by
  rcases hor.bd with ⟨hv,⟨b',cur,rfl,hBb,hh,hra⟩|⟨hsz,n,xs,hown,hra,hnm⟩⟩|⟨hv,hsz,n,xs,hown,hra,hnm⟩
  ·cases hb;refine⟨cur,hh,by rw[←hra.1];simp,fun w'' hw hw2=>⟨oW (fun x=>x.cell=true∨(vH o=true∧isRef x=true)) _ _ _ hor.w_ hcl,hor.ow,hor.fz,.inl ⟨hv,.inl ⟨b',_,rfl,hBb,hw2,?_⟩⟩⟩⟩;have e:=zX us ys cur.toList o.cs k hr hra;exact e.mono ⟨fun _ h=>h,fun c hc=>hw c (fun e=>LY (e▸hc)),fun _ _ h=>h⟩
  ·rcases hown.2 with ⟨rfl,_⟩|⟨g,cap,cur,rfl,hbg,hh,hnc,hcm,hcs,htake⟩
   ·cases hb
   ·cases hb;refine⟨cur,hh,?_,fun w'' hw hw2=>⟨oW (fun x=>x.cell=true∨(vH o=true∧isRef x=true)) _ _ _ hor.w_ hcl,hor.ow,hor.fz,.inl ⟨hv,.inr ⟨hsz,n,setAt xs k us,⟨by rw[g_];exact hown.1,.inr ⟨g,cap,_,rfl,hbg,hw2,hnc,hcm,?_,?_⟩⟩,?_,hnm⟩⟩⟩⟩
    ·rw[←hra.1,hown.1,hcs];exact Nat.mul_le_mul_right _ hnc
    ·simp[g_,hcs]
    ·show(setAt cur.toList k us).take (n*o.sz)=_;rw[uP,htake]
    ·have e:=zX us ys xs o.cs k hr hra;exact e.mono ⟨fun _ h=>h,fun c hc=>hw c (fun e=>LY (e▸hc)),fun _ _ h=>h⟩
  ·rcases hown.2 with ⟨rfl,_⟩|⟨g,cap,cur,rfl,hbg,hh,hnc,hcm,hcs,htake⟩
   ·cases hb
   ·cases hb;refine⟨cur,hh,?_,fun w'' hw hw2=>⟨oW (fun x=>x.cell=true∨(vH o=true∧isRef x=true)) _ _ _ hor.w_ hcl,hor.ow,hor.fz,.inr ⟨hv,hsz,n,setAt xs k us,⟨by rw[g_];exact hown.1,.inr ⟨g,cap,_,rfl,hbg,hw2,hnc,hcm,?_,?_⟩⟩,?_,hnm⟩⟩⟩
    ·rw[←hra.1,hown.1,hcs];exact Nat.mul_le_mul_right _ hnc
    ·simp[g_,hcs]
    ·show(setAt cur.toList k us).take (n*o.sz)=_;rw[uP,htake]
    ·have e:=xI us ys xs o.cs k (hr.all fun x hx=>(hcl x hx).resolve_right fun h=>by rw[nY hv]at h;cases h.1) hra;exact(e.mono (fun _ h=>h) fun c hc=>hw c (fun e=>LY (e▸hc)))
 obtain⟨cur,hh,hle,hfin⟩:=hblk
 have hkl:k+us.length≤cur.size:=by have:=hr.1;omega
 have hrun:=run_storeCells_at P b k o.e us 0 cur w hh (by simpa using hkl) h1
 simp only[Nat.add_zero]at hrun
 have e:(cur.toList.take k++us++cur.toList.drop (k+us.length))=setAt cur.toList k us:=(Fa us cur.toList k (by simpa using hkl)).symm
 rw[e]at hrun
 refine⟨_,hrun,?_⟩
 have hoth:∀h:Nat,h≠b→(w.setRow b (setAt cur.toList k us).toArray).heap[h]? =w.heap[h]? :=fun h hne=>setRow_other w b h _ hne
 have hsame:=setRow_heap w b cur (setAt cur.toList k us).toArray o.e (0,0) hh
 have hsize:(w.setRow b (setAt cur.toList k us).toArray).heap.size=w.heap.size:=by simp[World.setRow]
 refine hm.step (row:=some b) ?_ (Nat.le_of_eq hsize.symm) (fun h _ hne=>hoth h (fun e=>hne (by rw[e]))) (fun c hc e=>LY (by cases e;exact hc)) (fun _ _ h=>h) fun i oi hi=>?_
 ·exact hm.bel.chg hB.1 rfl rfl rfl (Nat.le_of_eq hsize.symm) (fun k _ hne=>hoth k hne)
 ·by_cases e:i=j
  ·subst e;right;simp only[upd,if_true,Option.some.injEq]at hi;subst hi;refine⟨u,hu,hfin _ hoth hsame,fun l ol vl c hl hol hvl hbc=>?_⟩;simp only[upd,if_neg (fun e=>hl e.symm:¬i=l)]at hol;exact hm.sep i l o ol u vl c (fun e=>hl e.symm) ho hol hu hvl hbc
  ·left;simp only[upd,if_neg (fun e'=>e e'.symm:¬j=i)]at hi;refine⟨hi,fun u' c h1 h2 e'=>?_⟩;cases e';exact hm.sep i j oi o u' u _ e hi ho h1 hu h2 hb
theorem jK(ob:Nat→Option Ob)(u1 u2:List (Nat×Option Ob)):upd (upd ob u2) u1=upd ob (u1++u2):=by
 funext i;induction u1 with
 |nil=>rfl
 |cons p r ih=>obtain⟨k,v⟩:=p;simp only[List.cons_append,upd];split<;>first|rfl|exact ih
theorem mG{t:TypeId}{sz BB:Nat}{z:List V}(h:xE P t=some (sz,BB,z)):
 ∃i v,P.info? t=some i∧i.zero=some v∧i.size=sz∧i.bytes=BB∧z=v.cells.toList.map cS∧v.cells.size=sz∧0<sz∧z.all V.cell=true:=by
 unfold xE at h
 split at h
 ·rename_i i hi;split at h
  ·rename_i v hv;split at h
   ·rename_i hc;simp only[Option.some.injEq,Prod.mk.injEq]at h;obtain⟨rfl,rfl,rfl⟩:=h;exact⟨i,v,hi,hv,rfl,rfl,rfl,hc.1,hc.2.1,hc.2.2⟩
   ·cases h
  ·cases h
 ·cases h
theorem own0{B:Nat}{e:TypeId}{sz:Nat}{v:Value}{n:Nat}{xs:List Value}(h:w.ownsRow B e sz v n xs):w.ownsRow 0 e sz v n xs:=
 ⟨h.1,h.2.imp (fun h=>h) fun⟨g,cap,cur,e1,_,r⟩=>⟨g,cap,cur,e1,Nat.zero_le _,r⟩⟩
theorem ownB{B:Nat}{e:TypeId}{sz:Nat}{v:Value}{n:Nat}{xs:List Value}(h:w.ownsRow 0 e sz v n xs)(hb:∀b,blk v=some b→B≤b):w.ownsRow B e sz v n xs:=
 ⟨h.1,h.2.imp (fun h=>h) fun⟨g,cap,cur,e1,_,r⟩=>⟨g,cap,cur,e1,hb g (by rw[e1];rfl),r⟩⟩
theorem dU.row{B:Nat}{O:Nat→Prop}{v:Value}{n:Nat}{xs:List Value}{e sz:Nat}{cs:List V}(hown:w.ownsRow B e sz v n xs)(hsz:0<sz)(hr:aj w H xs cs)(hcl:∀x,x∈cs→x.cell=true)(hn:n≤maxLen)(hH:∀b,blk v=some b→¬H b)(hO:∀b,blk v=some b→O b):
 ∀bJ,dU w H O bJ v {e,sz,cs,mu:=true,jl:=false}:=fun bJ=>
 ⟨fun x hx=> .inl (hcl x hx),hO,fun b hb=>⟨fun h=>absurd h (hH b hb),fun h=>by cases h⟩,.inr ⟨rfl,hsz,n,xs,own0 hown,hr,hn⟩⟩
theorem lG{B e sz n id:Nat}{v:Value}{xs:List Value}{bJ:Nat→Option Value}(hown:w.ownsRow B e sz v n xs)(hn:n≤maxLen)(ho:bJ id=some v):Rep w H bJ v (.ow sz id n):=by
 rcases hown.2 with ⟨rfl,rfl⟩|⟨g,cap,cur,rfl,_,_,hnc,_⟩
 ·exact .ow sz id 0 0 none hn (Nat.le_refl _) (.inl rfl) ho
 ·exact .ow sz id n cap _ hn hnc (.inr ⟨g,rfl⟩) ho
theorem J6{B e sz n:Nat}{v:Value}{xs:List Value}(hown:w.ownsRow B e sz v n xs){b:Nat}(hb:blk v=some b):v.ownBlock=some b:=by
 rcases hown.2 with ⟨rfl,rfl⟩|⟨g,cap,cur,rfl,_⟩
 ·cases hb
 ·exact hb
end
section ops
variable {P:Program} {w0 w:World} {H0:HS} {H:Nat→Prop} {ov:Nat→Option Value} {ob:Nat→Option Ob} {id:Nat} {ρ:X→V} {a:Act} {o:Oper} {K:Act→World→Prop} {Q:Exit→Act→World→Prop}
 {R:V→List (Nat×Option Ob)→Prop}
variable (hm:Mem w0 H0 w H ov ob) (hρ:∀p x,cX p=some x→Rep w H ov (a.eval p) (ρ x)) (hF:Fin w0 H0 w H ov ob id R a o.dst K) (hid:ov id=none) (hob:ob id=none)
include hm hρ hF hid hob
omit hid hob in
theorem s_st{t:TypeId}{p x:Operand}{p' x':X}{ti:TypeInfo}(hop:o.op= .store t p x)(hp:cX p=some p')(hx:cX x=some x')(hi:P.info? t=some ti)
 (h:ev (fun _ _ _=>False) (fun _ _ _=>False) ρ ob id R (.st ti.size p' x')):o.wp P a w K Q:=by
 have h1:=hρ p p' hp
 have h2:=hρ x x' hx
 simp only[ev]at h
 cases hv:ρ p'<;>rw[hv]at h h1<;>(try simp only[]at h)
 case pt j k=>
  obtain⟨b,u,e,hu,hb⟩:=h1.mZ;cases hoj:ob j with
  |none=>rw[hoj]at h;exact h.elim
  |some oo=>
   rw[hoj]at h;obtain⟨⟨hok,hmu,hnf,hlen,hk,hall⟩,hR⟩:=h;obtain⟨H1,ik,hm1,hfr,_⟩:=hm.freeze (iR (ob:=ob) (ρ x'));have hrd:=oG hm (sz:=1) dc h2 hok (n_ hall) ik.hH hfr;have hcells:=tC hrd hall;have hoj1:upd ob (eF ob (ρ x')) j=some oo:=by
    rcases jD (ob:=ob) (eF ob (ρ x')) j with ⟨e1,_⟩|h'
    ·rw[e1];exact hoj
    ·have:=List.all_eq_true.1 hnf _ h';simp at this
   obtain⟨w',hrun,zY,hm2⟩:=hm1.store (P:=P) hoj1 hmu hu hb hcells.cs (fun x hx=> .inl (dV hall x hx)) (by rw[hlen];exact hk);rw[jK]at hm2;have hsz:(a.eval x).cells.size=ti.size:=by
    have:=hcells.1;simp only[Array.length_toList]at this;rw[this,hlen]
   unfold Oper.wp;have:(execOp a.eval o).run P w= .ok .skip w':=by
    simp[execOp,hop,e,Instr.storeAt,Instr.sureAddr,storeVar,sizeOf,typeInfo,hi,hsz,hrun]
   rw[this];exact hF _ _ undef w' H1 ov hR (ik.trans zY) (fun _ _ h=>h) hm2 .un
omit hid hob in
theorem s_stk{t:TypeId}{p x:Operand}{p' x':X}{ti:TypeInfo}(hop:o.op= .store t p x)(hp:cX p=some p')(hx:cX x=some x')(hi:P.info? t=some ti)(h1s:ti.size=1)
 (h:ev (fun _ _ _=>False) (fun _ _ _=>False) ρ ob id R (.stk p' x')):o.wp P a w K Q:=by
 have h1:=hρ p p' hp
 have h2:=hρ x x' hx
 simp only[ev]at h
 cases hv:ρ p'<;>rw[hv]at h h1<;>(try simp only[]at h)
 case pt j k=>
  obtain⟨b,u,e,hu,hb⟩:=h1.mZ;cases hoj:ob j with
  |none=>rw[hoj]at h;exact h.elim
  |some oo=>
   rw[hoj]at h;obtain⟨⟨hrf,hir,hmu,hk⟩,hR⟩:=h;have hsl:∃ba n c,a.eval x= .slice ba n c:=by
    generalize ρ x'=y at h2 hir;cases y<;>first|(simp[isRef]at hir;done)|(obtain⟨ba,c,e,_⟩:=h2.fD;exact⟨_,_,_,e⟩)|(obtain⟨ba,c,_,e,_⟩:=h2.ku;exact⟨_,_,_,e⟩)|exact⟨_,_,_,h2.jJ⟩
   obtain⟨ba,n,c,ex⟩:=hsl;have hcs:jU w H ov [a.eval x] [ρ x']:=⟨rfl,fun i v y h3 h4=>by
    cases i with
    |zero=>cases h3;cases h4;exact h2
    |succ i=>simp at h3⟩
   obtain⟨w',hrun,ik,hm2⟩:=hm.store (P:=P) hoj hmu hu hb hcs (fun y hy=>by rw[List.mem_singleton]at hy;subst hy;exact .inr ⟨hrf,hir⟩) hk;have hsz:(a.eval x).cells.size=ti.size:=by rw[ex,h1s];rfl
   have hcl:(a.eval x).cells.toList=[a.eval x]:=by rw[ex];rfl
   unfold Oper.wp;have:(execOp a.eval o).run P w= .ok .skip w':=by
    rw[←hcl]at hrun;simp[execOp,hop,e,Instr.storeAt,Instr.sureAddr,storeVar,sizeOf,typeInfo,hi,hsz,hrun]
   rw[this];exact hF _ _ undef w' H ov hR ik (fun _ _ h=>h) hm2 .un
omit hρ in
theorem s_al{t:TypeId}{sz BB:Nat}{z:List V}(hop:o.op= .alloc t)(ht:xE P t=some (sz,BB,z))
 (h:ev (fun _ _ _=>False) (fun _ _ _=>False) ρ ob id R (.al t z)):o.wp P a w K Q:=by
 obtain⟨i,v,hi,hz,hs,hb,rfl,hvs,hpos,hall⟩:=mG ht
 simp only[ev]at h
 have hBl:Below w.heap.size w (w.alloc (.cells v.cells t)):=(Below.refl _ _).alloc (Nat.le_refl _) _
 have hra:aj (w.alloc (.cells v.cells t)) H v.cells.toList (v.cells.toList.map cS):=xJ _
 have hor:∀bJ,dU (w.alloc (.cells v.cells t)) H (Ow w0 H0) bJ (.pointer (some ⟨w.heap.size,0,none⟩)) {e:=t,sz:=(v.cells.toList.map cS).length,cs:=v.cells.toList.map cS,mu:=true,jl:=true}:=fun bJ=>
  ⟨fun x hx=> .inl (dV hall x hx),fun b hb=>by cases hb;exact .inl hm.bel.size,fun b hb=>⟨fun h=>by cases hb;exact absurd (hm.uk _ h) (Nat.lt_irrefl _),fun h=>by cases h⟩,.inl ⟨rfl,.inl ⟨w.heap.size,v.cells,rfl,Nat.zero_le _,heap_alloc_new w _,hra.cs⟩⟩⟩
 obtain⟨ik,hm'⟩:=hm.add hid hob hBl hor (fun b hb=>by cases hb;exact Nat.le_refl _)
 unfold Oper.wp
 have:(execOp a.eval o).run P w= .ok (.value (.pointer (some ⟨w.heap.size,0,none⟩))) (w.alloc (.cells v.cells t)):=by
  simp[execOp,hop,Instr.alloc,zeroValue,typeInfo,hi,hz,newVar,newRow]
 rw[this]
 exact hF _ _ _ _ H _ h ik gp hm' (.pt id 0 w.heap.size _ (dB _ _) rfl)
omit hm hρ hF hid hob in
theorem yx{fs:Array Field}:∀{ps:List (Nat×Operand)} {qs:List (Nat×Nat×X)},xG P fs ps=some qs→
 ps.length=qs.length∧∀(j:Nat) (p:Nat×Operand) (q:Nat×Nat×X),ps[j]? =some p→qs[j]? =some q→cX p.2=some q.2.2∧∃f ti,fs[p.1]? =some f∧P.info? f.type=some ti∧q.1=f.offset∧q.2.1=ti.size
 |[],qs,h=>by simp[xG]at h;subst h;exact⟨rfl,fun j p q h=>by simp at h⟩
 |(i,x)::r,qs,h=>by
  unfold xG at h;split at h
  ·rename_i x' r' f hx hr hf;split at h
   ·rename_i ti hti;cases h;obtain⟨h1,h2⟩:=yx hr;refine⟨by simp[h1],fun j p q hp hq=>?_⟩;cases j with
    |zero=>simp at hp hq;subst hp;subst hq;exact⟨hx,f,ti,hf,hti,rfl,rfl⟩
    |succ j=>exact h2 j p q (by simpa using hp) (by simpa using hq)
   ·cases h
  ·cases h
omit hm hρ hF hid hob in
theorem H9:∀(us:List Value) (cells:Array Value) (off i:Nat),((us.toArray.zipIdx i).foldl (fun cs (c,j)=>cs.setIfInBounds (off+j) c) cells).toList=setAt cells.toList (off+i) us:=by
 intro us;induction us with
 |nil=>intro cells off i;rfl
 |cons u us ih=>
  intro cells off i;have e:((u::us).toArray.zipIdx i)=#[(u,i)]++us.toArray.zipIdx (i+1):=by
   apply Array.ext';simp[List.zipIdx_cons]
  rw[e,Array.foldl_append];simp only[List.foldl_toArray',List.foldl_cons,List.foldl_nil];have:=ih (cells.setIfInBounds (off+i) u) off (i+1);simp only[]at this;rw[this];simp[setAt,Nat.add_assoc]
omit hm hρ hF hid hob in
theorem Fb{α β:Type}(f:α→Option β):∀(l:List α) (r:List β),l.mapM f=some r→∀(k:Nat) (x:α),l[k]? =some x→∃y,f x=some y∧r[k]? =some y
 |[],r,h,k,x,hx=>by simp at hx
 |z::l,r,h,k,x,hx=>by
  simp only[List.mapM_cons,Option.bind_eq_bind,Option.pure_def,Option.bind_eq_some_iff]at h;obtain⟨y,hy,ys,hys,e⟩:=h;cases e;cases k with
  |zero=>simp at hx;subst hx;exact⟨y,hy,rfl⟩
  |succ k=>simpa using Fb f l ys hys k x (by simpa using hx)
omit hm hρ hF hid hob in
theorem zZ(place:Nat→Option (Nat×Nat)):∀(ps:List (Nat×Value)) (qs:List (Nat×List V)) (cells:Array Value) (cs:List V),ps.length=qs.length→
 (∀(j:Nat) (p:Nat×Value) (q:Nat×List V),ps[j]? =some p→qs[j]? =some q→∃sz,place p.1=some (q.1,sz)∧q.2.length=sz∧aj w H p.2.cells.toList q.2)→aj w H cells.toList cs→fitAll cs.length qs=true→
 ∃out,Instr.fill place cells ps=some out∧aj w H out.toList (jc cs qs)
 |[],[],cells,cs,_,_,h,_=>⟨cells,rfl,h⟩
 |[],_::_,_,_,h,_,_,_=>by simp at h
 |_::_,[],_,_,h,_,_,_=>by simp at h
 |(i,v)::ps,(off,vs)::qs,cells,cs,hl,hp,hc,hf=>by
  obtain⟨sz,h1,h2,h3⟩:=hp 0 _ _ rfl rfl;simp only[fitAll,Bool.and_eq_true,decide_eq_true_eq]at hf;have hsz:v.cells.size=sz:=by have:=h3.1;simp only[Array.length_toList]at this;simp at h2;omega
  have hcl:cells.size=cs.length:=by have:=hc.1;simpa using this
  have hfit:¬(off+v.cells.size>cells.size):=by simp at h2;omega
  have e:=H9 v.cells.toList cells off 0;simp only[Array.toArray_toList,Nat.add_zero]at e;have hstep:aj w H (v.cells.zipIdx.foldl (fun cs (c,j)=>cs.setIfInBounds (off+j) c) cells).toList (setAt cs off vs):=by
   rw[e];exact xI _ _ _ _ _ h3 hc
  obtain⟨out,ho,hr⟩:=zZ place ps qs _ _ (by simpa using hl) (fun j p q h4 h5=>hp (j+1) p q (by simpa using h4) (by simpa using h5)) hstep (by rw[g_];exact hf.2);refine⟨out,?_,hr⟩;simp only[]at h1;rw[Instr.fill,h1];simp only[hsz,ne_eq,not_true_eq_false,decide_false,Bool.false_or,decide_eq_true_eq];rw[if_neg om];exact ho
omit hm hρ hF hid hob in
theorem vV{vs:List V}(h:jZ ob vs):∀v,v∈vs→okR ob v:=by
 induction vs with
 |nil=>intro v hv;cases hv
 |cons x r ih=>intro v hv;exact(List.mem_cons.1 hv).elim (fun e=>e▸h.1) (fun hv=>ih h.2 v hv)
omit hm hρ hF hid hob in
theorem rZ{n:Nat}{qs:List (Nat×List V)}(h:fitAll n qs=true):∀q,q∈qs→q.2.all V.cell=true:=by
 induction qs with
 |nil=>intro q hq;cases hq
 |cons p r ih=>
  obtain⟨k,vs⟩:=p;simp only[fitAll,Bool.and_eq_true]at h;intro q hq;rcases List.mem_cons.1 hq with rfl|hq
  ·exact h.1.2
  ·exact ih h.2 q hq
omit hid hob in
theorem s_bld{t:TypeId}{ps:Array (Nat×Operand)}{qs:List (Nat×Nat×X)}{fs:Array Field}{sz BB:Nat}{z:List V}(hop:o.op= .build t ps)(ht:P.underlying t=some (.struct fs))(hty:xE P t=some (sz,BB,z))
 (hfs:(fs.toList.mapM (fun f=>(P.info? f.type).map fun i=>(f.offset,i.size))).isSome=true) (hq:xG P fs ps.toList=some qs)
 (h:ev (fun _ _ _=>False) (fun _ _ _=>False) ρ ob id R (.Ov z qs)):o.wp P a w K Q:=by
 obtain⟨i,v,hi,hz,hs,hb,rfl,hvs,hpos,hall⟩:=mG hty
 simp only[ev]at h
 obtain⟨⟨hok,hfit,hsz⟩,hR⟩:=h
 obtain⟨hl,yR⟩:=yx hq
 obtain⟨H1,ik,hm1,hfr,_⟩:=hm.freeze (gY (ob:=ob) qs (fun p=>ρ p.2.2))
 obtain⟨places,hpl⟩:=Option.isSome_iff_exists.1 hfs
 have ZZ:∀(k:Nat) (f:Field) (ti:TypeInfo),fs[k]? =some f→P.info? f.type=some ti→places[k]? =some (f.offset,ti.size):=fun k f ti h1 h2=>by
  rw[show fs[k]? =fs.toList[k]? from(Array.getElem?_toList).symm]at h1;obtain⟨y,hy,hk⟩:=Fb _ _ _ hpl k f h1;simp only[h2,Option.map_some,Option.some.injEq]at hy;rw[hk,←hy]
 have key:=zZ (w:=w) (H:=H1) (fun k=>places.toArray[k]?) (ps.toList.map fun p=>(p.1,a.eval p.2)) (qs.map fun p=>(p.1,(rd ob 1 (ρ p.2.2)).cells)) v.cells (v.cells.toList.map cS) (by simpa using hl)
  (fun j p q hp hq'=>by
    simp only[List.getElem?_map,Option.map_eq_some_iff]at hp hq';obtain⟨p0,hp0,rfl⟩:=hp;obtain⟨q0,hq0,rfl⟩:=hq';obtain⟨hx,f,ti,hf,hti,e1,e2⟩:=yR j p0 q0 hp0 hq0;have hmem:q0∈qs:=List.mem_of_getElem? hq0;have hcell:=rZ hfit (q0.1,(rd ob 1 (ρ q0.2.2)).cells) (List.mem_map.2 ⟨q0,hmem,rfl⟩);have hlen:=List.all_eq_true.1 hsz q0 hmem;simp only[beq_iff_eq]at hlen;have hrd:=oG hm (sz:=1) dc (hρ _ _ hx) (vV hok _ (List.mem_map.2 ⟨q0,hmem,rfl⟩)) (n_ hcell) ik.hH (fun k y u b h1 h2 h3=>hfr k y u b (List.mem_flatMap.2 ⟨q0,hmem,h1⟩) h2 h3);refine⟨ti.size,?_,by rw[hlen,e2],tC hrd hcell⟩;have:=ZZ p0.1 f ti hf hti;simp only[e1];simpa using this) (xJ _) (by simpa using hfit)
 obtain⟨out,O9,hrep⟩:=key
 have Z4:P.built t (ps.map fun(i,x)=>(i,a.eval x)).toList=some out:=by
  unfold Program.built;simp only[hi,ht,hz,hpl];simpa using O9
 unfold Oper.wp
 have:(execOp a.eval o).run P w= .ok (.value (.agg out)) w:=by
  simp[execOp,hop,run_build w t _ out Z4]
 rw[this]
 have hg:Rep0 w H1 (.agg out) (.g (jc (v.cells.toList.map cS) (qs.map fun p=>(p.1,(rd ob 1 (ρ p.2.2)).cells)))):=by
  have:=Rep0.g (w:=w) (H:=H1) out.toList _ hrep.1 hrep.2;simpa using this
 exact hF _ _ _ w H1 ov hR ik (fun _ _ h=>h) hm1 (.up hg)
omit hm hρ hF hid hob in
theorem vW:∀{ps:List (Nat×Operand)} {qs:List (Nat×X)},tu ps=some qs→
 ps.length=qs.length∧∀(j:Nat) (p:Nat×Operand) (q:Nat×X),ps[j]? =some p→qs[j]? =some q→cX p.2=some q.2∧p.1=q.1
 |[],qs,h=>by simp[tu]at h;subst h;exact⟨rfl,fun j p q h=>by simp at h⟩
 |(i,x)::r,qs,h=>by
  unfold tu at h;split at h
  ·rename_i x' r' hx hr;cases h;obtain⟨h1,h2⟩:=vW hr;refine⟨by simp[h1],fun j p q hp hq=>?_⟩;cases j with
   |zero=>simp at hp hq;subst hp;subst hq;exact⟨hx,rfl⟩
   |succ j=>exact h2 j p q (by simpa using hp) (by simpa using hq)
  ·cases h
omit hm hρ hF hid hob in
theorem Fe{α:Type}(z:List α)(hz:0<z.length):∀(n i:Nat),i<n*z.length→((List.replicate n z).flatten)[i]? =z[i%z.length]?
 |0,i,h=>by simp at h
 |n+1,i,h=>by
  rw[List.replicate_succ,List.flatten_cons];by_cases hi:i<z.length
  ·rw[List.getElem?_append_left hi,Nat.mod_eq_of_lt hi]
  ·rw[List.getElem?_append_right om,Fe z hz n (i-z.length) (by rw[Nat.add_mul,Nat.one_mul]at h;omega)];congr 1;conv=>rhs;rw[show i=i-z.length+z.length from om,Nat.add_mod_right]
omit hm hρ hF hid hob in
theorem Ff{α:Type}(z:List α)(n:Nat):((List.replicate n z).flatten).length=n*z.length:=by simp[List.length_flatten,List.map_replicate,List.sum_replicate_nat]
omit hm hρ hF hid hob in
theorem Fg(z:Array Value)(hz:0<z.size)(n:Nat):aj w H (madeCells z (n*z.size)).toList ((List.replicate n (z.toList.map cS)).flatten):=by
 refine⟨by simp[size_madeCells,Ff],fun j v x h1 h2=>?_⟩;have hj:j<n*z.size:=by
  have:=(List.getElem?_eq_some_iff.1 h1).1;simpa[size_madeCells]using this
 rw[Fe _ (by simpa using hz) n j (by simpa using hj)]at h2;simp only[List.length_map,Array.length_toList,List.getElem?_map]at h2;have hm':j%z.size<z.size:=Nat.mod_lt _ hz;simp only[madeCells]at h1;rw[Array.getElem?_toList,Array.getElem?_map,Array.getElem?_range]at h1;simp only[hj,if_true,Option.map_some,Option.some.injEq]at h1;rw[getElem!_pos z _ hm']at h1;rw[Array.getElem?_toList,Array.getElem?_eq_getElem hm']at h2;simp only[Option.map_some,Option.some.injEq]at h2;subst h1;subst h2;exact H8 _
theorem s_mk{t e:TypeId}{l c:Operand}{l' c':X}{sz BB:Nat}{z:List V}(hop:o.op= .makeSlice t l c)(ht:P.underlying t=some (.slice e))(hty:xE P e=some (sz,BB,z))(hl:cX l=some l')(hc:cX c=some c')
 (h:ev (fun _ _ _=>False) (fun _ _ _=>False) ρ ob id R (.mk e sz BB z l' c')):o.wp P a w K Q:=by
 obtain⟨i,v,hi,hz,hs,hb,rfl,hvs,hpos,hall⟩:=mG hty
 have h1:=hρ l l' hl
 have h2:=hρ c c' hc
 simp only[ev]at h
 cases hv:ρ l'<;>rw[hv]at h h1<;>(try simp only[]at h)
 case i k n=>
  cases hu:ρ c'<;>rw[hu]at h h2<;>(try simp only[]at h);case i k' m=>
   obtain⟨⟨h0,hnm,hbytes,hbig⟩,hR⟩:=h;have Vd:(i.bytes:Int)*m≤281474976710656:=by rw[hb,Int.mul_comm];exact hbytes
   have hr:=run_make (P:=P) w t e i v ht hi hz k k' n m h0 hnm Vd om;rw[hs]at hr;have hBl:Below w.heap.size w (w.alloc (.cells (madeCells v.cells (m.toNat*sz)) e)):=(Below.refl _ _).alloc (Nat.le_refl _) _;have hmx:m.toNat≤maxLen:=by unfold maxLen;omega
   have LZ:n.toNat≤m.toNat:=om;have hown:(w.alloc (.cells (madeCells v.cells (m.toNat*sz)) e)).ownsRow 0 e sz (.slice (some ⟨w.heap.size,0,none⟩) n.toNat m.toNat) n.toNat ((madeCells v.cells (m.toNat*sz)).toList.take (n.toNat*sz)):=by
    refine⟨?_,.inr ⟨w.heap.size,m.toNat,_,rfl,Nat.zero_le _,heap_alloc_new w _,LZ,hmx,size_madeCells _ _,rfl⟩⟩;rw[List.length_take,Array.length_toList,size_madeCells];exact Nat.min_eq_left (Nat.mul_le_mul_right _ LZ)
   have hra:aj (w.alloc (.cells (madeCells v.cells (m.toNat*sz)) e)) H ((madeCells v.cells (m.toNat*sz)).toList.take (n.toNat*sz)) ((List.replicate n.toNat (v.cells.toList.map cS)).flatten):=by
    have hfull:=Fg (w:=w.alloc (.cells (madeCells v.cells (m.toNat*sz)) e)) (H:=H) v.cells om n.toNat;rw[hvs]at hfull;have e1:(madeCells v.cells (m.toNat*sz)).toList.take (n.toNat*sz)=(madeCells v.cells (n.toNat*sz)).toList:=by
     apply List.ext_getElem?;intro j;have hmul:=Nat.mul_le_mul_right sz LZ;by_cases hj:j<n.toNat*sz
     ·rw[List.getElem?_take,if_pos hj];simp[madeCells,hj,show j<m.toNat*sz by omega]
     ·rw[List.getElem?_take,if_neg hj,List.getElem?_eq_none (by simp[size_madeCells];omega)]
    rw[e1];exact hfull
   have hcl:∀x,x∈(List.replicate n.toNat (v.cells.toList.map cS)).flatten→x.cell=true:=fun x hx=>by
    obtain⟨l,hl,hx⟩:=List.mem_flatten.1 hx;rw[List.eq_of_mem_replicate hl]at hx;exact dV hall x hx
   have hor:=dU.row (O:=Ow w0 H0) hown hpos hra hcl om (fun b hb h=>by cases hb;exact absurd (hm.uk _ h) (Nat.lt_irrefl _)) (fun b hb=>by cases hb;exact .inl hm.bel.size);obtain⟨ik,hm'⟩:=hm.add hid hob hBl hor (fun b hb=>by cases hb;exact Nat.le_refl _);unfold Oper.wp;have:(execOp a.eval o).run P w= .ok (.value (.slice (some ⟨w.heap.size,0,none⟩) n.toNat m.toNat)) (w.alloc (.cells (madeCells v.cells (m.toNat*sz)) e)):=by
    simp[execOp,hop,h1.bP,h2.bP,hr]
   rw[this];exact hF _ _ _ _ H _ hR ik gp hm' (lG hown om (dB _ _))
theorem s_bsl{t e:TypeId}{n:Nat}{ps:Array (Nat×Operand)}{qs:List (Nat×X)}{sz BB:Nat}{z:List V}(hop:o.op= .buildSlice t n ps)(ht:P.underlying t=some (.slice e))(hty:xE P e=some (sz,BB,z))(hq:tu ps.toList=some qs)(hn:n*sz≤65536)
 (h:ev (fun _ _ _=>False) (fun _ _ _=>False) ρ ob id R (.Dz e sz n ((List.replicate n z).flatten) qs)):o.wp P a w K Q:=by
 obtain⟨i,v,hi,hz,hs,hb,rfl,hvs,hpos,hall⟩:=mG hty
 simp only[ev]at h
 obtain⟨⟨hok,hfit,hsz⟩,hR⟩:=h
 obtain⟨hl,yR⟩:=vW hq
 obtain⟨H1,ik,hm1,hfr,hfr'⟩:=hm.freeze (gY (ob:=ob) qs (fun p=>ρ p.2))
 have hmade:aj w H1 (madeCells v.cells (n*sz)).toList ((List.replicate n (v.cells.toList.map cS)).flatten):=by
  have:=Fg (w:=w) (H:=H1) v.cells om n;rw[hvs]at this;exact this
 have key:=zZ (w:=w) (H:=H1) (fun k=>some (k*sz,sz)) (ps.toList.map fun p=>(p.1,a.eval p.2)) (qs.map fun p=>(p.1*sz,(rd ob 1 (ρ p.2)).cells)) (madeCells v.cells (n*sz)) _ (by simpa using hl)
  (fun j p q hp hq'=>by
    simp only[List.getElem?_map,Option.map_eq_some_iff]at hp hq';obtain⟨p0,hp0,rfl⟩:=hp;obtain⟨q0,hq0,rfl⟩:=hq';obtain⟨hx,e1⟩:=yR j p0 q0 hp0 hq0;have hmem:q0∈qs:=List.mem_of_getElem? hq0;have hcell:=rZ hfit (q0.1*sz,(rd ob 1 (ρ q0.2)).cells) (List.mem_map.2 ⟨q0,hmem,rfl⟩);have hlen:=List.all_eq_true.1 hsz q0 hmem;simp only[beq_iff_eq]at hlen;have hrd:=oG hm (sz:=1) dc (hρ _ _ hx) (vV hok _ (List.mem_map.2 ⟨q0,hmem,rfl⟩)) (n_ hcell) ik.hH (fun k y u b h1 h2 h3=>hfr k y u b (List.mem_flatMap.2 ⟨q0,hmem,h1⟩) h2 h3);exact⟨sz,by simp[e1],hlen,tC hrd hcell⟩) hmade hfit
 obtain⟨out,O9,hrep⟩:=key
 have hlen:out.size=n*sz:=by
  have h1:=hrep.1;have h2:∀(qs:List (Nat×List V)) (cs:List V),(jc cs qs).length=cs.length:=fun qs=>by
   induction qs with
   |nil=>intro cs;rfl
   |cons p r ih=>intro cs;obtain⟨k,vs⟩:=p;rw[jc,ih,g_]
  rw[h2,Ff]at h1;simp only[Array.length_toList,List.length_map]at h1;rw[h1,hvs]
 have hcl:∀x,x∈jc ((List.replicate n (v.cells.toList.map cS)).flatten) (qs.map fun p=>(p.1*sz,(rd ob 1 (ρ p.2)).cells))→x.cell=true:=by
  have gen:∀(qs:List (Nat×List V)) (cs:List V),(∀x,x∈cs→x.cell=true)→(∀q,q∈qs→q.2.all V.cell=true)→∀x,x∈jc cs qs→x.cell=true:=fun qs=>by
   induction qs with
   |nil=>intro cs h _ x hx;exact h x hx
   |cons p r ih=>
    intro cs h h' x hx;obtain⟨k,vs⟩:=p;exact ih _ (oW _ vs cs k h (dV (h' _ List.mem_cons_self))) (fun q hq=>h' q (List.mem_cons_of_mem _ hq)) x hx
  refine gen _ _ (fun x hx=>?_) (rZ hfit);obtain⟨l,hl,hx⟩:=List.mem_flatten.1 hx;rw[List.eq_of_mem_replicate hl]at hx;exact dV hall x hx
 have hBl:Below w.heap.size w (w.alloc (.cells out e)):=(Below.refl _ _).alloc (Nat.le_refl _) _
 have hnm:n≤maxLen:=by
  have:n≤n*sz:=Nat.le_mul_of_pos_right n hpos;unfold maxLen;omega
 have hown:=World.ownsRow_lit (base:=0) (e:=e) (size:=sz) w out n (Nat.zero_le _) hnm hlen
 have hra:aj (w.alloc (.cells out e)) H1 out.toList _:=hrep.mono (fun _ h=>h) (fun b hb=>hBl.block b (hm1.uk b hb))
 have hor:=dU.row (O:=Ow w0 H0) hown hpos hra hcl hnm (fun b hb h=>by cases hb;exact absurd (hm1.uk _ h) (Nat.lt_irrefl _)) (fun b hb=>by cases hb;exact .inl hm.bel.size)
 have Ve:upd ob (qs.flatMap fun p=>eF ob (ρ p.2)) id=none:=by
  rcases jD (ob:=ob) (qs.flatMap fun p=>eF ob (ρ p.2)) id with ⟨e1,_⟩|h'
  ·rw[e1];exact hob
  ·obtain⟨o',h1,_⟩:=gY (ob:=ob) qs (fun p=>ρ p.2) _ _ h';rw[hob]at h1;cases h1
 obtain⟨zY,hm'⟩:=hm1.add hid Ve hBl hor (fun b hb=>by cases hb;exact Nat.le_refl _)
 rw[jK]at hm'
 unfold Oper.wp
 have:(execOp a.eval o).run P w= .ok (.value (.slice (some ⟨w.heap.size,0,none⟩) n n)) (w.alloc (.cells out e)):=by
  have hn2:¬(2^24<n*sz):=om;have hf2:Instr.fill (fun i=>some (i*sz,sz)) (madeCells v.cells (n*sz)) (ps.toList.map fun p=>(p.1,a.eval p.2))=some out:=O9;by_cases h0:n*sz=0
  ·have e0:madeCells v.cells (n*sz)=#[]:=by rw[h0];simp[madeCells,Array.range_zero']
   rw[e0]at hf2;simp[execOp,hop,Instr.buildSlice,run_underlying ht,sizeOf,typeInfo,hi,hs,newRow,hf2,h0,Array.range_zero']
  ·simp only[madeCells]at hf2;simp[execOp,hop,Instr.buildSlice,run_underlying ht,sizeOf,typeInfo,hi,hs,newRow,zeroValue,hz,h0,hn2,hf2]
 rw[this]
 exact hF _ _ _ _ H1 _ hR (ik.trans zY) gp hm' (lG hown hnm (dB _ _))
theorem s_bx{e:TypeId}{x:Operand}{x':X}(hop:o.op= .box e x)(hx:cX x=some x')
 (h:ev (fun _ _ _=>False) (fun _ _ _=>False) ρ ob id R (.bx e x')):o.wp P a w K Q:=by
 have h2:=hρ x x' hx
 obtain⟨⟨hok,hall⟩,hR⟩:=h
 obtain⟨H1,ik,hm1,hfr,_⟩:=hm.freeze (iR (ob:=ob) (ρ x'))
 have hrd:=oG hm (sz:=1) dc h2 hok (n_ hall) ik.hH hfr
 have hcells:=tC hrd hall
 have Ve:upd ob (eF ob (ρ x')) id=none:=by
  rcases jD (ob:=ob) (eF ob (ρ x')) id with ⟨e1,_⟩|h'
  ·rw[e1];exact hob
  ·obtain⟨o',h1,_⟩:=iR (ob:=ob) (ρ x') _ _ h';rw[hob]at h1;cases h1
 have hBl:Below w.heap.size w (w.alloc (.cells (a.eval x).cells e)):=(Below.refl _ _).alloc (Nat.le_refl _) _
 have hra:aj (w.alloc (.cells (a.eval x).cells e)) H1 (a.eval x).cells.toList _:=hcells.mono (fun _ h=>h) (fun b hb=>hBl.block b (hm1.uk b hb))
 have hor:∀bJ,dU (w.alloc (.cells (a.eval x).cells e)) H1 (Ow w0 H0) bJ (.pointer (some ⟨w.heap.size,0,none⟩)) {e:=e,sz:=(rd ob 1 (ρ x')).cells.length,cs:=(rd ob 1 (ρ x')).cells,mu:=true,jl:=true}:=fun bJ=>
  ⟨fun x hx=> .inl (dV hall x hx),fun b hb=>by cases hb;exact .inl hm.bel.size,fun b hb=>⟨fun h=>by cases hb;exact absurd (hm1.uk _ h) (Nat.lt_irrefl _),fun h=>by cases h⟩,.inl ⟨rfl,.inl ⟨w.heap.size,(a.eval x).cells,rfl,Nat.zero_le _,heap_alloc_new w _,hra.cs⟩⟩⟩
 obtain⟨zY,hm'⟩:=hm1.add hid Ve hBl hor (fun b hb=>by cases hb;exact Nat.le_refl _)
 rw[jK]at hm'
 unfold Oper.wp
 have:(execOp a.eval o).run P w= .ok (.value (.pointer (some ⟨w.heap.size,0,none⟩))) (w.alloc (.cells (a.eval x).cells e)):=by
  simp[execOp,hop,Instr.box,newVar,newRow]
 rw[this]
 exact hF _ _ _ _ H1 _ hR (ik.trans zY) gp hm' (.pt id 0 w.heap.size _ (dB _ _) rfl)
end ops
