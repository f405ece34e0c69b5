import Derived.Laws.ComplexArith
import Derived.WalkKit
import Derived.Orders
import Derived.WalkSpells
import Derived.Lib.SliceRun
set_option linter.all false
namespace Go.Proofs.YtpopphdnlhihdaaGreatDoor
def bC:=@List.getElem?_eq_getElem
def aJ:=@Bool.false_eq_true
def dN:=@List.getD_eq_getElem?_getD
def aV:=@beq_self_eq_true
def cZ:=@Nat.lt_of_le_of_lt
def eu:=@Nat.lt_of_lt_of_le
def bK:=@Nat.le_trans
def aY:=@Nat.le_refl
def iR:=@List.getElem?_eq_some_iff
def pW:=@Array.getElem?_eq_some_iff
def bD:=@Nat.mod_eq_of_lt
def bZ:=@List.length_append
def dX:=@List.length_cons
def iJ:=@List.length_map
def jo:=@List.length_take
def uM:=@List.length_drop
def aG:=@Nat.zero_le
def aO:=@Nat.mul_one
def dP:=@List.mem_of_getElem?
def dh:=@List.all_eq_true
def dZ:=@List.mem_cons
def nC:=@List.mem_append
def bV:=@Nat.mul_comm
def aC:=@ite_self
def uO:=@List.getElem?_append_left
def rY:=@List.getElem?_append_right
def ng:=@List.getElem?_eq_none
def nS:=@List.length_replicate
def nY:=@List.append_assoc
def l_:=@List.mem_singleton
def eG:=@List.mem_map
def fB:=@Nat.mul_assoc
def tY:=@Nat.add_assoc
def tX:=@Nat.mul_le_mul
def iZ:=@Nat.mul_le_mul_left
def kF:=@Nat.mul_le_mul_right
def dJ:=@List.length_nil
def fU:=@Option.some.injEq
def fP:=@Nat.div_lt_iff_lt_mul
def iU:=@List.getElem?_map
def qG:=@Nat.sub_add_cancel
def CW:=@Nat.add_sub_cancel
def C_:=@Nat.pos_of_ne_zero
def kQ:=@Nat.add_mul
def fQ:=@Nat.mul_add
def dO:=@Nat.pow_succ
def qo:=@Nat.div_add_mod
def cu:=@Nat.mod_lt
def RI:=@List.take_append_of_le_length
def jB:=@List.take_of_length_le
def Dc:=@List.drop_eq_getElem_cons
def uP:=@List.getElem_mem
def qC:=@Nat.le_of_lt
def jC:=@Int.natCast_mul
def jT:=@Option.map_eq_some_iff
def w_:=@List.map_append
def yZ:=@List.length_set
def Jm:=@List.getElem?_cons_zero
def GM:=@List.length_singleton
def tZ:=@List.cons_append
def uQ:=@List.nil_append
def qF:=@List.append_nil
def kP:=@not_false_eq_true
def mZ:=@not_true_eq_false
def dA:=@Bool.and_eq_true
def ku:=@bne_iff_ne
def qW:=@decide_eq_true_eq
def bW:=@and_true
def bY:=@true_and
def au:=@if_pos
def ah:=@if_neg
def t_:=@Nat.two_pow_pos
def uf:=@Nat.one_pos
def jM:=@List.mem_cons_self
def aW:=@Nat.div_one
def gX:=@Nat.pow_le_pow_right
def dS:=@Option.some.inj
def bg:=@Nat.pow_pos
def lH:=@Array.getD_eq_getD_getElem?
def nz:=@List.eq_nil_of_length_eq_zero
def dI:=@List.map_cons
def fE:=@Nat.div_le_self
def jD:=@List.mem_cons_of_mem
def dn:=@Nat.pow_add
def iH:=@List.take_length
def dW:=@Nat.lt_or_ge
def lZ:=@Nat.div_div_eq_div_mul
def gQ:=@List.mem_range
def gG:=@Bool.false_and
def eY:=@Nat.zero_add
def kz:=@Nat.eq_zero_or_pos
def fJ:=@List.map_nil
def iI:=@List.all_cons
def jQ:=@Nat.div_eq_of_lt
def nR:=@List.replicate_succ
def iT:=@Nat.zero_mul
def kZ:=@Option.map_some
def y7:=@List.take_succ_eq_append_getElem
def rZ:=@Nat.le_div_iff_mul_le
def jP:=@Bool.true_and
def jJ:=@Option.getD_some
def nZ:=@List.set_append_right
def gW:=@Nat.sub_self
def ik:=@Nat.add_zero
def oQ:=@List.getElem?_toArray
def jy:=@Int.natAbs_mul
def sF:=@Array.getElem?_eq_getElem
def qX:=@Nat.add_sub_cancel_left
def oP:=@Nat.add_mul_div_left
def pX:=@Array.getElem?_toList
def jf:=@Bool.and_true
def uy:=@Nat.add_mul_mod_self_left
def ou:=@List.getElem?_take
def qY:=@Nat.le_of_ble_eq_true
def nN:=@List.mem_flatMap
def kX:=@Int.natAbs_neg
def iV:=@Nat.one_mul
def mM:=@Nat.mul_ne_zero
def og:=@List.not_mem_nil
def jH:=@List.all_nil
def aZ:=@decide_eq_false
def cO:=@decide_eq_true
def kG:=@Nat.mul_zero
def kH:=@Nat.gcd_comm
def uC:=@List.mem_append_left
def yG:=@Int.fdiv_eq_ediv_of_nonneg
def pR:=@Nat.min_eq_left
def sG:=@Nat.gcd_one_right
def sH:=@List.flatMap_cons
def yH:=@Option.isSome_iff_exists
def uB:=@List.getElem?_drop
def vT:=@List.map_congr_left
def vU:=@List.getElem_of_mem
def vS:=@Int.natAbs_natCast
def yI:=@List.mem_append_right
def oh:=@Nat.lt_trans
def BQ:=@Nat.mul_lt_mul_of_lt_of_lt
def zB:=@List.getElem?_set_self
def GN:=@Int.mul_nonpos_of_nonpos_of_nonneg
def yD:=@List.length_pos_iff
def xx:=@List.flatten_cons
def BN:=@Nat.pow_lt_pow_iff_right
variable{p:Prop}
theorem tv(h:p:=by repeat' first|exact trivial|rfl|apply And.intro):p:=h
theorem an{a b:Prop}(x:a)(y:b):a∧b:=⟨x,y⟩
theorem om(h:p:=by omega):p:=h
theorem dc(h:p:=by decide):p:=h
theorem sy(h:p:=by simp):p:=h
end Go.Proofs.YtpopphdnlhihdaaGreatDoor
namespace Go.Proofs.YtpopphdnlhihdaaGreatDoor.Ab
open Go Ieee
def sgn(s:Bool)(m:Nat):Int:=if s then -(m:Int)else(m:Int)
def FV(s:Bool)(m:Nat)(e n:Int):Prop:=sgn s m*2^e.toNat=n*2^(-e).toNat
def FI(w:Nat)(n:Int):Prop:=∃s m e,double.read w= .number s m e∧FV s m e n
theorem two_pos(k:Nat):(0:Int)<2^k:=Int.pow_pos dc
theorem pc{a b:Int}{k:Nat}(h:a*2^k=b*2^k):a=b:=Int.eq_of_mul_eq_mul_right (Int.ne_of_gt (two_pos k)) h
theorem neg_FV{s:Bool}{m:Nat}{e n:Int}(h:FV s m e n):FV (!s) m e (-n):=by
 unfold FV at*
 rw[show sgn (!s) m= -(sgn s m)from by unfold sgn;cases s<;>simp,Int.neg_mul,Int.neg_mul,h]
def sJ(w:Nat):Nat:=w ^^^ 2^63
theorem Wn(w:Nat):double.read (sJ w)=(double.read w).opposite:=by
 unfold Format.read;dsimp only;have c:double.signWeight=2^63:=by decide+kernel
 have e1:sJ w%2^63=w%2^63:=by
  unfold sJ;rw[Nat.xor_mod_two_pow,Nat.mod_self,Nat.xor_zero]
 have f:(sJ w/2^63%2==1)=!(w/2^63%2==1):=by
  unfold sJ;rw[Nat.xor_div_two_pow,Nat.div_self dc];have:=Nat.xor_mod_two_pow (a:=w/2^63) (b:=1) (n:=1);rw[Nat.pow_one]at this;rw[this];rcases Nat.mod_two_eq_zero_or_one (w/2^63)with h|h<;>rw[h]<;>decide
 rw[c,e1,f];split
 ·rfl
 ·split
  ·rfl
  ·split<;>rfl
theorem neg_FI{w:Nat}{n:Int}(h:FI w n):FI (sJ w) (-n):=by
 obtain⟨s,m,e,c,a⟩:=h;exact⟨!s,m,e,by rw[Wn,c];rfl,neg_FV a⟩
theorem Wp:FI 0 0:=⟨false,0,double.leastPlace,by decide+kernel,by unfold FV sgn;simp⟩
theorem FI_1:FI 4607182418800017408 1:=⟨false,4503599627370496,-52,by decide+kernel,by unfold FV sgn;decide+kernel⟩
end Go.Proofs.YtpopphdnlhihdaaGreatDoor.Ab
namespace Go.Proofs.YtpopphdnlhihdaaGreatDoor.Ab
open Go Go.RowKit
inductive V where
 |i (k:IntKind) (n:Int)
 |b (x:Bool)
 |s (l:List UInt8)
 |l (sz:Nat) (cs:List V)
 |o (e sz:Nat) (cs:List V)
 |g (cs:List V)
 |t (vs:List V)
 |ip (cs:List V) (k:Nat)
 |ow (sz id n:Nat)
 |sl (sz id off n:Nat)
 |pt (id off:Nat)
 |nl
 |c (v:Value)
 |un
 |any
 |fr (x:V)
 |f (n:Int)
 |z (re im:Int)
 |mu (x:V) (cs:List V)
 |tw (sz id n:Nat) (rs:List V)
 |to (e sz:Nat) (cs rs:List V)
 |fc (f:Nat) (cs:List V)
 |kn (v:Value) (x:V)
 deriving Inhabited
def V.cell:V→Bool
 | .i _ _| .b _| .s _| .l _ _=>true
 | .c v=>v.oneCell'
 | .kn v _=>v.oneCell'
 |_=>false
def V.nX:V→Bool
 | .i _ _| .b _| .s _| .c _| .un| .any| .nl| .f _| .z _ _=>false
 | .o _ _ cs=>cs.any fun x=>match x with| .i _ _| .b _| .s _=>false|_=>true
 | .g cs=>cs.any fun x=>match x with| .i _ _| .b _| .s _=>false|_=>true
 | .t cs=>cs.any fun x=>match x with| .i _ _| .b _| .s _=>false|_=>true
 |_=>true
def blk:Value→Option Nat
 | .slice (some a) _ _=>some a.block
 | .pointer (some a)=>some a.block
 |_=>none
inductive Rep0(w:World)(H:Nat→Prop):Value→V→Prop
 |i (k:IntKind) (n:Int):Rep0 w H (.int k n) (.i k n)
 |b (x:Bool):Rep0 w H (.bool x) (.b x)
 |s (l:List UInt8):Rep0 w H (.string ⟨l.toArray⟩) (.s l)
 |l (a:Option Addr) (n cap sz:Nat) (cs:List V) (f:Nat→Value) (b o:Nat) (hsz:0<sz) (hn:cs.length=n*sz) (hm:n≤maxLen) (hcp:n≤cap)
   (ha:cs=[]∨(a=some ⟨b,o,none⟩∧H b)) (hc:∀j,j<cs.length→w.cell? ⟨b,o+j,none⟩=some (f j)) (hr:∀(j:Nat) (x:V),cs[j]? =some x→Rep0 w H (f j) x):
   Rep0 w H (.slice a n cap) (.l sz cs)
 |g (vs:List Value) (cs:List V) (hn:vs.length=cs.length) (hr:∀(j:Nat) (v:Value) (x:V),vs[j]? =some v→cs[j]? =some x→Rep0 w H v x):Rep0 w H (.agg vs.toArray) (.g cs)
 |t (vs:List Value) (cs:List V) (hn:vs.length=cs.length) (hr:∀(j:Nat) (v:Value) (x:V),vs[j]? =some v→cs[j]? =some x→Rep0 w H v x):Rep0 w H (.tuple vs.toArray) (.t cs)
 |ip (cs:List V) (k:Nat) (f:Nat→Value) (b o:Nat) (hb:H b) (hc:∀j,j<cs.length→w.cell? ⟨b,o+j,none⟩=some (f j)) (hr:∀(j:Nat) (x:V),cs[j]? =some x→Rep0 w H (f j) x):
   Rep0 w H (.pointer (some ⟨b,o+k,none⟩)) (.ip cs k)
 |nl:Rep0 w H (.slice none 0 0) .nl
 |c (v:Value):Rep0 w H v (.c v)
 |un:Rep0 w H undef .un
 |any (v:Value):Rep0 w H v .any
 |f (q:Nat) (n:Int) (h:FI q n):Rep0 w H (.float .f64 q) (.f n)
 |z (p q:Nat) (a b:Int) (h:FI p a) (k:FI q b):Rep0 w H (.complex .f64 p q) (.z a b)
 |fc (fn:Nat) (cs:List V) (f:Nat→Value) (b:Nat) (hb:H b) (hc:∀j,j<cs.length→w.cell? ⟨b,0+j,none⟩=some (f j)) (hr:∀(j:Nat) (x:V),cs[j]? =some x→Rep0 w H (f j) x):
   Rep0 w H (.func (.func fn) #[] #[.pointer (some ⟨b,0,none⟩)]) (.fc fn cs)
 |kn (v:Value) (x:V) (h:Rep0 w H v x):Rep0 w H v (.kn v x)
inductive Rep(w:World)(H:Nat→Prop)(ov:Nat→Option Value):Value→V→Prop
 |base {v:Value} {x:V} (h:Rep0 w H v x):Rep w H ov v x
 |ow (sz id n cap:Nat) (a:Option Addr) (hm:n≤maxLen) (hcp:n≤cap) (ha:n=0∨∃b,a=some ⟨b,0,none⟩) (ho:ov id=some (.slice a n cap)):Rep w H ov (.slice a n cap) (.ow sz id n)
 |sl (a:Option Addr) (sz id off n cap:Nat) (v:Value) (hm:n≤maxLen) (hcp:n≤cap) (ho:ov id=some v) (ha:n=0∨∃b,blk v=some b∧a=some ⟨b,off,none⟩) (hz:off=0→0<sz→∃m,v= .slice a m cap):Rep w H ov (.slice a n cap) (.sl sz id off n)
 |pt (id off b:Nat) (v:Value) (ho:ov id=some v) (hb:blk v=some b):Rep w H ov (.pointer (some ⟨b,off,none⟩)) (.pt id off)
 |tw (sz id n cap:Nat) (a:Option Addr) (vs:List Value) (rs:List V) (hm:n≤maxLen) (hcp:n≤cap) (ha:n=0∨∃b,a=some ⟨b,0,none⟩) (ho:ov id=some (.slice a n cap)) (hr:vs.length=rs.length∧∀(j:Nat) (v:Value) (x:V),vs[j]? =some v→rs[j]? =some x→Rep0 w H v x):
   Rep w H ov (.tuple (.slice a n cap::vs).toArray) (.tw sz id n rs)
structure Ext(w:World)(H:Nat→Prop)(ov:Nat→Option Value)(w':World)(H':Nat→Prop)(jZ:Nat→Option Value):Prop where
 hH:∀b,H b→H' b
 hw:∀b,H b→w'.heap[b]? =w.heap[b]?
 ho:∀i v,ov i=some v→jZ i=some v
theorem Ext.refl(w:World)(H:Nat→Prop)(ov:Nat→Option Value):Ext w H ov w H ov:=⟨fun _ h=>h,fun _ _=>rfl,fun _ _ h=>h⟩
variable{H H' e O:Nat→Prop}{ov jZ:Nat→Option Value}{w' w0:World}{p:Prop}
theorem Ext.trans{w g f:World}{H1 H2:Nat→Prop}{c a:Nat→Option Value}(h:Ext w H ov g H1 c)(k:Ext g H1 c f H2 a):Ext w H ov f H2 a:=
 ⟨fun b hb=>k.hH b (h.hH b hb),fun b hb=>(k.hw b (h.hH b hb)).trans (h.hw b hb),fun i v hi=>k.ho i v (h.ho i v hi)⟩
variable{x:V}
theorem Rep0.mono{w:World}(N:∀b,H b→H' b)(M:∀b,H b→w'.heap[b]? =w.heap[b]?){v:Value}(h:Rep0 w H v x):Rep0 w' H' v x:=by
 induction h with
 |i k n=>exact .i k n
 |b x=>exact .b x
 |s l=>exact .s l
 |l a n cap sz cs f b o G A hm I O C E m=>
  refine .l a n cap sz cs f b o G A hm I (O.imp id fun h=>⟨h.1,N _ h.2⟩) (fun j u=>?_) (fun j x y=>m j x y);rcases O with rfl|⟨rfl,hb⟩
  ·simp at u
  ·exact(World.cell?_of_block (a:=⟨b,o+j,none⟩) (M b hb)).trans (C j u)
 |g F cs A E m=>exact .g F cs A fun j v x L J=>m j v x L J
 |t F cs A E m=>exact .t F cs A fun j v x L J=>m j v x L J
 |ip cs k f b o hb C E m=>
  exact .ip cs k f b o (N _ hb) (fun j u=>(World.cell?_of_block (a:=⟨b,o+j,none⟩) (M b hb)).trans (C j u)) fun j x y=>m j x y
 |nl=>exact .nl
 |c v=>exact .c v
 |un=>exact .un
 |any v=>exact .any v
 |f q n h=>exact .f q n h
 |z p q a b h k=>exact .z p q a b h k
 |fc fn cs f b hb C E m=>
  exact .fc fn cs f b (N _ hb) (fun j u=>(World.cell?_of_block (a:=⟨b,0+j,none⟩) (M b hb)).trans (C j u)) fun j x y=>m j x y
 |kn v x h m=>exact .kn v x m
theorem Rep.mono{w:World}(e:Ext w H ov w' H' jZ){v:Value}(h:Rep w H ov v x):Rep w' H' jZ v x:=by
 cases h with
 |base h=>exact .base (h.mono e.hH e.hw)
 |ow sz id n cap a hm c g f=>exact .ow sz id n cap a hm c g (e.ho _ _ f)
 |sl a sz id off n cap v hm c f g hz=>exact .sl a sz id off n cap v hm c (e.ho _ _ f) g hz
 |pt id off b v f hb=>exact .pt id off b v (e.ho _ _ f) hb
 |tw sz id n cap a m rs hm c g f l=>exact .tw sz id n cap a m rs hm c g (e.ho _ _ f) ⟨l.1,fun j v x y u=>(l.2 j v x y u).mono e.hH e.hw⟩
section
variable {w:World} {H:Nat→Prop} {ov:Nat→Option Value}
theorem Rep.i(k:IntKind)(n:Int):Rep w H ov (.int k n) (.i k n):= .base (.i k n)
theorem Rep.b(x:Bool):Rep w H ov (.bool x) (.b x):= .base (.b x)
theorem Rep.s(l:List UInt8):Rep w H ov (.string ⟨l.toArray⟩) (.s l):= .base (.s l)
theorem Rep.nl:Rep w H ov (.slice none 0 0) .nl:= .base .nl
theorem Rep.any(v:Value):Rep w H ov v .any:= .base (.any v)
theorem Rep.un:Rep w H ov undef .un:= .base .un
theorem Rep.up{v:Value}(h:Rep0 w H v x):Rep w H ov v x:= .base h
theorem Rep.down{v:Value}(h:Rep w H ov v x)(a:x.cell=true):Rep0 w H v x:=by
 cases h<;>first|assumption|(simp[V.cell]at a)
end
theorem Rep0.oneCell{w:World}{v:Value}(h:Rep0 w H v x)(a:x.cell=true):v.oneCell'=true:=by
 cases h<;>first|rfl|(simp[V.cell]at a;done)|exact a
structure Ob where
 e:Nat
 sz:Nat
 cs:List V
 mu:Bool
 pg:Bool
 deriving Inhabited
def aB(w:World)(H:Nat→Prop)(xs:List Value)(cs:List V):Prop:=
 xs.length=cs.length∧∀(j:Nat) (v:Value) (x:V),xs[j]? =some v→cs[j]? =some x→Rep0 w H v x
theorem aB.mono{w:World}(g:∀b,H b→H' b)(f:∀b,H b→w'.heap[b]? =w.heap[b]?){xs:List Value}{cs:List V}(h:aB w H xs cs):aB w' H' xs cs:=
 ⟨h.1,fun j v x c a=>(h.2 j v x c a).mono g f⟩
structure HS where
 h:Nat→Prop
 e:Nat→Prop
 kp:List (Nat×Value)
def Ow(w0:World)(H0:HS)(b:Nat):Prop:=w0.heap.size≤b∨H0.e b
structure bT(w0:World)(e:Nat→Prop)(w:World):Prop where
 os:w.os=w0.os
 tape:w.tape=w0.tape
 output:w.output=w0.output
 size:w0.heap.size≤w.heap.size
 block:∀k,k<w0.heap.size→¬e k→w.heap[k]? =w0.heap[k]?
theorem bT.refl(w:World)(e:Nat→Prop):bT w e w:=⟨rfl,rfl,rfl,aY _,fun _ _ _=>rfl⟩
theorem bT.after{w:World}(h:bT w0 e w)(k:Below w.heap.size w w'):bT w0 e w':=
 ⟨k.os.trans h.os,k.tape.trans h.tape,k.output.trans h.output,bK h.size k.size,fun i hi a=>(k.block i (eu hi h.size)).trans (h.block i hi a)⟩
theorem bT.drew{w:World}(h:bT w0 e w):bT w0 e w.drew:=⟨h.os,h.tape,h.output,h.size,h.block⟩
variable{H0:HS}
theorem bT.chg{w:World}(h:bT w0 H0.e w){b:Nat}(hb:Ow w0 H0 b)(g:w'.os=w.os)(ht:w'.tape=w.tape)(c:w'.output=w.output)(f:w.heap.size≤w'.heap.size)(j:∀k,k<w.heap.size→k≠b→w'.heap[k]? =w.heap[k]?):bT w0 H0.e w':=
 ⟨g.trans h.os,ht.trans h.tape,c.trans h.output,bK h.size f,fun i hi a=>(j i (eu hi h.size) (fun e=>by
   subst e;rcases hb with hb|hb
   ·omega
   ·exact a hb)).trans (h.block i hi a)⟩
theorem bT.grown{w:World}(h:bT w0 H0.e w){row:Option Nat}(a:w.grownBy w' row)(f:∀k,row=some k→Ow w0 H0 k):bT w0 H0.e w':=
 ⟨a.os.trans h.os,a.tape.trans h.tape,a.output.trans h.output,bK h.size a.size,fun i hi c=>(a.block i (eu hi h.size) (fun e=>by
   rcases f i e.symm with hb|hb
   ·omega
   ·exact c hb)).trans (h.block i hi c)⟩
theorem bT.via{w:World}(h:bT w0 H0.e w)(k:bT w e w')(he:∀b,e b→Ow w0 H0 b):bT w0 H0.e w':=
 ⟨k.os.trans h.os,k.tape.trans h.tape,k.output.trans h.output,bK h.size k.size,fun i hi a=>(k.block i (eu hi h.size) (fun e=>by
   rcases he i e with hb|hb
   ·omega
   ·exact a hb)).trans (h.block i hi a)⟩
theorem bT.below{w:World}(h:bT w0 e w)(he:∀b,¬e b):Below w0.heap.size w0 w:=⟨h.os,h.tape,h.output,h.size,fun k a=>h.block k a (he k)⟩
def refT(e:Nat):Bool:=e==41
def keepT(t:Nat):Bool:=t==28||t==38||t==39
def keepN(k:Nat):Bool:=!(k==46)
def isRef:V→Bool
 | .ow _ _ _| .sl _ _ _ _| .nl=>true
 |_=>false
def CU(o:Ob):Bool:=o.pg&&refT o.e
theorem Wq:(∀(e sz:Nat) (cs:List V) (mu:Bool),(CU ⟨e,sz,cs,mu,false⟩=false)=True)∧(∀(e sz:Nat) (cs:List V) (mu:Bool),(CU ⟨e,sz,cs,mu,true⟩=false)=((e=41)=False))∧(∀(e sz:Nat) (cs:List V) (mu:Bool),(CU ⟨e,sz,cs,mu,true⟩=true)=(e=41)):=
 ⟨fun e sz cs mu=>eq_true rfl,fun e sz cs mu=>by unfold CU refT;simp,fun e sz cs mu=>by unfold CU refT;simp⟩
def refN:Option Ob→Prop
 |some o=>CU o=false∨o.cs.all V.cell=true
 |none=>True
theorem refN_s{o:Ob}:refN (some o)=(CU o=false∨o.cs.all V.cell=true):=rfl
theorem or_t1:(True∨p)=True:=true_or p
theorem or_f1:((True=False)∨p)=p:=sy
variable{l:List V}
theorem all_c1:((x::l).all V.cell=true)=(x.cell=true∧l.all V.cell=true):=sy
theorem all_n1:(([]:List V).all V.cell=true)=True:=sy
theorem cel_l1{n:Nat}:(V.cell (.l n l)=true)=True:=by simp[V.cell]
theorem cel_i1{k:IntKind}{n:Int}:(V.cell (.i k n)=true)=True:=by simp[V.cell]
theorem cel_b1{b:Bool}:(V.cell (.b b)=true)=True:=by simp[V.cell]
theorem cel_s1{l:List UInt8}:(V.cell (.s l)=true)=True:=by simp[V.cell]
theorem refN_n:refN none=True:=rfl
def ug(w:World)(H:Nat→Prop)(ov:Nat→Option Value)(xs:List Value)(cs:List V):Prop:=
 xs.length=cs.length∧∀(j:Nat) (v:Value) (x:V),xs[j]? =some v→cs[j]? =some x→Rep w H ov v x
theorem ug.mono{w:World}(e:Ext w H ov w' H' jZ){xs:List Value}{cs:List V}(h:ug w H ov xs cs):ug w' H' jZ xs cs:=
 ⟨h.1,fun j v x c a=>(h.2 j v x c a).mono e⟩
theorem aB.cs{w:World}{xs:List Value}{cs:List V}(h:aB w H xs cs):ug w H ov xs cs:=⟨h.1,fun j v x c a=> .base (h.2 j v x c a)⟩
theorem ug.all{w:World}{xs:List Value}{cs:List V}(h:ug w H ov xs cs)(c:∀x,x∈cs→x.cell=true):aB w H xs cs:=
 ⟨h.1,fun j v x f a=>(h.2 j v x f a).down (c x (dP a))⟩
structure ji(w:World)(H:Nat→Prop)(O:Nat→Prop)(ov:Nat→Option Value)(v:Value)(ob:Ob):Prop where
 Ea:∀x,x∈ob.cs→x.cell=true∨(CU ob=true∧isRef x=true)
 ow:∀b,blk v=some b→O b
 fz:∀b,blk v=some b→(H b↔ob.mu=false)
 bd:(ob.pg=true∧((∃b cur,v= .pointer (some ⟨b,0,none⟩)∧0≤b∧w.heap[b]? =some (.cells cur ob.e (0,0))∧ug w H ov cur.toList ob.cs)∨
     (0<ob.sz∧∃n xs,w.ownsRow 0 ob.e ob.sz v n xs∧ug w H ov xs ob.cs∧n≤maxLen)))∨
  (ob.pg=false∧0<ob.sz∧∃n xs,w.ownsRow 0 ob.e ob.sz v n xs∧aB w H xs ob.cs∧n≤maxLen)
def tabi_1:List Int:=[0,1,56,2,57,49,28,3,61,58,42,50,38,29,17,4,62,47,59,36,45,43,51,22,53,39,33,30,24,18,12,5,63,55,48,27,60,41,37,16,46,35,44,21,52,32,23,11,54,26,40,15,34,20,31,10,25,14,19,9,13,8,7,6]
def Jn:List V:=tabi_1.map fun n=> .i .u8 n
def tabi_0:List Int:=[48,49,50,51,52,53,54,55,56,57,97,98,99,100,101,102,103,104,105,106,107,108,109,110,111,112,113,114,115,116,117,118,119,120,121,122]
def BA:List V:=tabi_0.map fun n=> .i .u8 n
def tabs:Nat→Option (List V):=fun g=>if g=0 then some BA else if g=1 then some Jn else none
def TJ(w:World)(H:Nat→Prop):Prop:=∀g cs,tabs g=some cs→H g∧∀(j:Nat) (x:V),cs[j]? =some x→∃v,w.cell? ⟨g,j,none⟩=some v∧Rep0 w H v x
theorem TJ.mono{w:World}(h:TJ w H)(l:∀b,H b→H' b)(f:∀b,H b→w'.heap[b]? =w.heap[b]?):TJ w' H':=fun g cs u=>by
 obtain⟨c,A⟩:=h g cs u;refine⟨l g c,fun j x m=>?_⟩;obtain⟨v,z,y⟩:=A j x m;exact⟨v,(World.cell?_of_block (a:=⟨g,j,none⟩) (f g c)).trans z,y.mono l f⟩
theorem TJ.rep{w:World}(h:TJ w H){g:Nat}{cs:List V}(m:tabs g=some cs):Rep0 w H (.pointer (some ⟨g,0,none⟩)) (.ip cs 0):=by
 obtain⟨y,c⟩:=h g cs m;refine .ip cs 0 (fun j=>(w.cell? ⟨g,0+j,none⟩).getD undef) g 0 y (fun j l=>?_) (fun j x f=>?_)
 ·obtain⟨v,a,_⟩:=c j cs[j] (bC l);rw[eY,a];rfl
 ·obtain⟨v,a,u⟩:=c j x f;simp only[eY,a,jJ];exact u
structure Mem(w0:World)(H0:HS)(w:World)(H:Nat→Prop)(ov:Nat→Option Value)(ob:Nat→Option Ob):Prop where
 bel:bT w0 H0.e w
 tj:TJ w H
 Bo:∀b,H b→b<w.heap.size
 low:∀b,H b→b<w0.heap.size→H0.h b∨H0.e b
 obj:∀id o,ob id=some o→∃v,ov id=some v∧ji w H (Ow w0 H0) ov v o
 sep:∀i j oi oj vi vj b,i≠j→ob i=some oi→ob j=some oj→ov i=some vi→ov j=some vj→blk vi=some b→blk vj≠some b
theorem ji.cl{w:World}{v:Value}{ob:Ob}(h:ji w H O ov v ob)(f:CU ob=false):∀x,x∈ob.cs→x.cell=true:=fun x c=>by
 rcases h.Ea x c with a|⟨a,_⟩
 ·exact a
 ·rw[f]at a;cases a
theorem ji.any{w:World}{v:Value}{ob:Ob}(h:ji w H O ov v ob)(l:CU ob=false∨ob.cs.all V.cell=true)(jZ:Nat→Option Value):ji w H O jZ v ob:=by
 have c:∀x,x∈ob.cs→x.cell=true:=l.elim h.cl fun y=>dh.1 y
 refine⟨h.Ea,h.ow,h.fz,h.bd.imp (fun⟨j,g⟩=>⟨j,g.imp (fun⟨b,cur,e,u,m,a⟩=>⟨b,cur,e,u,m,(a.all c).cs⟩) fun⟨f,n,xs,hown,a,hm⟩=>⟨f,n,xs,hown,(a.all c).cs,hm⟩⟩) id⟩
theorem xe{ob:Ob}(h:ob.pg=false):CU ob=false:=by unfold CU;rw[h];rfl
theorem ji.cell{w:World}{v:Value}{ob:Ob}(h:ji w H O ov v ob){j:Nat}(f:ob.cs[j]? =some x):
 ∃b u,blk v=some b∧w.cell? ⟨b,j,none⟩=some u∧w.frozen? ⟨b,j,none⟩=false∧Rep w H ov u x∧O b:=by
 rcases h.bd with ⟨_,⟨b,cur,rfl,E,l,c⟩|⟨m,n,xs,hown,c,_⟩⟩|⟨_,m,n,xs,hown,y,_⟩
 ·have a:j<cur.toList.length:=by have:=(iR.1 f).1;have:=c.1;omega
  refine⟨b,cur.toList[j],rfl,?_,frozen_of_row w b j cur ob.e l,c.2 j _ x (bC a) f,h.ow b rfl⟩;rw[cell_of_row w b j cur ob.e (0,0) l];simp at a ⊢
 ·have a:j<xs.length:=by have:=(iR.1 f).1;have:=c.1;omega
  have hown':=hown;rcases hown.2 with ⟨rfl,rfl⟩|⟨g,cap,cur,rfl,hb,l,z,C,A,htake⟩
  ·have:=hown.1;simp at this;subst this;simp at a
  ·refine⟨g,xs[j],rfl,?_,hown'.frozenAt j,c.2 j _ x (bC a) f,h.ow g rfl⟩;rw[hown'.cellAt j (by rw[←hown.1];exact a),bC a]
 ·have c:ug w H ov xs ob.cs:=y.cs;have a:j<xs.length:=by have:=(iR.1 f).1;have:=c.1;omega
  have hown':=hown;rcases hown.2 with ⟨rfl,rfl⟩|⟨g,cap,cur,rfl,hb,l,z,C,A,htake⟩
  ·have:=hown.1;simp at this;subst this;simp at a
  ·refine⟨g,xs[j],rfl,?_,hown'.frozenAt j,c.2 j _ x (bC a) f,h.ow g rfl⟩;rw[hown'.cellAt j (by rw[←hown.1];exact a),bC a]
theorem ji.mono{w:World}{v:Value}{ob:Ob}(h:ji w H O ov v ob)(A:∀i v,ov i=some v→jZ i=some v)(u:∀b,H b→H' b)(z:∀b,H b→w'.heap[b]? =w.heap[b]?)
 (hb:∀b,blk v=some b→w'.heap[b]? =w.heap[b]?) (C:∀b,blk v=some b→H' b→H b):ji w' H' O jZ v ob:=by
 refine⟨h.Ea,h.ow,fun b hb=>⟨fun y=>(h.fz b hb).1 (C b hb y),fun y=>u b ((h.fz b hb).2 y)⟩,?_⟩
 have e:Ext w H ov w' H' jZ:=⟨u,z,A⟩
 rcases h.bd with ⟨l,⟨b,cur,rfl,E,j,f⟩|⟨a,n,xs,hown,f,hm⟩⟩|⟨l,a,n,xs,hown,f,hm⟩
 ·exact .inl ⟨l,.inl ⟨b,cur,rfl,E,(hb b rfl).trans j,f.mono e⟩⟩
 ·refine .inl ⟨l,.inr ⟨a,n,xs,⟨hown.1,?_⟩,f.mono e,hm⟩⟩;rcases hown.2 with m|⟨g,cap,cur,rfl,c,j,rest⟩
  ·exact .inl m
  ·exact .inr ⟨g,cap,cur,rfl,c,(hb g rfl).trans j,rest⟩
 ·refine .inr ⟨l,a,n,xs,⟨hown.1,?_⟩,f.mono u z,hm⟩;rcases hown.2 with m|⟨g,cap,cur,rfl,c,j,rest⟩
  ·exact .inl m
  ·exact .inr ⟨g,cap,cur,rfl,c,(hb g rfl).trans j,rest⟩
def lk:List (Nat×V)→Nat→V
 |[],_=> .any
 |(k,v)::r,t=>if k=t then v else lk r t
def lo:List (Nat×Option Ob)→Nat→Option Ob
 |[],_=>none
 |(k,v)::r,t=>if k=t then v else lo r t
structure St where
 env:List (Nat×V)
 yx:List (Nat×Option Ob)
 nx:Nat
 deriving Inhabited
def St.get(s:St)(t:Nat):V:=lk s.env t
def St.ob(s:St)(i:Nat):Option Ob:=lo s.yx i
def St.put(s:St)(d:Option Nat)(v:V):St:=match d with|some d=>{s with env:=(d,v)::s.env}|none=>s
inductive X where
 |t (n:Nat)
 |k (v:V)
 deriving Inhabited
def St.val(s:St):X→V
 | .t n=>s.get n
 | .k v=>v
def upd(ob:Nat→Option Ob)(up:List (Nat×Option Ob)):Nat→Option Ob:=fun i=>
 match up with
 |[]=>ob i
 |(k,v)::r=>if k=i then v else upd ob r i
structure Conc(w0:World)(H0:HS)(w:World)(H:Nat→Prop)(ov:Nat→Option Value)(N:Nat)(a:Act)(s:St):Prop where
 mem:Mem w0 H0 w H ov s.ob
 MJ:a.tmps.size=N
 I7:a.defers=[]
 kp:∀m v,(m,v)∈H0.kp→a.tmps.getD m undef=v
 env:∀t,Rep w H ov (a.tmps.getD t undef) (s.get t)
 new:∀id,s.nx≤id→ov id=none
end Go.Proofs.YtpopphdnlhihdaaGreatDoor.Ab
namespace Go.Proofs.YtpopphdnlhihdaaGreatDoor.Ab
open Go Go.RowKit
inductive NO where
 |i2f
 |f2i (k:IntKind)
 |mkz
 |re
 |im
 |zadd
 |zsub
 |zmul
 deriving Inhabited
inductive PO where
 |nm (q:NO)
 |eqs (neg:Bool) (ks:List Nat)
 |b2s
 |s2b (e:Nat)
 deriving Inhabited
def Ws:Nat→V→V→Option Bool
 |1,.i k a,.i k' b=>if k=k' then some (decide (a=b))else none
 |0,.b a,.b b=>some (a==b)
 |2,.s a,.s b=>some (a==b)
 |_,_,_=>none
def both:Option Bool→Option Bool→Option Bool
 |some a,some b=>some (a&&b)
 |_,_=>none
def Eg:List Nat→List V→List V→Option Bool
 |[],[],[]=>some true
 |k::ks,x::r,y::q=>both (Ws k x y) (Eg ks r q)
 |_,_,_=>none
def Bt(l:List UInt8):List V:=l.map fun c=> .i .u8 (c.toNat:Int)
def bytesOf:List V→Option (List UInt8)
 |[]=>some []
 | .i .u8 n::r=>match bytesOf r with|some l=>if 0≤n∧n<256 then some (UInt8.ofNat n.toNat::l)else none|none=>none
 |_=>none
def big:Nat:=9007199254740992
def i2fV:List V→Option V
 |[.i _ n]=>if n.natAbs<big then some (.f n)else none
 |_=>none
def f2iV(k:IntKind):List V→Option V
 |[.f n]=>if k.min≤n∧n≤k.max then some (.i k n)else none
 |_=>none
def mkzV:List V→Option V
 |[.f a,.f b]=>some (.z a b)
 |_=>none
def reV:List V→Option V
 |[.z a _]=>some (.f a)
 |_=>none
def imV:List V→Option V
 |[.z _ b]=>some (.f b)
 |_=>none
def zaddV:List V→Option V
 |[.z a b,.z c d]=>if(a+c).natAbs<big∧(b+d).natAbs<big then some (.z (a+c) (b+d))else none
 |_=>none
def zsubV:List V→Option V
 |[.z a b,.z c d]=>if(a-c).natAbs<big∧(b-d).natAbs<big then some (.z (a-c) (b-d))else none
 |_=>none
def zmulV:List V→Option V
 |[.z a b,.z c d]=>if(a*c).natAbs+(b*d).natAbs<big∧(a*d).natAbs+(b*c).natAbs<big then some (.z (a*c-b*d) (a*d+b*c))else none
 |_=>none
def nmV:NO→List V→Option V
 | .i2f=>i2fV
 | .f2i k=>f2iV k
 | .mkz=>mkzV
 | .re=>reV
 | .im=>imV
 | .zadd=>zaddV
 | .zsub=>zsubV
 | .zmul=>zmulV
def qZ:PO→List V→Option V
 | .nm q,vs=>nmV q vs
 | .eqs neg ks,[.g xs,.g ys]=>(Eg ks xs ys).map fun t=> .b (if neg then !t else t)
 | .b2s,[.l z cs]=>if z=1 then(bytesOf cs).map .s else none
 | .s2b _,[.s l]=>if l.length≤9223372036854775807 then some (.l 1 (Bt l))else none
 |_,_=>none
inductive aK where
 |mv (x:X)
 |pick (c a b:X)
 |bin (op:BinOp) (x y:X)
 |Wu (neg:Bool) (x y:X)
 |un (op:UnOp) (x:X)
 |MK (k:IntKind) (x:X)
 |six (x i:X)
 |idx (sz:Nat) (x i:X)
 |ld (ag:Bool) (n:Nat) (p:X)
 |st (n:Nat) (p x:X)
 |stk (p x:X)
 |FK (off:Nat) (p:X)
 |Wx (ag:Bool) (off n:Nat) (x:X)
 |RJ (zero:List V) (ps:List (Nat×Nat×X))
 |RN (e sz n:Nat) (zero:List V) (ps:List (Nat×X))
 |mk (e sz bytes:Nat) (zero:List V) (l c:X)
 |sub (sz:Nat) (x:X) (lo hi:Option X)
 |len (x:X)
 |app (e sz bytes:Nat) (s x:X)
 |al (e:Nat) (zero:List V)
 |ext (x:X) (ix:Nat)
 |call (f:Nat) (args:List (Nat×X))
 |zC (f:Nat) (args:List X)
 |nc (x:X)
 |mm (mx:Bool) (x y:X)
 |RP (neg:Bool) (x:X)
 |bx (e:Nat) (x:X)
 |Uf (p:PO) (xs:List X)
 |Ug (sz:Nat) (x y:X)
 |Uh (n sz:Nat) (x i:X)
 |RQ (n sz:Nat) (x:X) (lo hi:Option X)
 |xN (f m:Nat) (args:List (Nat×X))
 |bad
 deriving Inhabited
def chk(p q:Prop):Prop:=p∧q
variable{p q:Prop}
theorem chk_of(h:p):chk p q=q:=by simp[chk,h]
def cnd(v:V)(p q:Prop):Prop:=match v with| .b t=>(t=true→p)∧(t=false→q)|_=>False
theorem Df:cnd (.b true) p q=p:=by simp[cnd]
theorem Ar:cnd (.b false) p q=q:=by simp[cnd]
theorem zD{t:Bool}(h:t=true→p)(k:t=false→q):cnd (.b t) p q:=⟨h,k⟩
def bi(op:BinOp)(k:IntKind)(a:Int)(k':IntKind)(b:Int)(K:V→Prop):Prop:=
 match op with
 | .add=>chk (k=k') (K (.i k (k.wrap (a+b))))
 | .sub=>chk (k=k') (K (.i k (k.wrap (a-b))))
 | .mul=>chk (k=k') (K (.i k (k.wrap (a*b))))
 | .quo=>chk (k=k'∧b≠0) (K (.i k (k.wrap (a.tdiv b))))
 | .rem=>chk (k=k'∧b≠0) (K (.i k (a.tmod b)))
 | .and=>chk (k=k') (K (.i k (bits .and k a b)))
 | .or=>chk (k=k') (K (.i k (bits .or k a b)))
 | .xor=>chk (k=k') (K (.i k (bits .xor k a b)))
 | .andNot=>chk (k=k') (K (.i k (bits .andNot k a b)))
 | .shl=>chk (0≤b) (K (.i k (k.wrap (a*2^(min b.toNat k.bits)))))
 | .shr=>chk (0≤b) (K (.i k (a.fdiv (2^(min b.toNat k.bits)))))
 | .eql=>chk (k=k') (K (.b (decide (a=b))))
 | .neq=>chk (k=k') (K (.b (decide (¬a=b))))
 | .lss=>chk (k=k') (K (.b (decide (a<b))))
 | .leq=>chk (k=k') (K (.b (decide (a≤b))))
 | .gtr=>chk (k=k') (K (.b (decide (b<a))))
 | .geq=>chk (k=k') (K (.b (decide (b≤a))))
def bs(op:BinOp)(a b:List UInt8)(K:V→Prop):Prop:=
 match op with
 | .add=>chk (a.length+b.length≤9223372036854775807) (K (.s (a++b)))
 | .eql=>K (.b (a==b))
 | .neq=>K (.b (!(a==b)))
 |_=>False
def rd(ob:Nat→Option Ob)(sz:Nat):V→V
 | .ow _ id _=>match ob id with|some o=>if o.pg then .any else .l o.sz o.cs|none=> .any
 | .sl _ id off n=>match ob id with|some o=>if o.pg then .any else .l o.sz ((o.cs.drop off).take (n*o.sz))|none=> .any
 | .nl=> .l sz []
 |v=>v
def FM:V→V
 | .kn _ (.l s cs)=> .l s cs
 |v=>v
theorem unk_eq(v:V):FM v=v∨∃s cs,FM v= .l s cs:=by
 unfold FM;split
 ·exact .inr ⟨_,_,rfl⟩
 ·exact .inl rfl
def VV(n:Bool)(ob:Nat→Option Ob)(sz:Nat)(v:V):V:=match n,v with|true,.nl=> .nl|_,v=>rd ob sz v
def Dh:V→V
 | .ow sz i n=> .sl sz i 0 n
 |v=>v
def okR(ob:Nat→Option Ob):V→Prop
 | .sl _ id off n=>match ob id with|some o=>off+n*o.sz≤o.cs.length|none=>False
 |_=>True
def qN(ob:Nat→Option Ob):List V→Prop
 |[]=>True
 |v::r=>okR ob v∧qN ob r
def jA(ob:Nat→Option Ob):V→List (Nat×Option Ob)
 | .ow _ id _| .sl _ id _ _=>match ob id with|some o=>[(id,some {o with mu:=false})]|none=>[]
 |_=>[]
def V.aP:V→Bool
 | .i _ _| .b _| .s _| .l _ _| .g _| .ip _ _| .c _| .kn _ _| .f _| .z _ _| .fc _ _=>true
 |_=>false
def V.cells:V→List V
 | .g cs=>cs
 |v=>[v]
def setAt{α:Type}(cs:List α)(k:Nat):List α→List α
 |[]=>cs
 |v::r=>setAt (cs.set k v) (k+1) r
def oU(cs:List V):List (Nat×List V)→List V
 |[]=>cs
 |(k,vs)::r=>oU (setAt cs k vs) r
def fitAll(n:Nat):List (Nat×List V)→Bool
 |[]=>true
 |(k,vs)::r=>decide (k+vs.length≤n)&&vs.all V.cell&&fitAll n r
section
variable (F G:Nat→List V→V→Prop)
def ev(ρ:X→V)(ob:Nat→Option Ob)(id:Nat)(K:V→List (Nat×Option Ob)→Prop):aK→Prop
 | .mv x=>K (ρ x) []
 | .pick c a b=>cnd (ρ c) (K (ρ a) []) (K (ρ b) [])
 | .bin op x y=>match ρ x,ρ y with
   | .i k a,.i k' b=>bi op k a k' b fun v=>K v []
   | .s a,.s b=>bs op a b fun v=>K v []
   |_,_=>False
 | .Wu neg x y=>match ρ x,ρ y with
   | .b a,.b c=>K (.b (if neg then !(a==c)else a==c)) []
   |_,_=>False
 | .un op x=>match op,ρ x with
   | .not,.b t=>K (.b !t) []
   | .neg,.i k n=>K (.i k (k.wrap (0-n))) []
   | .neg,.f n=>K (.f (-n)) []
   | .xor,.i k n=>K (.i k (bits .xor k (if k.signed then-1 else k.max) n)) []
   |_,_=>False
 | .MK k x=>match ρ x with
   | .i _ n=>K (.i k (k.wrap n)) []
   |_=>False
 | .six x i=>match ρ x,ρ i with
   | .s l,.i _ n=>chk (0≤n∧n<l.length) (K (.i .u8 (l.getD n.toNat 0).toNat) [])
   |_,_=>False
 | .idx sz x i=>match ρ x,ρ i with
   | .l s cs,.i _ n=>chk (s=sz∧0≤n∧n.toNat*sz<cs.length) (K (.ip cs (n.toNat*sz)) [])
   | .ow s j m,.i _ n=>chk (s=sz∧0≤n∧n<m) (K (.pt j (n.toNat*sz)) [])
   | .sl s j off m,.i _ n=>chk (s=sz∧0≤n∧n<m) (K (.pt j (off+n.toNat*sz)) [])
   |_,_=>False
 | .ld ag n p=>match ρ p with
   | .ip cs k=>if ag then chk (k+n≤cs.length) (K (.g ((cs.drop k).take n)) [])else chk (k<cs.length) (K (cs.getD k .un) [])
   | .pt j k=>match ob j with
     |some o=>if ag then chk (k+n≤o.cs.length∧CU o=false) (K (.g ((o.cs.drop k).take n)) [])else chk (k<o.cs.length) (K (o.cs.getD k .un) [])
     |none=>False
   |_=>False
 | .st n p x=>match ρ p with
   | .pt j k=>match ob j with
     |some o=>chk (okR ob (ρ x)∧o.mu=true∧(jA ob (ρ x)).all (fun q=>q.1 != j)=true∧(rd ob 1 (ρ x)).cells.length=n∧k+n≤o.cs.length∧(rd ob 1 (ρ x)).cells.all V.cell=true)
       (K .un ((j,some {o with cs:=setAt o.cs k (rd ob 1 (ρ x)).cells})::jA ob (ρ x)))
     |none=>False
   |_=>False
 | .stk p x=>match ρ p with
   | .pt j k=>match ob j with
     |some o=>chk (CU o=true∧isRef (ρ x)=true∧o.mu=true∧k+1≤o.cs.length) (K .un [(j,some {o with cs:=setAt o.cs k [ρ x]})])
     |none=>False
   |_=>False
 | .FK off p=>match ρ p with
   | .pt j k=>K (.pt j (k+off)) []
   | .ip cs k=>K (.ip cs (k+off)) []
   |_=>False
 | .Wx ag off n x=>match ρ x with
   | .g cs=>if ag then chk (off+n≤cs.length) (K (.g ((cs.drop off).take n)) [])else chk (off<cs.length) (K (cs.getD off .un) [])
   |_=>False
 | .RJ zero ps=>
   chk (qN ob (ps.map fun p=>ρ p.2.2)∧fitAll zero.length (ps.map fun p=>(p.1,(rd ob 1 (ρ p.2.2)).cells))=true∧(ps.all fun p=>(rd ob 1 (ρ p.2.2)).cells.length==p.2.1)=true)
    (K (.g (oU zero (ps.map fun p=>(p.1,(rd ob 1 (ρ p.2.2)).cells)))) (ps.flatMap fun p=>jA ob (ρ p.2.2)))
 | .RN e sz n zero ps=>
   chk (qN ob (ps.map fun p=>ρ p.2)∧fitAll zero.length (ps.map fun p=>(p.1*sz,(rd ob 1 (ρ p.2)).cells))=true∧(ps.all fun p=>(rd ob 1 (ρ p.2)).cells.length==sz)=true)
    (K (.ow sz id n) ((id,some {e,sz,cs:=oU zero (ps.map fun p=>(p.1*sz,(rd ob 1 (ρ p.2)).cells)),mu:=true,pg:=false})::ps.flatMap fun p=>jA ob (ρ p.2)))
 | .mk e sz bytes zero l c=>match ρ l,ρ c with
   | .i _ a,.i _ b=>chk (0≤a∧a≤b∧b*bytes≤281474976710656∧b≤1099511627776)
      (K (.ow sz id a.toNat) [(id,some {e,sz,cs:=(List.replicate a.toNat zero).flatten,mu:=true,pg:=false})])
   |_,_=>False
 | .sub sz x lo hi=>match ρ x with
   | .l s cs=>
     match lo.map ρ,hi.map ρ with
     |none,none=>chk (s=sz) (K (.l s cs) [])
     |some (.i _ a),none=>chk (s=sz∧0≤a∧a.toNat*sz≤cs.length) (K (.l s (cs.drop (a.toNat*sz))) [])
     |none,some (.i _ b)=>chk (s=sz∧0≤b∧b.toNat*sz≤cs.length) (K (.l s (cs.take (b.toNat*sz))) [])
     |some (.i _ a),some (.i _ b)=>chk (s=sz∧0≤a∧a≤b∧b.toNat*sz≤cs.length) (K (.l s ((cs.take (b.toNat*sz)).drop (a.toNat*sz))) [])
     |_,_=>False
   | .ow s j m=>
     match lo.map ρ,hi.map ρ with
     |none,none=>chk (s=sz) (K (.ow s j m) [])
     |some (.i _ a),none=>chk (s=sz∧0≤a∧a≤m) (K (.sl s j (a.toNat*sz) (m-a.toNat)) [])
     |none,some (.i _ b)=>chk (s=sz∧0≤b∧b≤m) (K (.sl s j 0 b.toNat) [])
     |some (.i _ a),some (.i _ b)=>chk (s=sz∧0≤a∧a≤b∧b≤m) (K (.sl s j (a.toNat*sz) (b.toNat-a.toNat)) [])
     |_,_=>False
   | .sl s j off m=>
     match lo.map ρ,hi.map ρ with
     |none,none=>chk (s=sz) (K (.sl s j off m) [])
     |some (.i _ a),none=>chk (s=sz∧0≤a∧a≤m) (K (.sl s j (off+a.toNat*sz) (m-a.toNat)) [])
     |none,some (.i _ b)=>chk (s=sz∧0≤b∧b≤m) (K (.sl s j off b.toNat) [])
     |some (.i _ a),some (.i _ b)=>chk (s=sz∧0≤a∧a≤b∧b≤m) (K (.sl s j (off+a.toNat*sz) (b.toNat-a.toNat)) [])
     |_,_=>False
   | .nl=>
     match lo.map ρ,hi.map ρ with
     |none,none=>K .nl []
     |some (.i _ a),none=>chk (a=0) (K .nl [])
     |none,some (.i _ b)=>chk (b=0) (K .nl [])
     |some (.i _ a),some (.i _ b)=>chk (a=0∧b=0) (K .nl [])
     |_,_=>False
   | .kn (.slice ba n c) (.l s cs)=>
     match lo.map ρ,hi.map ρ with
     |none,some (.i _ b)=>chk (s=sz∧0≤b∧b≤n∧0<c∧(∃g,ba=some ⟨g,0,none⟩)) (K (.kn (.slice ba b.toNat c) (.l s (cs.take (b.toNat*sz)))) [])
     |_,_=>False
   |_=>False
 | .len x=>match ρ x with
   | .l s cs=>K (.i .i64 ((cs.length/s:Nat):Int)) []
   | .ow _ _ m=>K (.i .i64 m) []
   | .sl _ _ _ m=>K (.i .i64 m) []
   | .nl=>K (.i .i64 0) []
   |_=>False
 | .app e sz bytes s x=>
   match ρ s,rd ob sz (FM (ρ x))with
   | .nl,.l s' xs=>chk (okR ob (FM (ρ x))∧s'=sz∧xs.all V.cell=true∧xs.length/sz*bytes≤70368744177664∧xs.length/sz≤1099511627776)
      (K (.ow sz id (xs.length/sz)) ((id,some {e,sz,cs:=xs,mu:=true,pg:=false})::[]))
   | .ow s1 j m,.l s' xs=>match ob j with
     |some o=>chk (okR ob (FM (ρ x))∧s1=sz∧s'=sz∧o.e=e∧o.sz=sz∧o.mu=true∧o.pg=false∧xs.all V.cell=true∧(m+xs.length/sz)*bytes≤70368744177664∧m+xs.length/sz≤1099511627776)
       (K (.ow sz id (m+xs.length/sz)) [(j,none),(id,some {o with cs:=o.cs++xs})])
     |none=>False
   |_,_=>False
 | .al e zero=>K (.pt id 0) [(id,some {e,sz:=zero.length,cs:=zero,mu:=true,pg:=true})]
 | .ext x ix=>match ρ x with
   | .t vs=>chk (ix<vs.length) (K (vs.getD ix .un) [])
   | .tw sz j n rs=>match ix with
     |0=>K (.ow sz j n) []
     |ix+1=>chk (ix<rs.length) (K (rs.getD ix .un) [])
   |_=>False
 | .call f args=>
   chk (qN ob (args.map fun p=>ρ p.2)∧(args.all fun p=>(rd ob p.1 (ρ p.2)).aP)=true)<|
   ∃n r,F f (args.map fun p=>VV n ob p.1 (ρ p.2)) r∧
    match r with
    | .o e sz cs=>chk (0<sz) (K (.ow sz id (cs.length/sz)) ((id,some {e,sz,cs,mu:=true,pg:=false})::if r.nX then args.flatMap fun p=>jA ob (ρ p.2)else[]))
    | .fr r=>K r []
    | .to e sz cs rs=>K (.tw sz id (cs.length/sz) rs) ((id,some {e,sz,cs,mu:=true,pg:=false})::if(V.o e sz cs).nX||(V.t rs).nX then args.flatMap fun p=>jA ob (ρ p.2)else[])
    | .mu _ _=>False
    |r=>K r (if r.nX then args.flatMap fun p=>jA ob (ρ p.2)else[])
 | .zC f args=>∃r,G f (args.map ρ) r∧K r []
 | .nc x=>match ρ x with
   | .pt j k=>K (.pt j k) []
   | .ip cs k=>K (.ip cs k) []
   |_=>False
 | .mm mx x y=>match ρ x,ρ y with
   | .i k a,.i k' b=>chk (k=k') (K (.i k (if mx then max a b else min a b)) [])
   |_,_=>False
 | .RP neg x=>match ρ x with
   | .nl=>K (.b (!neg)) []
   | .l _ cs=>∀t:Bool,(t=true→cs=[])→K (.b (t != neg)) []
   | .ow _ _ n=>∀t:Bool,(t=true→n=0)→K (.b (t != neg)) []
   |_=>False
 | .bx e x=>chk (okR ob (ρ x)∧(rd ob 1 (ρ x)).cells.all V.cell=true)
    (K (.pt id 0) ((id,some {e,sz:=(rd ob 1 (ρ x)).cells.length,cs:=(rd ob 1 (ρ x)).cells,mu:=true,pg:=true})::jA ob (ρ x)))
 | .Ug sz x y=>match Dh (ρ x),rd ob sz (ρ y)with
   | .sl s1 j off m,.l s' xs=>match ob j with
     |some o=>chk (okR ob (ρ y)∧s1=sz∧s'=sz∧o.mu=true∧off+m*sz≤o.cs.length∧xs.all V.cell=true)
       (K (.i .i64 ((min (xs.length/sz) m:Nat):Int)) [(j,some {o with cs:=setAt o.cs off (xs.take (m*sz))})])
     |none=>False
   |_,_=>False
 | .Uh n sz x i=>match ρ x,ρ i with
   | .ip cs k,.i _ m=>chk (0≤m∧m<n) (K (.ip cs (k+m.toNat*sz)) [])
   | .pt j k,.i _ m=>chk (0≤m∧m<n) (K (.pt j (k+m.toNat*sz)) [])
   |_,_=>False
 | .RQ n sz x lo hi=>match ρ x with
   | .ip cs k=>match lo.map ρ,hi.map ρ with
     |none,none=>chk (k=0∧cs.length=n*sz) (K (.l sz cs) [])
     |some (.i _ a),none=>chk (k=0∧cs.length=n*sz∧0≤a∧a≤n) (K (.l sz (cs.drop (a.toNat*sz))) [])
     |none,some (.i _ b)=>chk (k=0∧cs.length=n*sz∧0≤b∧b≤n) (K (.l sz (cs.take (b.toNat*sz))) [])
     |some (.i _ a),some (.i _ b)=>chk (k=0∧cs.length=n*sz∧0≤a∧a≤b∧b≤n) (K (.l sz ((cs.take (b.toNat*sz)).drop (a.toNat*sz))) [])
     |_,_=>False
   |_=>False
 | .xN f m args=>match (args[m]?).map fun p=>ρ p.2 with
   |some (.ow z j n)=>match ob j with
    |some o=>
     chk (qN ob (args.map fun p=>ρ p.2)∧(args.all fun p=>(rd ob p.1 (ρ p.2)).aP)=true∧o.mu=true∧o.pg=false∧((args.eraseIdx m).all fun p=>(jA ob (ρ p.2)).all fun q=>q.1 != j)=true)<|
     ∃r cs',F f ((args.map fun p=>rd ob p.1 (ρ p.2)).set m (.o o.e o.sz o.cs)) (.mu r cs')∧r.nX=false∧K r ((j,some {o with cs:=cs'})::(args.eraseIdx m).flatMap fun p=>jA ob (ρ p.2))
    |none=>False
   |_=>False
 | .bad=>False
 | .Uf p xs=>chk (qN ob (xs.map ρ)) (match qZ p (xs.map fun x=>rd ob 1 (ρ x))with|some v=>K v []|none=>False)
end
end Go.Proofs.YtpopphdnlhihdaaGreatDoor.Ab
namespace Go.Proofs.YtpopphdnlhihdaaGreatDoor.Ab
open Go Go.RowKit
def cS:Value→V
 | .int k n=> .i k n
 | .bool b=> .b b
 | .string s=> .s s.data.toList
 | .slice none 0 0=> .l 1 []
 | .float .f64 0=> .f 0
 | .float .f64 4607182418800017408=> .f 1
 | .complex .f64 0 0=> .z 0 0
 | .complex .f64 4607182418800017408 0=> .z 1 0
 | .complex .f64 0 4607182418800017408=> .z 0 1
 |v=> .c v
def cV:Value→V
 | .slice none 0 0=> .nl
 | .agg cs=> .g (cs.toList.map cS)
 |v=>cS v
def cX:Operand→Option X
 | .tmp t=>some (.t t)
 | .const v=>some (.k (cV v))
 | .func f=>some (.k (.c (.func (.func f) #[] #[])))
 | .global g=>some (.k (match tabs g with|some cs=> .ip cs 0|none=> .any))
def Eh(P:Program)(t:TypeId):Option (Nat×Nat×List V):=
 match P.info? t with
 |some i=>match i.zero with
  |some z=>if z.cells.size=i.size∧0<i.size∧(z.cells.toList.map cS).all V.cell=true then some (i.size,i.bytes,z.cells.toList.map cS)else none
  |none=>none
 |none=>none
def lN(P:Program)(t:TypeId):Bool:=
 match P.underlying t with
 |some (.struct _)|some (.array _ _)=>true
 |_=>false
def ML(P:Program)(t:TypeId):Option TypeId:=
 match P.underlying t with
 |some (.slice e)=>some e
 |_=>none
def cX? :Option Operand→Option (Option X)
 |none=>some none
 |some x=>(cX x).map some
def cXs:List Operand→Option (List X)
 |[]=>some []
 |x::r=>match cX x,cXs r with
  |some x,some r=>some (x::r)
  |_,_=>none
def Di(P:Program):List (Operand×TypeId)→Option (List (Nat×X))
 |[]=>some []
 |(x,t)::r=>match cX x,Di P r with
  |some x,some r=>
   (match ML P t with
     |some e=>(match Eh P e with|some (sz,_,_)=>some ((sz,x)::r)|none=>none)
     |none=>some ((1,x)::r))
  |_,_=>none
def Ei(P:Program)(fields:Array Field):List (Nat×Operand)→Option (List (Nat×Nat×X))
 |[]=>some []
 |(i,x)::r=>match cX x,Ei P fields r,fields[i]? with
  |some x,some r,some f=>(match P.info? f.type with|some ti=>some ((f.offset,ti.size,x)::r)|none=>none)
  |_,_,_=>none
def Au:List (Nat×Operand)→Option (List (Nat×X))
 |[]=>some []
 |(i,x)::r=>match cX x,Au r with
  |some x,some r=>some ((i,x)::r)
  |_,_=>none
def mutf:Nat→Option Nat:=fun f=>if f=179 then some 0 else none
def aU(f:Nat):Bool:=if f=102 then true else if f=58 then true else false
def Wy(P:Program)(c:Call):Option aK:=
 match c.callee with
 | .builtin .len=>match c.args.toList,c.argTypes.toList with
   |[x],[t]=>(match P.underlying t,cX x with|some (.slice _),some x=>some (.len x)|_,_=>none)
   |_,_=>none
 | .builtin .append=>match c.args.toList,c.argTypes.toList with
   |[s,x],[t,t']=>if t=t' then(match ML P t,cX s,cX x with
    |some e,some s,some x=>(match Eh P e with|some (sz,MM,_)=>some (.app e sz MM s x)|none=>none)
    |_,_,_=>none)else none
   |_,_=>none
 | .builtin .max=>match c.args.toList with
   |[x,y]=>(match cX x,cX y with|some x,some y=>some (.mm true x y)|_,_=>none)
   |_=>none
 | .builtin .min=>match c.args.toList with
   |[x,y]=>(match cX x,cX y with|some x,some y=>some (.mm false x y)|_,_=>none)
   |_=>none
 | .builtin .copy=>match c.args.toList,c.argTypes.toList with
   |[x,y],[t,t']=>(match ML P t,cX x,cX y with
    |some e,some x,some y=>(match P.info? e with|some ti=>if 0<ti.size then some (.Ug ti.size x y)else none|none=>none)
    |_,_,_=>none)
   |_,_=>none
 | .value (.func f)=>match P.funcs[f]? with
   |some fn=>if fn.name== "runtime.NumGoroutine" then none else if fn.body.isSome then
     (if c.args.size=c.argTypes.size then(match Di P (c.args.toList.zip c.argTypes.toList)with|some xs=>(match mutf f with|some m=>some (.xN f m xs)|none=>some (.call f xs))|none=>none)else none)
    else(match cXs c.args.toList with|some xs=>some (.zC f xs)|none=>none)
   |none=>none
 |_=>none
def kindOf(P:Program)(t:TypeId):Option Nat:=
 match P.underlying t with
 |some .bool=>some 0
 |some (.int _)=>some 1
 |some .string=>some 2
 |_=>none
def MN(P:Program):Nat→List Field→Option (List Nat)
 |_,[]=>some []
 |k,f::r=>match kindOf P f.type,MN P (k+1) r with
  |some n,some l=>if f.name != "_" &&f.offset==k then some (n::l)else none
  |_,_=>none
def flatS(P:Program)(t:TypeId):Option (List Nat):=
 match P.underlying t with
 |some (.struct fs)=>if !P.stoodInHeld t&&!P.eqGuardType P.depth t then MN P 0 fs.toList else none
 |_=>none
def keepX(p:X):Bool:=keepN (match p with| .t n=>n| .k _=>0)
def cOp(P:Program):Op→Option aK
 | .move x| .assign x=>(cX x).map .mv
 | .pick c a b=>match cX c,cX a,cX b with|some c,some a,some b=>some (.pick c a b)|_,_,_=>none
 | .binOp op t x y _=>match cX x,cX y,P.underlying t with
   |some x,some y,some (.int _)=>some (.bin op x y)
   |some x,some y,some .string=>some (.bin op x y)
   |some x,some y,some .bool=>(match op with| .eql=>some (.Wu false x y)| .neq=>some (.Wu true x y)|_=>none)
   |some x,some (.k .nl),some (.slice _)=>(match op with| .eql=>some (.RP false x)| .neq=>some (.RP true x)|_=>none)
   |_,_,_=>none
 | .unOp op _ x=>(cX x).map (.un op)
 | .convert s d x=>match P.underlying s,P.underlying d,cX x with
   |some (.int _),some (.int k),some x=>some (.MK k x)
   |some (.slice e),some .string,some x=>(match P.underlying e with|some (.int .u8)=>some (.Uf .b2s [x])|_=>none)
   |_,_,_=>none
 | .index t x i=>match P.underlying t,cX x,cX i with
   |some .string,some x,some i=>some (.six x i)
   |_,_,_=>none
 | .indexAddr t x i=>match ML P t,cX x,cX i with
   |some e,some x,some i=>(match P.info? e with|some ti=>if 0<ti.size then some (.idx ti.size x i)else none|none=>none)
   |none,some x,some i=>(match P.underlying t with
    |some (.array n e)=>(match P.info? e with|some ti=>if 0<ti.size then some (.Uh n ti.size x i)else none|none=>none)
    |_=>none)
   |_,_,_=>none
 | .load t p=>match cX p,P.info? t,P.underlying t with
   |some p,some ti,some _=>some (.ld (lN P t) ti.size p)
   |_,_,_=>none
 | .store t p x=>match cX p,cX x,P.info? t with
   |some p,some x,some ti=>if keepT t&&keepX p&&ti.size==1 then some (.stk p x)else some (.st ti.size p x)
   |_,_,_=>none
 | .fieldAddr t p f=>match P.underlying t,cX p with
   |some (.struct fs),some p=>(match fs[f]? with
    |some fd=>(match P.info? fd.type with|some ti=>if 0<ti.size then some (.FK fd.offset p)else none|none=>none)
    |none=>none)
   |_,_=>none
 | .field t x f=>match P.underlying t,cX x with
   |some (.struct fs),some x=>(match fs[f]? with
    |some fd=>(match P.info? fd.type,P.underlying fd.type with|some ti,some _=>some (.Wx (lN P fd.type) fd.offset ti.size x)|_,_=>none)
    |none=>none)
   |_,_=>none
 | .build t ps=>match P.underlying t,Eh P t with
   |some (.struct fs),some (_,_,z)=>if(fs.toList.mapM (fun f=>(P.info? f.type).map fun i=>(f.offset,i.size))).isSome then(match Ei P fs ps.toList with|some ps=>some (.RJ z ps)|none=>none)else none
   |_,_=>none
 | .buildSlice t n ps=>match ML P t with
   |some e=>(match Eh P e,Au ps.toList with
    |some (sz,_,z),some ps=>if n*sz≤65536 then some (.RN e sz n ((List.replicate n z).flatten) ps)else none
    |_,_=>none)
   |none=>none
 | .makeSlice t l c=>match ML P t,cX l,cX c with
   |some e,some l,some c=>(match Eh P e with|some (sz,MM,z)=>some (.mk e sz MM z l c)|none=>none)
   |_,_,_=>none
 | .slice t x lo hi none=>match P.underlying t,cX x,cX? lo,cX? hi with
   |some (.slice e),some x,some lo,some hi=>(match P.info? e with|some ti=>if 0<ti.size then some (.sub ti.size x lo hi)else none|none=>none)
   |some (.array n e),some x,some lo,some hi=>(match P.info? e with|some ti=>if 0<ti.size∧n≤1099511627776 then some (.RQ n ti.size x lo hi)else none|none=>none)
   |_,_,_,_=>none
 | .alloc t=>match Eh P t with|some (_,_,z)=>some (.al t z)|none=>none
 | .extract x i=>(cX x).map (.ext · i)
 | .box e x=>(cX x).map (.bx e)
 | .nilCheck x=>(cX x).map .nc
 | .call c=>Wy P c
 |_=>none
def WA(P:Program)(o:Op):Option aK:=some ((cOp P o).getD .bad)
section inv
variable {w:World} {H:Nat→Prop} {ov:Nat→Option Value} {v:Value}
theorem Rep.dU{k:IntKind}{n:Int}(h:Rep w H ov v (.i k n)):v= .int k n:=by cases h with|base h=>cases h;rfl
theorem Rep.qH{x:Bool}(h:Rep w H ov v (.b x)):v= .bool x:=by cases h with|base h=>cases h;rfl
theorem Rep.BB{l:List UInt8}(h:Rep w H ov v (.s l)):v= .string ⟨l.toArray⟩:=by cases h with|base h=>cases h;rfl
theorem Rep.inv_f{n:Int}(h:Rep w H ov v (.f n)):∃q,v= .float .f64 q∧FI q n:=by cases h with|base h=>cases h with|f q n h=>exact⟨q,rfl,h⟩
variable{x:V}{sz id off:Nat}
theorem Rep.FM(h:Rep w H ov v x):Rep w H ov v (Ab.FM x):=by
 unfold Ab.FM;split
 ·cases h with|base h=>cases h with|kn v x h=>exact .base h
 ·exact h
theorem Rep.inv_kn{u:Value}(h:Rep w H ov v (.kn u x)):v=u∧Rep0 w H u x:=by cases h with|base h=>cases h with|kn v x h=>exact⟨rfl,h⟩
theorem Rep.rq(h:Rep w H ov v .nl):v= .slice none 0 0:=by cases h with|base h=>cases h;rfl
theorem Rep.WB(h:Rep w H ov v .un):v=undef:=by cases h with|base h=>cases h;rfl
theorem Rep.GR{cs:List V}(h:Rep w H ov v (.g cs)):∃vs:List Value,v= .agg vs.toArray∧aB w H vs cs:=by
 cases h with|base h=>cases h with|g vs cs c a=>exact⟨vs,rfl,c,a⟩
theorem Rep.RU{cs:List V}(h:Rep w H ov v (.t cs)):∃vs:List Value,v= .tuple vs.toArray∧aB w H vs cs:=by
 cases h with|base h=>cases h with|t vs cs c a=>exact⟨vs,rfl,c,a⟩
theorem Rep0.vV{cs:List V}(h:Rep0 w H v (.l sz cs)):∃a n cap,∃(f:Nat→Value) (b o:Nat),v= .slice a n cap∧0<sz∧cs.length=n*sz∧n≤maxLen∧n≤cap∧(cs=[]∨(a=some ⟨b,o,none⟩∧H b))∧
 (∀j,j<cs.length→w.cell? ⟨b,o+j,none⟩=some (f j))∧(∀(j:Nat) (x:V),cs[j]? =some x→Rep0 w H (f j) x):=by
 cases h with|l a n cap sz cs f b o c u hm g z y m=>exact⟨a,n,cap,f,b,o,rfl,c,u,hm,g,z,y,m⟩
theorem Rep.vV{cs:List V}(h:Rep w H ov v (.l sz cs)):∃a n cap,∃(f:Nat→Value) (b o:Nat),v= .slice a n cap∧0<sz∧cs.length=n*sz∧n≤maxLen∧n≤cap∧(cs=[]∨(a=some ⟨b,o,none⟩∧H b))∧
 (∀j,j<cs.length→w.cell? ⟨b,o+j,none⟩=some (f j))∧(∀(j:Nat) (x:V),cs[j]? =some x→Rep0 w H (f j) x):=(h.down rfl).vV
theorem Rep.GU{cs:List V}{k:Nat}(h:Rep w H ov v (.ip cs k)):∃(f:Nat→Value) (b o:Nat),v= .pointer (some ⟨b,o+k,none⟩)∧H b∧(∀j,j<cs.length→w.cell? ⟨b,o+j,none⟩=some (f j))∧
 (∀(j:Nat) (x:V),cs[j]? =some x→Rep0 w H (f j) x):=by
 cases h with|base h=>cases h with|ip cs k f b o hb c a=>exact⟨f,b,o,rfl,hb,c,a⟩
theorem Rep.jK{n:Nat}(h:Rep w H ov v (.ow sz id n)):∃a cap,v= .slice a n cap∧ov id=some v∧n≤maxLen∧n≤cap∧(n=0∨∃b,a=some ⟨b,0,none⟩):=by
 cases h with|base h=>cases h|ow sz id n cap a hm c g f=>exact⟨a,cap,rfl,f,hm,c,g⟩
theorem Rep.J9{n:Nat}{rs:List V}(h:Rep w H ov v (.tw sz id n rs)):∃a cap vs,v= .tuple (.slice a n cap::vs).toArray∧ov id=some (.slice a n cap)∧n≤maxLen∧n≤cap∧(n=0∨∃b,a=some ⟨b,0,none⟩)∧aB w H vs rs:=by
 cases h with|base h=>cases h|tw sz id n cap a vs rs hm c j g f=>exact⟨a,cap,vs,rfl,g,hm,c,j,f⟩
theorem Rep.sN{n:Nat}(h:Rep w H ov v (.sl sz id off n)):∃a cap u,v= .slice a n cap∧n≤maxLen∧n≤cap∧ov id=some u∧(n=0∨∃b,blk u=some b∧a=some ⟨b,off,none⟩):=by
 cases h with|base h=>cases h|sl a sz id off n cap u hm c f g hz=>exact⟨a,cap,u,rfl,hm,c,f,g⟩
theorem Rep.RX{n:Nat}(c:0<sz)(h:Rep w H ov v (.sl sz id 0 n)):∃a cap m,v= .slice a n cap∧n≤maxLen∧n≤cap∧ov id=some (.slice a m cap):=by
 cases h with|base h=>cases h|sl a sz id off n cap u hm f g j hz=>obtain⟨m,rfl⟩:=hz rfl c;exact⟨a,cap,m,rfl,hm,f,g⟩
theorem Rep.uD(h:Rep w H ov v (.pt id off)):∃b u,v= .pointer (some ⟨b,off,none⟩)∧ov id=some u∧blk u=some b:=by
 cases h with|base h=>cases h|pt id off b u a hb=>exact⟨b,u,rfl,a,hb⟩
end inv
def Fin(w0:World)(H0:HS)(w:World)(H:Nat→Prop)(ov:Nat→Option Value)(ob:Nat→Option Ob)(id:Nat)(R:V→List (Nat×Option Ob)→Prop)(a:Act)(dst:Option Tmp)(K:Act→World→Prop):Prop:=
 ∀v up cv w' H' jZ,R v up→Ext w H ov w' H' jZ→(∀i,i≠id→ov i=none→jZ i=none)→Mem w0 H0 w' H' jZ (upd ob up)→Rep w' H' jZ cv v→K (a.put dst cv) w'
theorem bi_run{P:Program}(op:BinOp)(t:TypeId)(k f:IntKind)(x y:Int){g:V→Prop}(h:bi op k x f y g)(w:World):
 ∃v,(binOp op t (.int k x) (.int f y)).run P w= .ok v w∧∃u,g u∧∀(w:World) (H:Nat→Prop) (ov:Nat→Option Value),Rep w H ov v u:=by
 cases op<;>simp only[bi]at h
 case shl=>
  obtain⟨c,a⟩:=h;refine⟨_,?_,_,a,fun _ _ _=> .i _ _⟩;simp[binOp,Op.shift,show¬y<0 by omega]
 case shr=>
  obtain⟨c,a⟩:=h;refine⟨_,?_,_,a,fun _ _ _=> .i _ _⟩;simp[binOp,Op.shift,show¬y<0 by omega]
 case quo=>
  obtain⟨⟨rfl,c⟩,a⟩:=h;exact⟨_,by simp[binOp,Op.intDiv,c],_,a,fun _ _ _=> .i _ _⟩
 case rem=>
  obtain⟨⟨rfl,c⟩,a⟩:=h;exact⟨_,by simp[binOp,Op.intDiv,c],_,a,fun _ _ _=> .i _ _⟩
 all_goals
  obtain⟨rfl,a⟩:=h
  refine⟨_,?_,_,a,fun _ _ _=>by first|exact .i _ _|exact .b _⟩
  first
   |simp only[binOp_and,binOp_or,binOp_xor,binOp_andNot,intBits_and,intBits_or,intBits_xor,intBits_andNot,Sem.run_pure]
   |(simp[binOp,Op.intArith,Op.intCmp];done)
   |(simp[binOp,Op.intArith,Op.intCmp,bne];done)
   |(simp only[binOp_eql,binOp_neq,Sem.run_pure,show(x==y)=decide (x=y)from Bool.eq_iff_iff.2 sy,bne,decide_not])
theorem WC(l:List UInt8):(⟨l.toArray⟩:ByteArray).size=l.length:=by simp[ByteArray.size]
theorem cS_nl(v:Value):cS v≠ .nl:=by
 intro h;unfold cS at h;split at h<;>cases h
theorem eval_nl{a:Act}{y:Operand}(h:cX y=some (.k .nl)):a.eval y= .slice none 0 0:=by
 cases y with
 |const v=>
  simp only[cX,fU,X.k.injEq]at h;show v=_;unfold cV at h;split at h
  ·rfl
  ·cases h
  ·exact absurd h (cS_nl _)
 |func f=>simp[cX]at h
 |tmp t=>simp[cX]at h
 |global g=>simp only[cX,fU,X.k.injEq]at h;split at h<;>cases h
section ops
variable {P:Program} {w0 w:World} {H0:HS} {H:Nat→Prop} {ov:Nat→Option Value} {ob:Nat→Option Ob} {id:Nat} {ρ:X→V} {a:Act} {o:Oper} {K:Act→World→Prop} {Q:Exit→Act→World→Prop}
 {R:V→List (Nat×Option Ob)→Prop}
theorem fin_same(hm:Mem w0 H0 w H ov ob)(hF:Fin w0 H0 w H ov ob id R a o.dst K){cv:Value}{v:V}(hrun:(execOp a.eval o).run P w= .ok (.value cv) w)(c:Rep w H ov cv v)(f:R v []):o.wp P a w K Q:=by
 unfold Oper.wp;rw[hrun];exact hF v [] cv w H ov f (Ext.refl _ _ _) (fun _ _ h=>h) hm c
variable (hm:Mem w0 H0 w H ov ob) (hρ:∀p x,cX p=some x→Rep w H ov (a.eval p) (ρ x)) (hF:Fin w0 H0 w H ov ob id R a o.dst K)
include hm hρ hF
variable{x y:Operand}{t t' e:TypeId}{neg:Bool}
theorem s_mv{y:X}(c:o.op= .move x∨o.op= .assign x)(f:cX x=some y)(h:R (ρ y) []):o.wp P a w K Q:=by
 refine fin_same hm hF (cv:=a.eval x) ?_ (hρ x y f) h;rcases c with c|c<;>simp[execOp,c]
variable{x' y':X}
theorem s_pick{c:Operand}{g:X}(f:o.op= .pick c x y)(z:cX c=some g)(m:cX x=some x')(l:cX y=some y')(h:cnd (ρ g) (R (ρ x') []) (R (ρ y') [])):o.wp P a w K Q:=by
 have j:=hρ c g z;cases u:ρ g<;>rw[u]at h j<;>simp only[cnd]at h;case b t=>
  have e:=j.qH;cases t
  ·exact fin_same hm hF (cv:=a.eval y) (by simp[execOp,f,e,asBool]) (hρ y y' l) (h.2 rfl)
  ·exact fin_same hm hF (cv:=a.eval x) (by simp[execOp,f,e,asBool]) (hρ x x' m) (h.1 rfl)
variable{op:BinOp}
theorem s_bin(c:o.op= .binOp op t x y t')(I:cX x=some x')(H:cX y=some y')
 (h:ev (fun _ _ _=>False) (fun _ _ _=>False) ρ ob id R (.bin op x' y')):o.wp P a w K Q:=by
 have j:=hρ x x' I
 have g:=hρ y y' H
 simp only[ev]at h
 cases J:ρ x'<;>rw[J]at h j<;>(try simp only[]at h)
 case i k n=>
  cases z:ρ y'<;>rw[z]at h g<;>(try simp only[]at h);case i G m=>
   obtain⟨v,hrun,u,C,L⟩:=bi_run (P:=P) op t k G n m h w;refine fin_same hm hF (cv:=v) ?_ (L _ _ _) C;simp[execOp,c,j.dU,g.dU,eqGuard_at_int,hrun]
 case s l=>
  cases z:ρ y'<;>rw[z]at h g<;>(try simp only[]at h);case s f=>
   have F:∀l:List UInt8,(⟨l.toArray⟩:ByteArray).toList=l:=ByteArray.toList_mk;cases op<;>simp only[bs]at h;case add=>
    obtain⟨M,C⟩:=h;refine fin_same hm hF (cv:= .string ⟨(l++f).toArray⟩) ?_ (.s _) C;have A:¬((9223372036854775807:Int)<((⟨l.toArray⟩:ByteArray).size+(⟨f.toArray⟩:ByteArray).size:Nat)):=by
     have e1:(⟨l.toArray⟩:ByteArray).size=l.length:=by simp[ByteArray.size]
     have N:(⟨f.toArray⟩:ByteArray).size=f.length:=by simp[ByteArray.size]
     omega
    simp only[execOp,c,j.BB,g.BB,eqGuard_at_string,binOp,Op.stringOp,Sem.run_bind,Sem.run_pure,Result.andThen_ok,IntKind.max_i64,gt_iff_lt];rw[ah A];simp[ByteArray.ext_iff]
   case eql=>
    refine fin_same hm hF (cv:= .bool (l==f)) ?_ (.b _) h;simp[execOp,c,j.BB,g.BB,eqGuard_at_string,binOp,Op.stringOp,F]
   case neq=>
    refine fin_same hm hF (cv:= .bool (!(l==f))) ?_ (.b _) h;simp[execOp,c,j.BB,g.BB,eqGuard_at_string,binOp,Op.stringOp,F]
theorem s_eqb(c:o.op= .binOp op t x y t')(f:op=if neg then .neq else .eql)(ht:P.underlying t=some .bool)(u:cX x=some x')(l:cX y=some y')
 (h:ev (fun _ _ _=>False) (fun _ _ _=>False) ρ ob id R (.Wu neg x' y')):o.wp P a w K Q:=by
 have j:=hρ x x' u
 have g:=hρ y y' l
 simp only[ev]at h
 cases z:ρ x'<;>rw[z]at h j<;>(try simp only[]at h)
 case b n=>
  cases A:ρ y'<;>rw[A]at h g<;>(try simp only[]at h);case b m=>
   refine fin_same hm hF (cv:= .bool (if neg then !(n==m)else n==m)) ?_ (.b _) h;cases neg<;>(simp only[aJ,if_false,if_true]at f;subst f;simp only[execOp,c,j.qH,g.qH,eqGuard_at_bool,Sem.run_bind,Sem.run_pure,Result.andThen_ok,run_eql_bool w t n m ht,run_neq_bool w t n m ht,aJ,if_false,if_true])
theorem s_isn(A:o.op= .binOp op t x y t')(u:op=if neg then .neq else .eql)(ht:P.underlying t=some (.slice e))(E:cX x=some x')(C:cX y=some (.k .nl))
 (h:ev (fun _ _ _=>False) (fun _ _ _=>False) ρ ob id R (.RP neg x')):o.wp P a w K Q:=by
 have z:=hρ x x' E
 have G:=eval_nl (a:=a) C
 have run:∀(b:Option Addr) (n c:Nat),a.eval x= .slice b n c→(execOp a.eval o).run P w= .ok (.value (.bool (b.isNone != neg))) w:=fun b n c e1=>by
  have g:eqGuard op t x y (.slice b n c) (.slice none 0 0)=pure ():=by cases neg<;>(simp only[aJ,if_false,if_true]at u;subst u;simp[eqGuard])
  cases neg<;>(simp only[aJ,if_false,if_true]at u;subst u;simp only[execOp,A,e1,G,g,Sem.run_bind,Sem.run_pure,Result.andThen_ok,Lib.run_eql_slice_nil w t e b n c 0 0 ht,run_neq_slice_nil_any w t e b n c 0 0 ht];cases b<;>rfl)
 simp only[ev]at h
 cases F:ρ x'<;>rw[F]at h z<;>(try exact h.elim)
 case nl=>
  refine fin_same hm hF (cv:= .bool ((none:Option Addr).isNone != neg)) (run none 0 0 z.rq) (.b _) ?_;cases neg<;>exact h
 case l sz cs=>
  obtain⟨b,n,cap,f,g,H,e1,M,L,J,I,m,_⟩:=z.vV;refine fin_same hm hF (run b n cap e1) (.b _) (h _ fun hb=>?_);rcases m with m|⟨rfl,_⟩
  ·exact m
  ·cases hb
 case ow sz j n=>
  obtain⟨b,cap,e1,_,_,_,m⟩:=z.jK;refine fin_same hm hF (run b n cap e1) (.b _) (h _ fun hb=>?_);rcases m with m|⟨g,rfl⟩
  ·exact m
  ·cases hb
theorem s_un{op:UnOp}(c:o.op= .unOp op t x)(l:cX x=some x')
 (h:ev (fun _ _ _=>False) (fun _ _ _=>False) ρ ob id R (.un op x')):o.wp P a w K Q:=by
 have g:=hρ x x' l
 simp only[ev]at h
 cases op<;>cases m:ρ x'<;>rw[m]at h g<;>(try simp only[]at h)
 all_goals first
  |(refine fin_same hm hF (cv:= .bool _) ?_ (.b _) h;simp[execOp,c,g.qH,Op.unary];done)
  |(refine fin_same hm hF (cv:= .int _ _) ?_ (.i _ _) h;simp[execOp,c,g.dU,Op.unary,Op.intArith,intBits_xor];done)
  |(obtain⟨q,e1,u⟩:=g.inv_f;refine fin_same hm hF (cv:= .float .f64 (Op.negFloat .f64 q)) ?_ (.base (.f _ _ (neg_FI u))) h;simp[execOp,c,e1,Op.unary];done)
theorem s_cvt{s d:TypeId}{k:IntKind}(c:o.op= .convert s d x){ds:TypeDesc}(l:P.underlying s=some ds)(hd:P.underlying d=some (.int k))(g:cX x=some x')
 (h:ev (fun _ _ _=>False) (fun _ _ _=>False) ρ ob id R (.MK k x')):o.wp P a w K Q:=by
 have f:=hρ x x' g
 simp only[ev]at h
 cases j:ρ x'<;>rw[j]at h f<;>(try simp only[]at h)
 case i k' n=>
  refine fin_same hm hF (cv:= .int k (k.wrap n)) ?_ (.i _ _) h;simp[execOp,c,f.dU,convert,run_underlying l,run_underlying hd,Conv.intToInt]
theorem s_six{i:Operand}{i':X}(f:o.op= .index t x i)(ht:P.underlying t=some .string)(m:cX x=some x')(hi:cX i=some i')
 (h:ev (fun _ _ _=>False) (fun _ _ _=>False) ρ ob id R (.six x' i')):o.wp P a w K Q:=by
 have j:=hρ x x' m
 have g:=hρ i i' hi
 simp only[ev]at h
 cases u:ρ x'<;>rw[u]at h j<;>(try simp only[]at h)
 case s l=>
  cases y:ρ i'<;>rw[y]at h g<;>(try simp only[]at h);case i k n=>
   obtain⟨⟨A,hl⟩,z⟩:=h;have c:n.toNat<l.length:=om;refine fin_same hm hF (cv:= .int .u8 ((l.getD n.toNat 0).toNat:Int)) ?_ (.i _ _) z;have e:(⟨l.toArray⟩:ByteArray)[n.toNat]? =some l[n.toNat]:=by
    rw[getElem?_pos (⟨l.toArray⟩:ByteArray) n.toNat (by simpa[ByteArray.size]using c)];rfl
   simp[execOp,f,j.BB,g.dU,Instr.index,asIntOf,run_underlying ht,A,e,List.getD,bC c]
theorem s_ext{f:Nat}(g:o.op= .extract x f)(C:cX x=some x')
 (h:ev (fun _ _ _=>False) (fun _ _ _=>False) ρ ob id R (.ext x' f)):o.wp P a w K Q:=by
 have z:=hρ x x' C
 simp only[ev]at h
 cases E:ρ x'<;>rw[E]at h z<;>(try simp only[]at h)
 case t vs=>
  obtain⟨hl,y⟩:=h;obtain⟨us,e,H,l⟩:=z.RU;have c:f<us.length:=om;refine fin_same hm hF (cv:=us[f]) ?_ (.up (l f _ _ (bC c) ?_)) y
  ·simp[execOp,g,e,Instr.extract,c]
  ·simp[List.getD,bC hl]
 case tw sz j n rs=>
  obtain⟨ba,cap,us,e,F,m,u,G,l⟩:=z.J9;cases f with
  |zero=>exact fin_same hm hF (cv:= .slice ba n cap) (by simp[execOp,g,e,Instr.extract]) (.ow sz j n cap ba m u G F) h
  |succ f=>
   obtain⟨hl,y⟩:=h;have c:f<us.length:=by have:=l.1;omega
   refine fin_same hm hF (cv:=us[f]) ?_ (.up (l.2 f _ _ (bC c) ?_)) y
   ·simp[execOp,g,e,Instr.extract,c]
   ·simp[List.getD,bC hl]
theorem s_nc(c:o.op= .nilCheck x)(l:cX x=some x')
 (h:ev (fun _ _ _=>False) (fun _ _ _=>False) ρ ob id R (.nc x')):o.wp P a w K Q:=by
 have g:=hρ x x' l
 simp only[ev]at h
 cases m:ρ x'<;>rw[m]at h g<;>(try simp only[]at h)
 case pt j k=>
  obtain⟨b,u,e,_⟩:=g.uD;exact fin_same hm hF (cv:=a.eval x) (by simp[execOp,c,e]) g h
 case ip cs k=>
  obtain⟨f,b,u,e,_⟩:=g.GU;exact fin_same hm hF (cv:=a.eval x) (by simp[execOp,c,e]) g h
omit hρ in
theorem FZ(c:o.op= .call {callee:= .builtin .len,args:=#[x],argTypes:=#[t]})(ht:P.underlying t=some (.slice e))(g:cX x=some x')
 {base:Option Addr} {n cap:Nat} (f:a.eval x= .slice base n cap) (h:R (.i .i64 n) []):o.wp P a w K Q:=by
 refine fin_same hm hF (cv:= .int .i64 n) ?_ (.i _ _) h
 simp only[execOp,c,resolve,invoke,builtin,f,List.map_toArray,dI,fJ,Sem.run_bind,Sem.run_pure,Result.andThen_ok]
 simp[Builtin.len_,run_underlying ht,goInt]
theorem s_mm{mx:Bool}{c:Call}(f:o.op= .call c)(l:c.callee= .builtin (if mx then .max else .min))(u:c.args=#[x,y])(A:cX x=some x')(z:cX y=some y')
 (h:ev (fun _ _ _=>False) (fun _ _ _=>False) ρ ob id R (.mm mx x' y')):o.wp P a w K Q:=by
 have j:=hρ x x' A
 have g:=hρ y y' z
 simp only[ev]at h
 cases C:ρ x'<;>rw[C]at h j<;>(try simp only[]at h)
 case i k n=>
  cases E:ρ y'<;>rw[E]at h g<;>(try simp only[]at h);case i k' m=>
   obtain⟨rfl,F⟩:=h;refine fin_same hm hF (cv:= .int k (if mx then max n m else min n m)) ?_ (.i _ _) F;cases mx
   ·have e:(if n>m then m else n)=min n m:=by rw[Int.min_def];split<;>split<;>omega
    simp[execOp,f,resolve,l,u,invoke,builtin,j.dU,g.dU,Builtin.min_,Builtin.min2,←e]
   ·have e:(if m>n then m else n)=max n m:=by rw[Int.max_def];split<;>split<;>omega
    simp[execOp,f,resolve,l,u,invoke,builtin,j.dU,g.dU,Builtin.max_,Builtin.max2,←e]
end ops
section lemmas
variable {P:Program} {w0 w:World} {H0:HS} {H:Nat→Prop} {ov:Nat→Option Value} {ob:Nat→Option Ob}
theorem Mem.at(hm:Mem w0 H0 w H ov ob){j k:Nat}{o:Ob}{x:V}{u:Value}{b:Nat}(A:ob j=some o)(m:o.cs[k]? =some x)(y:ov j=some u)(hb:blk u=some b):
 ∃c,w.cell? ⟨b,k,none⟩=some c∧w.frozen? ⟨b,k,none⟩=false∧Rep w H ov c x∧Ow w0 H0 b:=by
 obtain⟨l,a,z⟩:=hm.obj j o A
 obtain rfl:u=l:=by rw[y]at a;exact dS a
 obtain⟨G,c,f,E,C,g,F⟩:=z.cell m
 obtain rfl:b=G:=by rw[hb]at f;exact dS f
 exact⟨c,E,C,g,F⟩
theorem vX(t:TypeId)(b k n:Nat)(us:List Value)(hl:us.length=n)(g:∀j u,us[j]? =some u→w.cell? ⟨b,k+j,none⟩=some u){ti:TypeInfo}(hi:P.info? t=some ti)(l:ti.size=n){d:TypeDesc}(hd:P.underlying t=some d):
 (lN P t=true→(Instr.loadAt t (.pointer (some ⟨b,k,none⟩))).run P w= .ok (.agg us.toArray) w)∧
 (lN P t=false→∀u,us[0]? =some u→(Instr.loadAt t (.pointer (some ⟨b,k,none⟩))).run P w= .ok u w):=by
 have f:(loadCells ⟨b,k,none⟩ n).run P w= .ok us.toArray w:=by
  rw[←hl];exact run_loadCells_list w ⟨b,k,none⟩ us fun j u c=>by rw[Addr.add_lit];exact g j u c
 have a:(isAgg t).run P w= .ok (lN P t) w:=by
  simp only[isAgg,lN,Sem.run_bind,run_underlying hd,Result.andThen_ok,hd];cases d<;>rfl
 constructor
 ·intro h;simp[Instr.loadAt,Instr.sureAddr,loadVar,a,h,sizeOf,typeInfo,hi,l,f]
 ·intro h u c;have:=g 0 u c;simp only[ik]at this;simp[Instr.loadAt,Instr.sureAddr,loadVar,a,h,this]
theorem aB.drop_take{xs:List Value}{cs:List V}(h:aB w H xs cs)(k n:Nat):aB w H ((xs.drop k).take n) ((cs.drop k).take n):=by
 refine⟨by simp[h.1],fun j v x a c=>?_⟩;rw[ou]at a c;split at a
 ·rename_i f;rw[au f]at c;rw[uB]at a c;exact h.2 _ v x a c
 ·cases a
variable{k:Nat}
theorem Mem.row(hm:Mem w0 H0 w H ov ob){j n:Nat}{o:Ob}{u:Value}{b:Nat}(z:ob j=some o)(l:CU o=false)(G:k+n≤o.cs.length)(C:ov j=some u)(hb:blk u=some b):
 ∃us:List Value,us.length=n∧(∀i c,us[i]? =some c→w.cell? ⟨b,k+i,none⟩=some c)∧aB w H us ((o.cs.drop k).take n):=by
 have g:∀i,i<n→∃c,w.cell? ⟨b,k+i,none⟩=some c∧∀x,o.cs[k+i]? =some x→Rep0 w H c x:=fun i hi=>by
  obtain⟨c,g,_,a,_⟩:=hm.at (k:=k+i) (x:=o.cs[k+i]) z (bC om) C hb;obtain⟨F,_,m⟩:=hm.obj j o z;exact⟨c,g,fun x y=>by rw[bC om]at y;cases y;exact a.down (m.cl l _ (uP _))⟩
 refine⟨(List.range n).map fun i=>(w.cell? ⟨b,k+i,none⟩).getD undef,sy,fun i c f=>?_,by simp;omega,fun i v x A a=>?_⟩
 ·simp only[iU,List.getElem?_range,jT]at f;obtain⟨i',hi',rfl⟩:=f;have hi:i<n:=by
   rcases dW i n with h|h
   ·exact h
   ·simp[ng,h]at hi'
  obtain rfl:i=i':=by simp[List.getElem?_range hi]at hi';exact hi'
  obtain⟨c,f,_⟩:=g i hi;rw[f];rfl
 ·rw[ou]at a;split at a
  ·rename_i hi;rw[uB]at a;obtain⟨c,f,E⟩:=g i hi;simp only[iU,List.getElem?_range hi,kZ,f,jJ,fU]at A;subst A;exact E x a
  ·cases a
theorem WE{cs:List V}{n b o:Nat}{f:Nat→Value}(y:k+n≤cs.length)(u:∀j,j<cs.length→w.cell? ⟨b,o+j,none⟩=some (f j))(m:∀(j:Nat) (x:V),cs[j]? =some x→Rep0 w H (f j) x):
 ∃us:List Value,us.length=n∧(∀i c,us[i]? =some c→w.cell? ⟨b,o+k+i,none⟩=some c)∧aB w H us ((cs.drop k).take n):=by
 refine⟨(List.range n).map fun i=>f (k+i),sy,fun i c h=>?_,by simp;omega,fun i v x l a=>?_⟩
 ·have hi:i<n:=by
   rcases dW i n with g|g
   ·exact g
   ·simp[g]at h
  simp only[iU,List.getElem?_range hi,kZ,fU]at h;subst h;rw[tY];exact u _ om
 ·rw[ou]at a;split at a
  ·rename_i hi;rw[uB]at a;simp only[iU,List.getElem?_range hi,kZ,fU]at l;subst l;exact m _ x a
  ·cases a
end lemmas
section ops
variable {P:Program} {w0 w:World} {H0:HS} {H:Nat→Prop} {ov:Nat→Option Value} {ob:Nat→Option Ob} {id:Nat} {ρ:X→V} {a:Act} {o:Oper} {K:Act→World→Prop} {Q:Exit→Act→World→Prop}
 {R:V→List (Nat×Option Ob)→Prop}
variable (hm:Mem w0 H0 w H ov ob) (hρ:∀p x,cX p=some x→Rep w H ov (a.eval p) (ρ x)) (hF:Fin w0 H0 w H ov ob id R a o.dst K)
include hm hρ hF
variable{t e:TypeId}{p x:Operand}{sz l h j:Nat}{ba:Option Addr}{hi:Option Operand}{p':X}{ti:TypeInfo}
theorem s_ld{d:TypeDesc}(A:o.op= .load t p)(Y:cX p=some p')(hi:P.info? t=some ti)(hd:P.underlying t=some d)
 (h:ev (fun _ _ _=>False) (fun _ _ _=>False) ρ ob id R (.ld (lN P t) ti.size p')):o.wp P a w K Q:=by
 have M:=hρ p p' Y
 simp only[ev]at h
 cases U:ρ p'<;>rw[U]at h M<;>(try simp only[]at h)
 case ip cs k=>
  obtain⟨f,b,q,e,hb,J,G⟩:=M.GU;cases m:lN P t<;>rw[m]at h<;>simp only[aJ,if_false,if_true]at h
  ·obtain⟨C,E⟩:=h;obtain⟨us,hl,y,l⟩:=WE (w:=w) (H:=H) (n:=1) C J G;obtain⟨u,F⟩:∃u,us[0]? =some u:=⟨us[0],bC om⟩;have O:=y 0 u F;have z:(isAgg t).run P w= .ok false w:=by
    rw[←m];simp only[isAgg,lN,Sem.run_bind,run_underlying hd,Result.andThen_ok,hd];cases d<;>rfl
   refine fin_same hm hF (cv:=u) ?_ (.up (l.2 0 u (cs.getD k .un) F ?_)) E
   ·simp only[ik]at O;simp[execOp,A,e,Instr.loadAt,Instr.sureAddr,loadVar,z,O]
   ·simp[ou,List.getD,bC C]
  ·obtain⟨C,E⟩:=h;obtain⟨us,hl,y,l⟩:=WE (w:=w) (H:=H) C J G;refine fin_same hm hF (cv:= .agg us.toArray) ?_ (.up (.g us _ l.1 l.2)) E;simp[execOp,A,e,(vX (P:=P) t b (q+k) ti.size us hl y hi rfl hd).1 m]
 case pt j k=>
  obtain⟨b,u,e,F,hb⟩:=M.uD;cases I:ob j with
  |none=>rw[I]at h;exact h.elim
  |some T=>
   rw[I]at h;cases m:lN P t<;>rw[m]at h<;>simp only[aJ,if_false,if_true]at h
   ·obtain⟨C,E⟩:=h;obtain⟨c,J,_,G,_⟩:=hm.at I (bC C) F hb;have z:(isAgg t).run P w= .ok false w:=by
     rw[←m];simp only[isAgg,lN,Sem.run_bind,run_underlying hd,Result.andThen_ok,hd];cases d<;>rfl
    refine fin_same hm hF (cv:=c) ?_ (v:=T.cs.getD k .un) ?_ E
    ·simp[execOp,A,e,Instr.loadAt,Instr.sureAddr,loadVar,z,J]
    ·simpa[List.getD,bC C]using G
   ·obtain⟨⟨C,L⟩,E⟩:=h;obtain⟨us,hl,y,l⟩:=hm.row I L C F hb;refine fin_same hm hF (cv:= .agg us.toArray) ?_ (.up (.g us _ l.1 l.2)) E;simp[execOp,A,e,(vX (P:=P) t b k ti.size us hl y hi rfl hd).1 m]
variable{x' i':X}
theorem s_idx{i:Operand}(I:o.op= .indexAddr t x i)(ht:P.underlying t=some (.slice e))(hi:P.info? e=some ti)(N:cX x=some x')(M:cX i=some i')
 (h:ev (fun _ _ _=>False) (fun _ _ _=>False) ρ ob id R (.idx ti.size x' i')):o.wp P a w K Q:=by
 have H:=hρ x x' N
 have g:=hρ i i' M
 simp only[ev]at h
 have run:∀(b k:Nat) (len cap:Nat) (kk:IntKind) (n:Int),0≤n→n<len→a.eval x= .slice (some ⟨b,k,none⟩) len cap→a.eval i= .int kk n→
  (execOp a.eval o).run P w= .ok (.value (.pointer (some ⟨b,k+n.toNat*ti.size,none⟩))) w:=fun b k len cap kk n c hl Z L=>by
  simp[execOp,I,Z,L,Instr.indexAt,asIntOf,run_underlying ht,c,hl,sizeOf,typeInfo,hi,Addr.add_lit]
 cases O:ρ x'<;>rw[O]at h H<;>(try simp only[]at h)
 case l s cs=>
  cases y:ρ i'<;>rw[y]at h g<;>(try simp only[]at h);case i k n=>
   obtain⟨⟨G,c,hl⟩,E⟩:=h;obtain⟨ba,m,cap,f,b,q,e1,T,L,z,A,C,hc,U⟩:=H.vV;have Y:n.toNat<m:=by
    rcases dW n.toNat m with F|F
    ·exact F
    ·have:=kF s F;rw[G]at this;rw[G]at L;omega
   rcases C with rfl|⟨rfl,hb⟩
   ·simp at hl
   ·exact fin_same hm hF (run b q m cap k n c om e1 g.dU) (.up (.ip cs _ f b q hb hc U)) E
 case ow s j m=>
  cases y:ρ i'<;>rw[y]at h g<;>(try simp only[]at h);case i k n=>
   obtain⟨⟨G,c,hl⟩,E⟩:=h;obtain⟨ba,cap,e1,J,z,A,C⟩:=H.jK;rcases C with F|⟨b,rfl⟩
   ·omega
   ·have hrun:=run b 0 m cap k n c hl e1 g.dU;rw[eY]at hrun;exact fin_same hm hF hrun (.pt j _ b _ J (by rw[e1];rfl)) E
 case sl s j off m=>
  cases y:ρ i'<;>rw[y]at h g<;>(try simp only[]at h);case i k n=>
   obtain⟨⟨G,c,hl⟩,E⟩:=h;obtain⟨ba,cap,u,e1,z,A,J,C⟩:=H.sN;rcases C with F|⟨b,hb,rfl⟩
   ·omega
   ·exact fin_same hm hF (run b off m cap k n c hl e1 g.dU) (.pt j _ b u J hb) E
theorem s_aix{n:Nat}{i:Operand}(y:o.op= .indexAddr t x i)(ht:P.underlying t=some (.array n e))(hi:P.info? e=some ti)(E:cX x=some x')(z:cX i=some i')
 (h:ev (fun _ _ _=>False) (fun _ _ _=>False) ρ ob id R (.Uh n ti.size x' i')):o.wp P a w K Q:=by
 have C:=hρ x x' E
 have g:=hρ i i' z
 simp only[ev]at h
 have run:∀(b k:Nat) (kk:IntKind) (m:Int),0≤m→m<n→a.eval x= .pointer (some ⟨b,k,none⟩)→a.eval i= .int kk m→
  (execOp a.eval o).run P w= .ok (.value (.pointer (some ⟨b,k+m.toNat*ti.size,none⟩))) w:=fun b k kk m c hl J I=>by
  simp[execOp,y,J,I,Instr.indexAt,asIntOf,Instr.sureAddr,run_underlying ht,c,hl,sizeOf,typeInfo,hi,Addr.add_lit]
 cases F:ρ x'<;>rw[F]at h C<;>(try simp only[]at h)
 case ip cs k=>
  cases l:ρ i'<;>rw[l]at h g<;>(try simp only[]at h);case i kk m=>
   obtain⟨⟨c,hl⟩,A⟩:=h;obtain⟨f,b,q,e1,hb,L,G⟩:=C.GU;have hrun:=run b (q+k) kk m c hl e1 g.dU;rw[tY]at hrun;exact fin_same hm hF hrun (.up (.ip cs _ f b q hb L G)) A
 case pt j k=>
  cases l:ρ i'<;>rw[l]at h g<;>(try simp only[]at h);case i kk m=>
   obtain⟨⟨c,hl⟩,A⟩:=h;obtain⟨b,u,e1,H,hb⟩:=C.uD;exact fin_same hm hF (run b k kk m c hl e1 g.dU) (.pt j _ b u H hb) A
variable{fs:Array Field}{fd:Field}
theorem s_fad{i:Nat}(c:o.op= .fieldAddr t p i)(ht:P.underlying t=some (.struct fs))(C:fs[i]? =some fd)(hi:P.info? fd.type=some ti)(y:0<ti.size)(A:cX p=some p')
 (h:ev (fun _ _ _=>False) (fun _ _ _=>False) ρ ob id R (.FK fd.offset p')):o.wp P a w K Q:=by
 have g:=hρ p p' A
 simp only[ev]at h
 have run:∀b k:Nat,a.eval p= .pointer (some ⟨b,k,none⟩)→(execOp a.eval o).run P w= .ok (.value (.pointer (some ⟨b,k+fd.offset,none⟩))) w:=fun b k e=>by
  have hz:¬ti.size=0:=om;simp[execOp,c,e,Instr.fieldAt,run_underlying ht,C,Instr.sureAddr,fieldPlace,sizeOf,typeInfo,hi,hz,Addr.add_lit]
 cases l:ρ p'<;>rw[l]at h g<;>(try simp only[]at h)
 case ip cs k=>
  obtain⟨f,b,q,e,hb,E,z⟩:=g.GU;have hrun:=run b (q+k) e;rw[tY]at hrun;exact fin_same hm hF hrun (.up (.ip cs _ f b q hb E z)) h
 case pt j k=>
  obtain⟨b,u,e,m,hb⟩:=g.uD;exact fin_same hm hF (run b k e) (.pt j _ b u m hb) h
theorem s_fld{i:Nat}{d:TypeDesc}(f:o.op= .field t p i)(ht:P.underlying t=some (.struct fs))(A:fs[i]? =some fd)(hi:P.info? fd.type=some ti)(hd:P.underlying fd.type=some d)(F:cX p=some p')
 (h:ev (fun _ _ _=>False) (fun _ _ _=>False) ρ ob id R (.Wx (lN P fd.type) fd.offset ti.size p')):o.wp P a w K Q:=by
 have C:=hρ p p' F
 simp only[ev]at h
 have hagr:(isAgg fd.type).run P w= .ok (lN P fd.type) w:=by
  simp only[isAgg,lN,Sem.run_bind,run_underlying hd,Result.andThen_ok,hd];cases d<;>rfl
 cases E:ρ p'<;>rw[E]at h C<;>(try simp only[]at h)
 case g cs=>
  obtain⟨l,e,G,y⟩:=C.GR;cases m:lN P fd.type<;>rw[m]at h hagr<;>simp only[aJ,if_false,if_true]at h
  ·obtain⟨z,u⟩:=h;have j:fd.offset<l.length:=om;refine fin_same hm hF (cv:=l[fd.offset]) ?_ (.up (y fd.offset _ (cs.getD fd.offset .un) (bC j) ?_)) u
   ·simp[execOp,f,e,Instr.field,run_underlying ht,A,asAgg,part,hagr,j]
   ·simp[List.getD,bC z]
  ·obtain⟨z,u⟩:=h;have c:aB w H ((l.drop fd.offset).take ti.size) ((cs.drop fd.offset).take ti.size):=aB.drop_take ⟨G,y⟩ _ _;refine fin_same hm hF (cv:= .agg ((l.drop fd.offset).take ti.size).toArray) ?_ (.up (.g _ _ c.1 c.2)) u;simp[execOp,f,e,Instr.field,run_underlying ht,A,asAgg,part,hagr,sizeOf,typeInfo,hi]
omit hm hF hρ in
theorem y8{x:Option Operand}{x':Option X}(h:cX? x=some x'):(x=none∧x'=none)∨∃y y',x=some y∧x'=some y'∧cX y=some y':=by
 cases x with
 |none=>left;simp[cX?]at h;exact⟨rfl,h.symm⟩
 |some y=>
  right;simp[cX?]at h;obtain⟨y',a,rfl⟩:=h;exact⟨y,y',rfl,rfl,a⟩
omit hm hF hρ in
theorem RY(ht:P.underlying t=some (.slice e))(hi:P.info? e=some ti)(ba:Option Addr)(n cap:Nat)(lo hi':Option Value)(l h:Nat)(a:(lo=none∧l=0)∨∃k,lo=some (.int k (l:Int)))(c:(hi'=none∧h=n)∨∃k,hi'=some (.int k (h:Int)))
 (h1:l≤h) (h2:h≤cap):(Instr.sliceAt t (.slice ba n cap) lo hi' none).run P w= .ok (.slice (if cap=l then ba else ba.map (·.add (l*ti.size))) (h-l) (cap-l)) w:=by
 have g:(l:Int)≤h:=om
 have f:(h:Int)≤cap:=om
 rcases a with ⟨rfl,rfl⟩|⟨k,rfl⟩<;>rcases c with ⟨rfl,rfl⟩|⟨j,rfl⟩<;>
  simp[Instr.sliceAt,Instr.slice,Instr.sliceBounds,Instr.sliceBound,asIntOf,run_underlying ht,sizeOf,typeInfo,hi,h1,h2]
omit hm hF hρ in
theorem oG{cs:List V}{n cap:Nat}(z:Rep w H ov (.slice ba n cap) (.l sz cs))(h1:l≤h)(h2:h≤n):
 Rep w H ov (.slice (if cap=l then ba else ba.map (·.add (l*sz))) (h-l) (cap-l)) (.l sz ((cs.take (h*sz)).drop (l*sz))):=by
 obtain⟨_,_,_,f,b,o,e,c,y,hm,C,F,E,g⟩:=z.vV
 cases e
 have hle:h*sz≤n*sz:=kF _ h2
 have hlen:((cs.take (h*sz)).drop (l*sz)).length=(h-l)*sz:=by
  rw[uM,jo,Nat.sub_mul,y];omega
 refine .up (.l _ _ _ sz _ (fun j=>f (l*sz+j)) b (o+l*sz) c hlen om om ?_ (fun j A=>?_) (fun j x a=>?_))
 ·by_cases hE:(cs.take (h*sz)).drop (l*sz)=[]
  ·exact .inl hE
  ·right;have hpos:0<(h-l)*sz:=by rw[←hlen];exact yD.2 hE
   have hl:l<h:=by
    rcases dW l h with u|u
    ·exact u
    ·rw[Nat.sub_eq_zero_of_le u,iT]at hpos;omega
   rcases F with rfl|⟨rfl,hb⟩
   ·simp at hE
   ·rw[ah om];exact⟨by simp[Addr.add_lit],hb⟩
 ·rw[hlen]at A;have m:l*sz+j<cs.length:=by
   rw[y];have:l*sz+(h-l)*sz=h*sz:=by rw[←kQ];congr 1;omega
   omega
  rw[tY];exact E _ m
 ·rw[uB,ou]at a;split at a
  ·exact g _ x a
  ·cases a
omit hm hF hρ in
theorem pY{off n cap:Nat}(y:Rep w H ov (.slice ba n cap) (.sl sz j off n))(h1:l≤h)(h2:h≤n):
 Rep w H ov (.slice (if cap=l then ba else ba.map (·.add (l*sz))) (h-l) (cap-l)) (.sl sz j (off+l*sz) (h-l)):=by
 have c:=fun(C:off=0) (f:0<sz)=>Rep.RX f (C▸y)
 obtain⟨_,_,u,e,hm,E,z,A⟩:=y.sN
 cases e
 refine .sl _ _ _ _ _ _ u om om z ?_ (fun C f=>?_)
 rotate_left 1
 ·have g:l=0:=by
   rcases Nat.mul_eq_zero.1 (show l*sz=0 by omega)with h|h<;>omega
  subst g;obtain⟨_,_,m,e,_,_,a⟩:=c om f;cases e;rw[z]at a;refine⟨m,?_⟩;rw[dS a,Nat.sub_zero,iT];congr 1;split
  ·rfl
  ·cases ba with
   |none=>rfl
   |some x=>simp[Addr.add]
 by_cases hl:h-l=0
 ·exact .inl hl
 ·right;rcases A with A|⟨b,hb,rfl⟩
  ·omega
  ·refine⟨b,hb,?_⟩;rw[ah om];simp[Addr.add_lit]
omit hm hF hρ in
theorem Ej{n:Nat}{v:Value}(f:Rep w H ov v (.ow sz j n)):Rep w H ov v (.sl sz j 0 n):=by
 obtain⟨a,cap,rfl,g,hm,c,l⟩:=f.jK;exact .sl _ _ _ _ _ _ _ hm c g (l.imp id fun⟨b,e⟩=>⟨b,by rw[e];rfl,e⟩) (fun _ _=>⟨_,rfl⟩)
variable{lo' hi':Option X}
theorem s_sub{lo:Option Operand}(hop:o.op= .slice t x lo hi none)(ht:P.underlying t=some (.slice e))(hi0:P.info? e=some ti)(hx:cX x=some x')(T:cX? lo=some lo')(U:cX? hi=some hi')
 (h:ev (fun _ _ _=>False) (fun _ _ _=>False) ρ ob id R (.sub ti.size x' lo' hi')):o.wp P a w K Q:=by
 have G:=hρ x x' hx
 simp only[ev]at h
 have run:∀(ba:Option Addr) (n cap l Y:Nat),a.eval x= .slice ba n cap→((lo.map a.eval=none∧l=0)∨∃k,lo.map a.eval=some (.int k (l:Int)))→((hi.map a.eval=none∧Y=n)∨∃k,hi.map a.eval=some (.int k (Y:Int)))→l≤Y→Y≤cap→
  (execOp a.eval o).run P w= .ok (.value (.slice (if cap=l then ba else ba.map (·.add (l*ti.size))) (Y-l) (cap-l))) w:=fun ba n cap l Y e hl hh' G h2=>by
  have:=RY (P:=P) (w:=w) ht hi0 ba n cap _ _ l Y hl hh' G h2
  simp[execOp,hop,e,this]
 have L:∀(k:IntKind) (n:Int) (y:Operand),a.eval y= .int k n→0≤n→∃k',(some y).map a.eval=some (.int k' (n.toNat:Int)):=fun k n y e I=>⟨k,by simp[e,Int.toNat_of_nonneg I]⟩
 have toN:∀(n:Int) (m:Nat),0≤n→n≤m→n.toNat≤m:=fun n m _ _=>om
 cases hv:ρ x'<;>rw[hv]at h G<;>(try simp only[]at h)
 case l s cs=>
  obtain⟨ba,n,cap,f,b,q,e1,hsz,hn,hm',J,ha,hc,hr⟩:=G.vV;rw[e1]at G;have WG:∀m:Nat,m*s≤cs.length→m≤n:=fun m O=>by rw[hn]at O;exact Nat.le_of_mul_le_mul_right O hsz
  rcases y8 T with ⟨rfl,rfl⟩|⟨y,y',rfl,rfl,N⟩<;>rcases y8 U with ⟨rfl,rfl⟩|⟨z,F,rfl,rfl,hz⟩<;>simp only[Option.map_none,kZ]at h
  ·obtain⟨rfl,A⟩:=h;have E:=oG (l:=0) (h:=n) G (aG _) (aY _);rw[←hn,iH,iT,List.drop_zero]at E;exact fin_same hm hF (run ba n cap 0 n e1 (.inl ⟨rfl,rfl⟩) (.inl ⟨rfl,rfl⟩) (aG _) J) (by simpa using E) A
  ·have c:=hρ z F hz;cases C:ρ F<;>rw[C]at h c<;>(try simp only[]at h);case i k m=>
    obtain⟨⟨rfl,I,hl⟩,A⟩:=h;have hle:=WG _ hl;have E:=oG (l:=0) (h:=m.toNat) G (aG _) hle;rw[iT,List.drop_zero]at E;exact fin_same hm hF (run ba n cap 0 m.toNat e1 (.inl ⟨rfl,rfl⟩) (.inr (L k m z c.dU I)) (aG _) om) (by simpa using E) A
  ·have c:=hρ y y' N;cases C:ρ y'<;>rw[C]at h c<;>(try simp only[]at h);case i k m=>
    obtain⟨⟨rfl,I,hl⟩,A⟩:=h;have hle:=WG _ hl;have E:=oG (l:=m.toNat) (h:=n) G hle (aY _);rw[←hn,iH]at E;exact fin_same hm hF (run ba n cap m.toNat n e1 (.inr (L k m y c.dU I)) (.inl ⟨rfl,rfl⟩) hle J) E A
  ·have c:=hρ y y' N;have Z:=hρ z F hz;cases C:ρ y'<;>rw[C]at h c<;>(try simp only[]at h);case i k m=>
    cases M:ρ F<;>rw[M]at h Z<;>(try simp only[]at h);case i k' m'=>
     obtain⟨⟨rfl,I,O,hl⟩,A⟩:=h;have hle:=WG _ hl;exact fin_same hm hF (run ba n cap m.toNat m'.toNat e1 (.inr (L k m y c.dU I)) (.inr (L k' m' z Z.dU om)) om om) (oG G om hle) A
 case ow s j n=>
  obtain⟨ba,cap,e1,ho,hm',J,ha⟩:=G.jK;have hs:=Ej G;rw[e1]at G hs;rcases y8 T with ⟨rfl,rfl⟩|⟨y,y',rfl,rfl,N⟩<;>rcases y8 U with ⟨rfl,rfl⟩|⟨z,F,rfl,rfl,hz⟩<;>simp only[Option.map_none,kZ]at h
  ·obtain⟨rfl,A⟩:=h;refine fin_same hm hF (cv:= .slice ba n cap) ?_ G A;have hrun:=run ba n cap 0 n e1 (.inl ⟨rfl,rfl⟩) (.inl ⟨rfl,rfl⟩) (aG _) J;rw[hrun];rcases ha with rfl|⟨b,rfl⟩
   ·cases ba<;>simp[Addr.add]
   ·simp[Addr.add]
  ·have c:=hρ z F hz;cases C:ρ F<;>rw[C]at h c<;>(try simp only[]at h);case i k m=>
    obtain⟨⟨rfl,I,hl⟩,A⟩:=h;have E:=pY (l:=0) (h:=m.toNat) hs (aG _) om;exact fin_same hm hF (run ba n cap 0 m.toNat e1 (.inl ⟨rfl,rfl⟩) (.inr (L k m z c.dU I)) (aG _) om) (by simpa using E) A
  ·have c:=hρ y y' N;cases C:ρ y'<;>rw[C]at h c<;>(try simp only[]at h);case i k m=>
    obtain⟨⟨rfl,I,hl⟩,A⟩:=h;have E:=pY (l:=m.toNat) (h:=n) hs om (aY _);rw[eY]at E;exact fin_same hm hF (run ba n cap m.toNat n e1 (.inr (L k m y c.dU I)) (.inl ⟨rfl,rfl⟩) om J) E A
  ·have c:=hρ y y' N;have Z:=hρ z F hz;cases C:ρ y'<;>rw[C]at h c<;>(try simp only[]at h);case i k m=>
    cases M:ρ F<;>rw[M]at h Z<;>(try simp only[]at h);case i k' m'=>
     obtain⟨⟨rfl,I,O,hl⟩,A⟩:=h;have E:=pY (l:=m.toNat) (h:=m'.toNat) hs om om;rw[eY]at E;exact fin_same hm hF (run ba n cap m.toNat m'.toNat e1 (.inr (L k m y c.dU I)) (.inr (L k' m' z Z.dU om)) om om) E A
 case sl s j off n=>
  obtain⟨ba,cap,u,e1,hm',J,ho,ha⟩:=G.sN;rw[e1]at G;rcases y8 T with ⟨rfl,rfl⟩|⟨y,y',rfl,rfl,N⟩<;>rcases y8 U with ⟨rfl,rfl⟩|⟨z,F,rfl,rfl,hz⟩<;>simp only[Option.map_none,kZ]at h
  ·obtain⟨rfl,A⟩:=h;have E:=pY (l:=0) (h:=n) G (aG _) (aY _);exact fin_same hm hF (run ba n cap 0 n e1 (.inl ⟨rfl,rfl⟩) (.inl ⟨rfl,rfl⟩) (aG _) J) (by simpa using E) A
  ·have c:=hρ z F hz;cases C:ρ F<;>rw[C]at h c<;>(try simp only[]at h);case i k m=>
    obtain⟨⟨rfl,I,hl⟩,A⟩:=h;have E:=pY (l:=0) (h:=m.toNat) G (aG _) om;exact fin_same hm hF (run ba n cap 0 m.toNat e1 (.inl ⟨rfl,rfl⟩) (.inr (L k m z c.dU I)) (aG _) om) (by simpa using E) A
  ·have c:=hρ y y' N;cases C:ρ y'<;>rw[C]at h c<;>(try simp only[]at h);case i k m=>
    obtain⟨⟨rfl,I,hl⟩,A⟩:=h;exact fin_same hm hF (run ba n cap m.toNat n e1 (.inr (L k m y c.dU I)) (.inl ⟨rfl,rfl⟩) om J) (pY G om (aY _)) A
  ·have c:=hρ y y' N;have Z:=hρ z F hz;cases C:ρ y'<;>rw[C]at h c<;>(try simp only[]at h);case i k m=>
    cases M:ρ F<;>rw[M]at h Z<;>(try simp only[]at h);case i k' m'=>
     obtain⟨⟨rfl,I,O,hl⟩,A⟩:=h;exact fin_same hm hF (run ba n cap m.toNat m'.toNat e1 (.inr (L k m y c.dU I)) (.inr (L k' m' z Z.dU om)) om om) (pY G om om) A
 case nl=>
  have e1:=G.rq;have nl':∀l Y:Nat,l=0→Y=0→Rep w H ov (.slice (if 0=l then none else(none:Option Addr).map (·.add (l*ti.size))) (Y-l) (0-l)) .nl:=fun l Y e e'=>by subst e;subst e';exact .nl
  rcases y8 T with ⟨rfl,rfl⟩|⟨y,y',rfl,rfl,N⟩<;>rcases y8 U with ⟨rfl,rfl⟩|⟨z,F,rfl,rfl,hz⟩<;>simp only[Option.map_none,kZ]at h
  ·exact fin_same hm hF (run none 0 0 0 0 e1 (.inl ⟨rfl,rfl⟩) (.inl ⟨rfl,rfl⟩) (aY _) (aY _)) (nl' 0 0 rfl rfl) h
  ·have c:=hρ z F hz;cases C:ρ F<;>rw[C]at h c<;>(try simp only[]at h);case i k m=>
    obtain⟨rfl,A⟩:=h;exact fin_same hm hF (run none 0 0 0 0 e1 (.inl ⟨rfl,rfl⟩) (.inr (L k 0 z c.dU om)) (aY _) (aY _)) (nl' 0 0 rfl rfl) A
  ·have c:=hρ y y' N;cases C:ρ y'<;>rw[C]at h c<;>(try simp only[]at h);case i k m=>
    obtain⟨rfl,A⟩:=h;exact fin_same hm hF (run none 0 0 0 0 e1 (.inr (L k 0 y c.dU om)) (.inl ⟨rfl,rfl⟩) (aY _) (aY _)) (nl' 0 0 rfl rfl) A
  ·have c:=hρ y y' N;have Z:=hρ z F hz;cases C:ρ y'<;>rw[C]at h c<;>(try simp only[]at h);case i k m=>
    cases M:ρ F<;>rw[M]at h Z<;>(try simp only[]at h);case i k' m'=>
     obtain⟨⟨rfl,rfl⟩,A⟩:=h;exact fin_same hm hF (run none 0 0 0 0 e1 (.inr (L k 0 y c.dU om)) (.inr (L k' 0 z Z.dU om)) (aY _) (aY _)) (nl' 0 0 rfl rfl) A
 case kn v x=>
  cases v<;>(try simp only[]at h);case slice ba n cap=>
   cases x<;>(try simp only[]at h);case l s cs=>
    obtain⟨e1,h5⟩:=G.inv_kn;have h6:Rep w H ov (.slice ba n cap) (.l s cs):= .base h5;rcases y8 T with ⟨rfl,rfl⟩|⟨y,y',rfl,rfl,N⟩<;>rcases y8 U with ⟨rfl,rfl⟩|⟨z,F,rfl,rfl,hz⟩<;>simp only[Option.map_none,kZ]at h
    ·have c:=hρ z F hz;cases C:ρ F<;>rw[C]at h c<;>(try simp only[]at h);case i k m=>
      obtain⟨⟨rfl,I,hl,J,g,rfl⟩,A⟩:=h;have hcap:n≤cap:=by
       cases h5;assumption
      have E:=oG (l:=0) (h:=m.toNat) h6 (aG _) om;rw[iT,List.drop_zero]at E;have hrun:=run (some ⟨g,0,none⟩) n cap 0 m.toNat e1 (.inl ⟨rfl,rfl⟩) (.inr (L k m z c.dU I)) (aG _) om;have ea:(if cap=0 then(some ⟨g,0,none⟩:Option Addr)else(some ⟨g,0,none⟩:Option Addr).map (·.add (0*ti.size)))=some ⟨g,0,none⟩:=by
       split
       ·rfl
       ·simp[Addr.add]
      rw[ea]at hrun;rw[iT]at ea;rw[ea]at E;exact fin_same hm hF hrun (by
       have hk':=E.down rfl;simp only[Nat.sub_zero]at hk' ⊢;exact .base (.kn _ _ hk')) A
theorem s_asl{n:Nat}{lo:Option Operand}(T:o.op= .slice t x lo hi none)(ht:P.underlying t=some (.array n e))(Z:P.info? e=some ti)(hpos:0<ti.size)(hn:n≤1099511627776)(hx:cX x=some x')(Y:cX? lo=some lo')(hhi:cX? hi=some hi')
 (h:ev (fun _ _ _=>False) (fun _ _ _=>False) ρ ob id R (.RQ n ti.size x' lo' hi')):o.wp P a w K Q:=by
 have L:=hρ x x' hx
 simp only[ev]at h
 have run:∀(ba:Addr) (l A:Nat),a.eval x= .pointer (some ba)→((lo.map a.eval=none∧l=0)∨∃k,lo.map a.eval=some (.int k (l:Int)))→((hi.map a.eval=none∧A=n)∨∃k,hi.map a.eval=some (.int k (A:Int)))→l≤A→A≤n→
  (execOp a.eval o).run P w= .ok (.value (.slice (if n=l then some ba else(some ba).map (·.add (l*ti.size))) (A-l) (n-l))) w:=fun ba l A e hl hh' L h2=>by
  have h1':(l:Int)≤A:=om
  have h2':(A:Int)≤n:=om
  have:(Instr.sliceAt t (.pointer (some ba)) (lo.map a.eval) (hi.map a.eval) none).run P w= .ok (.slice (if n=l then some ba else(some ba).map (·.add (l*ti.size))) (A-l) (n-l)) w:=by
   rcases hl with ⟨e1,rfl⟩|⟨k,e1⟩<;>rcases hh' with ⟨g,rfl⟩|⟨k',g⟩<;>rw[e1,g]<;>
    simp[Instr.sliceAt,Instr.sureAddr,Instr.sliceBounds,Instr.sliceBound,asIntOf,run_underlying ht,sizeOf,typeInfo,Z,L,h2]<;>(split<;>rfl)
  simp[execOp,T,e,this]
 have M:∀(k:IntKind) (n:Int) (y:Operand),a.eval y= .int k n→0≤n→∃k',(some y).map a.eval=some (.int k' (n.toNat:Int)):=fun k n y e F=>⟨k,by simp[e,Int.toNat_of_nonneg F]⟩
 have U:n≤maxLen:=by unfold maxLen;omega
 cases hv:ρ x'<;>rw[hv]at h L<;>(try simp only[]at h)
 case ip cs k0=>
  obtain⟨f,b,q,e1,hb,hc,hr⟩:=L.GU;have base:k0=0→cs.length=n*ti.size→a.eval x= .pointer (some ⟨b,q,none⟩)∧Rep w H ov (.slice (some ⟨b,q,none⟩) n n) (.l ti.size cs):=fun g j=>by
   subst g;exact⟨e1,.up (.l _ n n ti.size cs f b q hpos j U (aY _) (.inr ⟨rfl,hb⟩) hc hr)⟩
  rcases y8 Y with ⟨rfl,rfl⟩|⟨y,y',rfl,rfl,hy⟩<;>rcases y8 hhi with ⟨rfl,rfl⟩|⟨z,J,rfl,rfl,hz⟩<;>simp only[Option.map_none,kZ]at h
  ·obtain⟨⟨g,j⟩,E⟩:=h;obtain⟨G,c⟩:=base g j;have u:=oG (l:=0) (h:=n) c (aG _) (aY _);rw[←j,iH,iT,List.drop_zero]at u;exact fin_same hm hF (run _ 0 n G (.inl ⟨rfl,rfl⟩) (.inl ⟨rfl,rfl⟩) (aG _) (aY _)) (by simpa using u) E
  ·have C:=hρ z J hz;cases I:ρ J<;>rw[I]at h C<;>(try simp only[]at h);case i k m=>
    obtain⟨⟨g,j,F,hl⟩,E⟩:=h;obtain⟨G,c⟩:=base g j;have u:=oG (l:=0) (h:=m.toNat) c (aG _) om;rw[iT,List.drop_zero]at u;exact fin_same hm hF (run _ 0 m.toNat G (.inl ⟨rfl,rfl⟩) (.inr (M k m z C.dU F)) (aG _) om) (by simpa using u) E
  ·have C:=hρ y y' hy;cases I:ρ y'<;>rw[I]at h C<;>(try simp only[]at h);case i k m=>
    obtain⟨⟨g,j,F,hl⟩,E⟩:=h;obtain⟨G,c⟩:=base g j;have u:=oG (l:=m.toNat) (h:=n) c om (aY _);rw[←j,iH]at u;exact fin_same hm hF (run _ m.toNat n G (.inr (M k m y C.dU F)) (.inl ⟨rfl,rfl⟩) om (aY _)) (by simpa using u) E
  ·have C:=hρ y y' hy;have h4:=hρ z J hz;cases I:ρ y'<;>rw[I]at h C<;>(try simp only[]at h);case i k m=>
    cases O:ρ J<;>rw[O]at h h4<;>(try simp only[]at h);case i k2 N=>
     obtain⟨⟨g,j,F,hl,hl2⟩,E⟩:=h;obtain⟨G,c⟩:=base g j;have u:=oG (l:=m.toNat) (h:=N.toNat) c om om;exact fin_same hm hF (run _ m.toNat N.toNat G (.inr (M k m y C.dU F)) (.inr (M k2 N z h4.dU om)) om om) (by simpa using u) E
end ops
section
variable {w0 w w':World} {H0:HS} {H:Nat→Prop} {ov:Nat→Option Value} {ob:Nat→Option Ob}
def je(ob:Nat→Option Ob)(up:List (Nat×Option Ob)):Prop:=∀k x,(k,x)∈up→∃o,ob k=some o∧x=some {o with mu:=false}
theorem je.nil:je ob []:=fun _ _ h=>by cases h
theorem je.append{u1 a:List (Nat×Option Ob)}(h1:je ob u1)(h2:je ob a):je ob (u1++a):=fun k x h=>(nC.1 h).elim (h1 k x) (h2 k x)
theorem jk(v:V):je ob (jA ob v):=by
 intro k x h;cases v<;>simp only[jA]at h<;>(try cases h);all_goals
  split at h
  ·rename_i o a;simp only[l_,Prod.mk.injEq]at h;obtain⟨rfl,rfl⟩:=h;exact⟨o,a,rfl⟩
  ·cases h
theorem mO{α:Type}(l:List α)(f:α→V):je ob (l.flatMap fun p=>jA ob (f p)):=by
 intro k x h;obtain⟨p,_,a⟩:=nN.1 h;exact jk _ k x a
theorem qI(up:List (Nat×Option Ob))(i:Nat):(upd ob up i=ob i∧∀x,(i,x) ∉ up)∨(i,upd ob up i)∈up:=by
 induction up with
 |nil=>exact .inl ⟨rfl,fun _ h=>by cases h⟩
 |cons p r c=>
  obtain⟨k,v⟩:=p;simp only[upd];split
  ·rename_i a;subst a;exact .inr (jM)
  ·rename_i a;rcases c with ⟨g,f⟩|h
   ·refine .inl ⟨g,fun x h=>?_⟩;rcases dZ.1 h with e|h
    ·cases e;exact a rfl
    ·exact f x h
   ·exact .inr (jD _ h)
variable{o:Ob}{id:Nat}
theorem ji.lt{O:Nat→Prop}{v:Value}(h:ji w H O ov v o){b:Nat}(hb:blk v=some b):O b∧b<w.heap.size:=by
 refine⟨h.ow b hb,?_⟩;rcases h.bd with ⟨_,⟨f,cur,rfl,c,a,_⟩|⟨_,n,xs,hown,_⟩⟩|⟨_,_,n,xs,hown,_⟩
 ·cases hb;exact(pW.1 a).1
 ·rcases hown.2 with ⟨rfl,_⟩|⟨g,cap,cur,rfl,c,a,_⟩
  ·cases hb
  ·cases hb;exact(pW.1 a).1
 ·rcases hown.2 with ⟨rfl,_⟩|⟨g,cap,cur,rfl,c,a,_⟩
  ·cases hb
  ·cases hb;exact(pW.1 a).1
theorem Mem.freeze(hm:Mem w0 H0 w H ov ob){up:List (Nat×Option Ob)}(G:je ob up):
 ∃H':Nat→Prop,Ext w H ov w H' ov∧Mem w0 H0 w H' ov (upd ob up)∧(∀k x u b,(k,x)∈up→ov k=some u→blk u=some b→H' b)∧
  (∀b,H' b→H b∨∃k x u,(k,x)∈up∧ov k=some u∧blk u=some b):=by
 have alive:∀i o,upd ob up i=some o→∃C,ob i=some C∧((o=C∧∀x,(i,x) ∉ up)∨(o={C with mu:=false}∧∃x,(i,x)∈up)):=fun i o h=>by
  rcases qI (ob:=ob) up i with ⟨l,A⟩|l
  ·exact⟨o,l▸h,.inl ⟨rfl,A⟩⟩
  ·obtain⟨C,z,e⟩:=G _ _ l;rw[h]at e;exact⟨C,z,.inr ⟨dS e,_,l⟩⟩
 refine⟨fun b=>H b∨∃k x u,(k,x)∈up∧ov k=some u∧blk u=some b,⟨fun b h=> .inl h,fun _ _=>rfl,fun _ _ h=>h⟩,⟨hm.bel,hm.tj.mono (fun _ h=> .inl h) (fun _ _=>rfl),?_,?_,?_,?_⟩,fun k x u b l A F=> .inr ⟨k,x,u,l,A,F⟩,fun b h=>h⟩
 ·rintro b (h|⟨k,x,u,l,A,F⟩)
  ·exact hm.Bo b h
  ·obtain⟨o,M,_⟩:=G _ _ l;obtain⟨U,c,m⟩:=hm.obj k o M;rw[A]at c;cases c;exact(m.lt F).2
 ·rintro b (h|⟨k,x,u,l,A,F⟩) hb
  ·exact hm.low b h hb
  ·obtain⟨o,M,_⟩:=G _ _ l;obtain⟨U,c,m⟩:=hm.obj k o M;rw[A]at c;cases c;rcases(m.lt F).1 with Y|Y
   ·omega
   ·exact .inr Y
 ·intro i o hi;obtain⟨C,z,hc⟩:=alive i o hi;obtain⟨u,c,m⟩:=hm.obj i C z;refine⟨u,c,?_⟩;have mono:∀{xs:List Value} {cs:List V},aB w H xs cs→aB w (fun b=>H b∨∃k x u,(k,x)∈up∧ov k=some u∧blk u=some b) xs cs:=fun h=>h.mono (fun b h=> .inl h) (fun _ _=>rfl)
  have RZ:∀{xs:List Value} {cs:List V},ug w H ov xs cs→ug w (fun b=>H b∨∃k x u,(k,x)∈up∧ov k=some u∧blk u=some b) ov xs cs:=fun h=>h.mono ⟨fun b h=> .inl h,fun _ _=>rfl,fun _ _ h=>h⟩
  rcases hc with ⟨rfl,N⟩|⟨rfl,x,hx⟩
  ·refine⟨m.Ea,m.ow,fun b hb=>⟨fun h=>?_,fun h=> .inl ((m.fz b hb).2 h)⟩,?_⟩
   ·rcases h with h|⟨k,x,U,l,A,F⟩
    ·exact(m.fz b hb).1 h
    ·obtain⟨ok,L,_⟩:=G _ _ l;exact absurd F (hm.sep i k _ _ _ _ b (fun e=>N x (e▸l)) z L c A hb)
   ·rcases m.bd with ⟨y,⟨b,cur,E,T,Q,a⟩|⟨f,n,xs,hown,a,g⟩⟩|⟨y,f,n,xs,hown,a,g⟩
    ·exact .inl ⟨y,.inl ⟨b,cur,E,T,Q,RZ a⟩⟩
    ·exact .inl ⟨y,.inr ⟨f,n,xs,hown,RZ a,g⟩⟩
    ·exact .inr ⟨y,f,n,xs,hown,mono a,g⟩
  ·refine⟨m.Ea,m.ow,fun b hb=>⟨fun _=>rfl,fun _=> .inr ⟨i,x,u,hx,c,hb⟩⟩,?_⟩;rcases m.bd with ⟨y,⟨b,cur,E,T,Q,a⟩|⟨f,n,xs,hown,a,g⟩⟩|⟨y,f,n,xs,hown,a,g⟩
   ·exact .inl ⟨y,.inl ⟨b,cur,E,T,Q,RZ a⟩⟩
   ·exact .inl ⟨y,.inr ⟨f,n,xs,hown,RZ a,g⟩⟩
   ·exact .inr ⟨y,f,n,xs,hown,mono a,g⟩
 ·intro i j oi oj vi Z b P hi hj;obtain⟨J,hi',_⟩:=alive i oi hi;obtain⟨I,O,_⟩:=alive j oj hj;exact hm.sep i j J I vi Z b P hi' O
theorem ry(hm:Mem w0 H0 w H ov ob){v:Value}{x:V}{sz:Nat}(P:0<sz)(O:Rep w H ov v x)(A:okR ob x)(c:(rd ob sz x).aP=true∨(rd ob sz x).cell=true){H':Nat→Prop}(Y:∀b,H b→H' b)
 (M:∀k y u b,(k,y)∈jA ob x→ov k=some u→blk u=some b→H' b):Rep0 w H' v (rd ob sz x):=by
 have row:∀(j off n:Nat) (o:Ob) (u:Value) (ba:Option Addr) (cap:Nat),ob j=some o→o.pg=false→ov j=some u→(∀b,blk u=some b→H' b)→v= .slice ba n cap→n≤maxLen→n≤cap→off+n*o.sz≤o.cs.length→
  (n=0∨∃b,blk u=some b∧ba=some ⟨b,off,none⟩)→Rep0 w H' v (.l o.sz ((o.cs.drop off).take (n*o.sz))):=by
  intro j off n o u ba cap E GV U T F C f hle N
  obtain⟨u',z,I⟩:=hm.obj j o E
  rw[U]at z;cases z
  have MO:0<o.sz:=by
   rcases I.bd with ⟨h,_⟩|⟨_,h,_⟩
   ·rw[GV]at h;cases h
   ·exact h
  subst F
  have hlen:((o.cs.drop off).take (n*o.sz)).length=n*o.sz:=by simp;omega
  rcases N with rfl|⟨b,hb,rfl⟩
  ·simp only[iT,List.take_zero];exact .l ba 0 cap o.sz [] (fun _=>undef) 0 0 MO sy (aG _) f (.inl rfl) (fun j G=>by simp at G) (fun j x J=>by simp at J)
  ·obtain⟨us,h1,h2,h3⟩:=hm.row E (xe GV) hle U hb;refine .l _ n cap o.sz _ (fun j=>us.getD j undef) b off MO hlen C f (.inr ⟨rfl,T b hb⟩) (fun j G=>?_) (fun j x J=>?_)
   ·rw[hlen]at G;have L:j<us.length:=om;rw[h2 j us[j] (bC L)];simp[List.getD,bC L]
   ·have G:j<us.length:=by
     have:=(iR.1 J).1;rw[hlen]at this;omega
    have:=h3.2 j us[j] x (bC G) J;simp only[List.getD,bC G,jJ];exact this.mono Y (fun _ _=>rfl)
 cases x with
 |ow s j n=>
  obtain⟨ba,cap,rfl,E,C,f,N⟩:=O.jK;simp only[rd]at c ⊢;cases a:ob j with
  |none=>rw[a]at c;simp[V.aP,V.cell]at c
  |some o=>
   rw[a]at c;simp only[]at c ⊢;cases F:o.pg with
   |true=>rw[F]at c;simp[V.aP,V.cell]at c
   |false=>
    simp only[aJ,if_false];obtain⟨u',z,I⟩:=hm.obj j o a;rw[E]at z;cases z;have hn:o.cs.length=n*o.sz:=by
     rcases I.bd with ⟨h,_⟩|⟨_,_,m,xs,hown,Q,_⟩
     ·rw[F]at h;cases h
     ·have e:m=n:=by
       rcases hown.2 with ⟨h,h'⟩|⟨g,Z,cur,h,_⟩
       ·cases h;exact h'
       ·cases h;rfl
      rw[←Q.1,hown.1,e]
    have:=row j 0 n o _ ba cap a F E (fun b hb=>M j (some {o with mu:=false}) _ b (by simp[jA,a]) E hb) rfl C f om (N.imp id fun⟨b,e⟩=>⟨b,by rw[e];rfl,e⟩);rw[List.drop_zero,←hn,iH]at this;exact this
 |sl s j off n=>
  obtain⟨ba,cap,u,rfl,C,f,E,N⟩:=O.sN;simp only[rd]at c ⊢;simp only[okR]at A;cases a:ob j with
  |none=>rw[a]at A;exact A.elim
  |some o=>
   rw[a]at c A;simp only[]at c ⊢;cases F:o.pg with
   |true=>rw[F]at c;simp[V.aP,V.cell]at c
   |false=>
    simp only[aJ,if_false];exact row j off n o u ba cap a F E (fun b hb=>M j (some {o with mu:=false}) _ b (by simp[jA,a]) E hb) rfl C f A N
 |nl=>
  rw[O.rq];exact .l none 0 0 sz [] (fun _=>undef) 0 0 P sy (aG _) (aY _) (.inl rfl) (fun j G=>by simp at G) (fun j x J=>by simp at J)
 |pt i k=>simp[rd,V.aP,V.cell]at c
 |tw sz i n rs=>simp[rd,V.aP,V.cell]at c
 |_=>
  cases O with
  |base h=>exact h.mono Y (fun _ _=>rfl)
theorem Mem.step(hm:Mem w0 H0 w H ov ob){row:Option Nat}(hbel:bT w0 H0.e w')(G:w.heap.size≤w'.heap.size)(N:∀k,k<w.heap.size→some k≠row→w'.heap[k]? =w.heap[k]?)
 (Y:∀b,H b→some b≠row) {ob':Nat→Option Ob} {jZ:Nat→Option Value} (a:∀i v,ov i=some v→jZ i=some v)
 (hob:∀i o,ob' i=some o→(ob i=some o∧∀u b,ov i=some u→blk u=some b→some b≠row)∨
   (∃v,jZ i=some v∧ji w' H (Ow w0 H0) jZ v o∧∀j m C b,j≠i→ob' j=some m→jZ j=some C→blk v=some b→blk C≠some b)):
 Ext w H ov w' H jZ∧Mem w0 H0 w' H jZ ob':=by
 have F:∀b,H b→w'.heap[b]? =w.heap[b]? :=fun b hb=>N b (hm.Bo b hb) (Y b hb)
 refine⟨⟨fun _ h=>h,F,a⟩,⟨hbel,hm.tj.mono (fun _ h=>h) F,fun b hb=>eu (hm.Bo b hb) G,hm.low,fun i o hi=>?_,?_⟩⟩
 ·rcases hob i o hi with ⟨c,A⟩|⟨v,c,A,_⟩
  ·obtain⟨u,J,L⟩:=hm.obj i o c;exact⟨u,a i u J,L.mono a (fun _ h=>h) F (fun b hb=>N b (L.lt hb).2 (A u b J hb)) (fun b _ h=>h)⟩
  ·exact⟨v,c,A⟩
 ·intro i j E m P C b l hi M g f hb;rcases hob i E hi with ⟨c,A⟩|⟨v,c,A,Z⟩
  ·rcases hob j m M with ⟨k1,k2⟩|⟨v',k1,k2,U⟩
   ·obtain⟨T,z,_⟩:=hm.obj i E c;obtain⟨Q,y,_⟩:=hm.obj j m k1;have e1:=a i T z;have O:=a j Q y;rw[g]at e1;rw[f]at O;cases e1;cases O;exact hm.sep i j E m _ _ b l c k1 z y hb
   ·rw[f]at k1;cases k1;exact fun I=>U i E P b l hi g I hb
  ·rw[g]at c;cases c;exact Z j m C b (fun e=>l e.symm) M f hb
def zF(ov:Nat→Option Value)(id:Nat)(v:Value):Nat→Option Value:=fun i=>if i=id then some v else ov i
theorem iq(id:Nat)(v:Value):zF ov id v id=some v:=by simp[zF]
theorem sQ{v:Value}(hid:ov id=none):∀i u,ov i=some u→zF ov id v i=some u:=fun i u h=>by
 unfold zF;split
 ·rename_i e;subst e;rw[hid]at h;cases h
 ·exact h
theorem kY{v:Value}:∀i,i≠id→ov i=none→zF ov id v i=none:=fun i c a=>by simp[zF,c,a]
theorem Mem.add(hm:Mem w0 H0 w H ov ob)(hid:ov id=none)(hob:ob id=none)(hb:Below w.heap.size w w'){v:Value}(z:∀jZ,ji w' H (Ow w0 H0) jZ v o)(hnew:∀b,blk v=some b→w.heap.size≤b):
 Ext w H ov w' H (zF ov id v)∧Mem w0 H0 w' H (zF ov id v) (upd ob [(id,some o)]):=by
 refine hm.step (row:=none) (hm.bel.after hb) hb.size (fun k A _=>hb.block k A) (fun _ _=>sy) (sQ hid) fun i G hi=>?_
 by_cases e:i=id
 ·subst e;right;simp only[upd,if_true,fU]at hi;subst hi;refine⟨v,iq i v,z _,fun j m F b C a c g l=>?_⟩;have I:=hnew b g;simp only[upd,ah (fun e=>C e.symm:¬i=j)]at a;obtain⟨u,y,f⟩:=hm.obj j m a;have:=sQ (v:=v) hid j u y;rw[c]at this;cases this;have:=(f.lt l).2;omega
 ·left;simp only[upd,ah (fun E=>e E.symm:¬id=i)]at hi;exact⟨hi,fun _ _ _ _=>sy⟩
theorem mP{α:Type}:∀(vs cs:List α) (k:Nat),(setAt cs k vs).length=cs.length
 |[],cs,k=>rfl
 |v::r,cs,k=>by simp[setAt,mP r]
theorem Em:∀(us:List Value) (xs:List V) (vs:List Value) (cs:List V) (k:Nat),aB w H us xs→aB w H vs cs→aB w H (setAt vs k us) (setAt cs k xs)
 |[],[],vs,cs,k,_,h=>h
 |[],_::_,_,_,_,h,_=>by have:=h.1;simp at this
 |_::_,[],_,_,_,h,_=>by have:=h.1;simp at this
 |u::us,x::xs,vs,cs,k,h,f=>by
  refine Em us xs _ _ (k+1) ⟨by simpa using h.1,fun j v y a c=>h.2 (j+1) v y (by simpa using a) (by simpa using c)⟩ ⟨by simp[f.1],fun j v y a c=>?_⟩;rw[List.getElem?_set]at a c;by_cases e:k=j
  ·subst e;rw[au rfl]at a c;split at a
   ·rename_i hl;rw[au (by rw[←f.1];exact hl)]at c;cases a;cases c;exact h.2 0 _ _ rfl rfl
   ·cases a
  ·rw[ah e]at a c;exact f.2 j v y a c
theorem GX:∀(us:List Value) (xs:List V) (vs:List Value) (cs:List V) (k:Nat),ug w H ov us xs→ug w H ov vs cs→ug w H ov (setAt vs k us) (setAt cs k xs)
 |[],[],vs,cs,k,_,h=>h
 |[],_::_,_,_,_,h,_=>by have:=h.1;simp at this
 |_::_,[],_,_,_,h,_=>by have:=h.1;simp at this
 |u::us,x::xs,vs,cs,k,h,f=>by
  refine GX us xs _ _ (k+1) ⟨by simpa using h.1,fun j v y a c=>h.2 (j+1) v y (by simpa using a) (by simpa using c)⟩ ⟨by simp[f.1],fun j v y a c=>?_⟩;rw[List.getElem?_set]at a c;by_cases e:k=j
  ·subst e;rw[au rfl]at a c;split at a
   ·rename_i hl;rw[au (by rw[←f.1];exact hl)]at c;cases a;cases c;exact h.2 0 _ _ rfl rfl
   ·cases a
  ·rw[ah e]at a c;exact f.2 j v y a c
theorem xO{α:Type}(p:α→Prop):∀(vs cs:List α) (k:Nat),(∀x,x∈cs→p x)→(∀x,x∈vs→p x)→∀x,x∈setAt cs k vs→p x
 |[],cs,k,h,_,x,c=>h x c
 |v::r,cs,k,h,g,x,c=>xO p r (cs.set k v) (k+1) (fun y a=>by
   rcases List.mem_or_eq_of_mem_set a with f|f
   ·exact h y f
   ·subst f;exact g _ (jM)) (fun y a=>g y (jD _ a)) x c
end
section
variable {P:Program} {w0 w w':World} {H0:HS} {H:Nat→Prop} {ov:Nat→Option Value} {ob:Nat→Option Ob}
theorem O1(v:Value):Rep0 w H v (cS v):=by
 unfold cS;split
 ·exact .i _ _
 ·exact .b _
 ·exact .s _
 ·exact .l none 0 0 1 [] (fun _=>undef) 0 0 dc sy (aG _) (aY _) (.inl rfl) (fun j g=>by simp at g) (fun j x a=>by simp at a)
 ·exact .f _ _ Wp
 ·exact .f _ _ FI_1
 ·exact .z _ _ _ _ Wp Wp
 ·exact .z _ _ _ _ FI_1 Wp
 ·exact .z _ _ _ _ Wp FI_1
 ·exact .c _
theorem Eo(vs:List Value):aB w H vs (vs.map cS):=by
 refine⟨sy,fun j v x c a=>?_⟩;rw[iU,c]at a;simp only[kZ,fU]at a;subst a;exact O1 v
theorem jl{cs:List V}(h:cs.all V.cell=true):∀x,x∈cs→x.cell=true:=fun x a=>dh.1 h x a
variable{y:V}{sz e:Nat}
theorem xg(h:y.cells.all V.cell=true):y.aP=true∨y.cell=true:=by
 cases y<;>first|exact .inl rfl|(right;simpa[V.cells]using h)
theorem Aw{v:Value}(h:Rep0 w H v y)(z:y.cells.all V.cell=true):aB w H v.cells.toList y.cells:=by
 have one:y.cell=true→y.cells=[y]→aB w H v.cells.toList y.cells:=fun f e=>by
  have a:=h.oneCell f;have A:v.cells=#[v]:=by cases v<;>first|rfl|(simp[Value.oneCell']at a)
  rw[e,A];refine⟨rfl,fun j u x a c=>?_⟩;cases j with
  |zero=>simp at a c;subst a;subst c;exact h
  |succ j=>simp at a
 cases y with
 |g cs=>
  cases h with
  |g C cs m l=>exact⟨by simpa[Value.cells,V.cells]using m,by simpa[Value.cells,V.cells]using l⟩
 |_=>first|exact one rfl rfl|(exact one (by simpa[V.cells]using z) rfl)
theorem MP{α:Type}:∀(us xs:List α) (k:Nat),k+us.length≤xs.length→setAt xs k us=xs.take k++us++xs.drop (k+us.length)
 |[],xs,k,_=>by simp[setAt]
 |u::us,xs,k,h=>by
  have a:k<xs.length:=by simp at h;omega
  rw[setAt,MP us (xs.set k u) (k+1) (by simp at h ⊢;omega)];have e1:(xs.set k u).take (k+1)=xs.take k++[u]:=by
   rw[y7 (by simpa using a)];simp[List.take_set_of_le]
  have c:(xs.set k u).drop (k+1+us.length)=xs.drop (k+(us.length+1)):=by
   rw[List.drop_set_of_lt om];congr 1;omega
  rw[e1,c];simp
theorem BU{α:Type}:∀(us xs:List α) (k m:Nat),(setAt xs k us).take m=setAt (xs.take m) k us
 |[],xs,k,m=>rfl
 |u::us,xs,k,m=>by rw[setAt,setAt,BU us,List.take_set]
theorem Mem.store(hm:Mem w0 H0 w H ov ob){j k:Nat}{o:Ob}{u:Value}{b:Nat}(ho:ob j=some o)(hmu:o.mu=true)(hu:ov j=some u)(hb:blk u=some b){us:List Value}{G:List V}(Y:ug w H ov us G)(F:∀x,x∈G→x.cell=true∨(CU o=true∧isRef x=true))(hk:k+G.length≤o.cs.length):
 ∃w',(storeCells ⟨b,k,none⟩ us).run P w= .ok () w'∧Ext w H ov w' H ov∧Mem w0 H0 w' H ov (upd ob [(j,some {o with cs:=setAt o.cs k G})]):=by
 obtain⟨u',hu',a⟩:=hm.obj j o ho
 rw[hu]at hu';cases hu'
 have Ui:¬H b:=fun h=>by have:=(a.fz b hb).1 h;rw[hmu]at this;cases this
 have I:∀v∈us,v.oneCell'=true:=fun v M=>by
  obtain⟨i,hi,rfl⟩:=vU M;have hi':i<G.length:=by rw[←Y.1];exact hi
  have L:=Y.2 i _ _ (bC hi) (bC hi');rcases F _ (uP hi')with I|⟨_,I⟩
  ·exact(L.down I).oneCell I
  ·generalize G[i]=y at L I;cases y<;>first|(simp[isRef]at I;done)|(obtain⟨_,_,e,_⟩:=L.jK;rw[e];rfl)|(obtain⟨_,_,_,e,_⟩:=L.sN;rw[e];rfl)|(rw[L.rq];rfl)
 have hB:=a.lt hb
 have hblk:∃cur,w.heap[b]? =some (.cells cur o.e (0,0))∧o.cs.length≤cur.size∧
  (∀m,(∀h:Nat,h≠b→m.heap[h]? =w.heap[h]?)→m.heap[b]? =some (.cells (setAt cur.toList k us).toArray o.e (0,0))→ji m H (Ow w0 H0) ov u {o with cs:=setAt o.cs k G}):=by
  rcases a.bd with ⟨M,⟨b',cur,rfl,hBb,J,f⟩|⟨N,n,xs,hown,f,O⟩⟩|⟨M,N,n,xs,hown,f,O⟩
  ·cases hb;refine⟨cur,J,by rw[←f.1];simp,fun m Z z=>⟨xO (fun x=>x.cell=true∨(CU o=true∧isRef x=true)) _ _ _ a.Ea F,a.ow,a.fz,.inl ⟨M,.inl ⟨b',_,rfl,hBb,z,?_⟩⟩⟩⟩;have e:=GX us G cur.toList o.cs k Y f;exact e.mono ⟨fun _ h=>h,fun c T=>Z c (fun e=>Ui (e▸T)),fun _ _ h=>h⟩
  ·rcases hown.2 with ⟨rfl,_⟩|⟨g,cap,cur,rfl,U,J,C,Q,E,htake⟩
   ·cases hb
   ·cases hb;refine⟨cur,J,?_,fun m Z z=>⟨xO (fun x=>x.cell=true∨(CU o=true∧isRef x=true)) _ _ _ a.Ea F,a.ow,a.fz,.inl ⟨M,.inr ⟨N,n,setAt xs k us,⟨by rw[mP];exact hown.1,.inr ⟨g,cap,_,rfl,U,z,C,Q,?_,?_⟩⟩,?_,O⟩⟩⟩⟩
    ·rw[←f.1,hown.1,E];exact kF _ C
    ·simp[mP,E]
    ·show(setAt cur.toList k us).take (n*o.sz)=_;rw[BU,htake]
    ·have e:=GX us G xs o.cs k Y f;exact e.mono ⟨fun _ h=>h,fun c T=>Z c (fun e=>Ui (e▸T)),fun _ _ h=>h⟩
  ·rcases hown.2 with ⟨rfl,_⟩|⟨g,cap,cur,rfl,U,J,C,Q,E,htake⟩
   ·cases hb
   ·cases hb;refine⟨cur,J,?_,fun m Z z=>⟨xO (fun x=>x.cell=true∨(CU o=true∧isRef x=true)) _ _ _ a.Ea F,a.ow,a.fz,.inr ⟨M,N,n,setAt xs k us,⟨by rw[mP];exact hown.1,.inr ⟨g,cap,_,rfl,U,z,C,Q,?_,?_⟩⟩,?_,O⟩⟩⟩
    ·rw[←f.1,hown.1,E];exact kF _ C
    ·simp[mP,E]
    ·show(setAt cur.toList k us).take (n*o.sz)=_;rw[BU,htake]
    ·have e:=Em us G xs o.cs k (Y.all fun x L=>(F x L).resolve_right fun h=>by rw[xe M]at h;cases h.1) f;exact(e.mono (fun _ h=>h) fun c T=>Z c (fun e=>Ui (e▸T)))
 obtain⟨cur,J,hle,hfin⟩:=hblk
 have hkl:k+us.length≤cur.size:=by have:=Y.1;omega
 have hrun:=run_storeCells_at P b k o.e us 0 cur w J (by simpa using hkl) I
 simp only[ik]at hrun
 have e:(cur.toList.take k++us++cur.toList.drop (k+us.length))=setAt cur.toList k us:=(MP us cur.toList k (by simpa using hkl)).symm
 rw[e]at hrun
 refine⟨_,hrun,?_⟩
 have hoth:∀h:Nat,h≠b→(w.setRow b (setAt cur.toList k us).toArray).heap[h]? =w.heap[h]? :=fun h A=>setRow_other w b h _ A
 have hsame:=setRow_heap w b cur (setAt cur.toList k us).toArray o.e (0,0) J
 have hsize:(w.setRow b (setAt cur.toList k us).toArray).heap.size=w.heap.size:=by simp[World.setRow]
 refine hm.step (row:=some b) ?_ (Nat.le_of_eq hsize.symm) (fun h _ A=>hoth h (fun e=>A (by rw[e]))) (fun c T e=>Ui (by cases e;exact T)) (fun _ _ h=>h) fun i oi hi=>?_
 ·exact hm.bel.chg hB.1 rfl rfl rfl (Nat.le_of_eq hsize.symm) (fun k _ A=>hoth k A)
 ·by_cases e:i=j
  ·subst e;right;simp only[upd,if_true,fU]at hi;subst hi;refine⟨u,hu,hfin _ hoth hsame,fun l ol vl c hl hol hvl hbc=>?_⟩;simp only[upd,ah (fun e=>hl e.symm:¬i=l)]at hol;exact hm.sep i l o ol u vl c (fun e=>hl e.symm) ho hol hu hvl hbc
  ·left;simp only[upd,ah (fun e'=>e e'.symm:¬j=i)]at hi;refine⟨hi,fun u' c I h2 e'=>?_⟩;cases e';exact hm.sep i j oi o u' u _ e hi ho I hu h2 hb
theorem rC(ob:Nat→Option Ob)(u1 a:List (Nat×Option Ob)):upd (upd ob a) u1=upd ob (u1++a):=by
 funext i;induction u1 with
 |nil=>rfl
 |cons p r c=>obtain⟨k,v⟩:=p;simp only[tZ,upd];split<;>first|rfl|exact c
theorem vC{t:TypeId}{MM:Nat}{z:List V}(h:Eh P t=some (sz,MM,z)):
 ∃i v,P.info? t=some i∧i.zero=some v∧i.size=sz∧i.bytes=MM∧z=v.cells.toList.map cS∧v.cells.size=sz∧0<sz∧z.all V.cell=true:=by
 unfold Eh at h
 split at h
 ·rename_i i hi;split at h
  ·rename_i v c;split at h
   ·rename_i a;simp only[fU,Prod.mk.injEq]at h;obtain⟨rfl,rfl,rfl⟩:=h;exact⟨i,v,hi,c,rfl,rfl,rfl,a.1,a.2.1,a.2.2⟩
   ·cases h
  ·cases h
 ·cases h
theorem own0{B:Nat}{e:TypeId}{v:Value}{n:Nat}{xs:List Value}(h:w.ownsRow B e sz v n xs):w.ownsRow 0 e sz v n xs:=
 ⟨h.1,h.2.imp (fun h=>h) fun⟨g,cap,cur,e1,_,r⟩=>⟨g,cap,cur,e1,aG _,r⟩⟩
theorem ownB{B:Nat}{e:TypeId}{v:Value}{n:Nat}{xs:List Value}(h:w.ownsRow 0 e sz v n xs)(hb:∀b,blk v=some b→B≤b):w.ownsRow B e sz v n xs:=
 ⟨h.1,h.2.imp (fun h=>h) fun⟨g,cap,cur,e1,_,r⟩=>⟨g,cap,cur,e1,hb g (by rw[e1];rfl),r⟩⟩
theorem ji.row{B:Nat}{O:Nat→Prop}{v:Value}{n:Nat}{xs:List Value}{cs:List V}(hown:w.ownsRow B e sz v n xs)(a:0<sz)(g:aB w H xs cs)(c:∀x,x∈cs→x.cell=true)(j:n≤maxLen)(m:∀b,blk v=some b→¬H b)(l:∀b,blk v=some b→O b):
 ∀jZ,ji w H O jZ v {e,sz,cs,mu:=true,pg:=false}:=fun jZ=>
 ⟨fun x f=> .inl (c x f),l,fun b hb=>⟨fun h=>absurd h (m b hb),fun h=>by cases h⟩,.inr ⟨rfl,a,n,xs,own0 hown,g,j⟩⟩
theorem uF{B n id:Nat}{v:Value}{xs:List Value}{jZ:Nat→Option Value}(hown:w.ownsRow B e sz v n xs)(f:n≤maxLen)(c:jZ id=some v):Rep w H jZ v (.ow sz id n):=by
 rcases hown.2 with ⟨rfl,rfl⟩|⟨g,cap,cur,rfl,_,_,a,_⟩
 ·exact .ow sz id 0 0 none f (aY _) (.inl rfl) c
 ·exact .ow sz id n cap _ f a (.inr ⟨g,rfl⟩) c
theorem R_{B n:Nat}{v:Value}{xs:List Value}(hown:w.ownsRow B e sz v n xs){b:Nat}(hb:blk v=some b):v.ownBlock=some b:=by
 rcases hown.2 with ⟨rfl,rfl⟩|⟨g,cap,cur,rfl,_⟩
 ·cases hb
 ·exact hb
end
section ops
variable {P:Program} {w0 w:World} {H0:HS} {H:Nat→Prop} {ov:Nat→Option Value} {ob:Nat→Option Ob} {id:Nat} {ρ:X→V} {a:Act} {o:Oper} {K:Act→World→Prop} {Q:Exit→Act→World→Prop}
 {R:V→List (Nat×Option Ob)→Prop}
variable (hm:Mem w0 H0 w H ov ob) (hρ:∀p x,cX p=some x→Rep w H ov (a.eval p) (ρ x)) (hF:Fin w0 H0 w H ov ob id R a o.dst K) (hid:ov id=none) (hob:ob id=none)
include hm hρ hF hid hob
variable{t e:TypeId}{p x:Operand}{sz MM:Nat}{p' x':X}{ti:TypeInfo}
omit hid hob in
theorem s_st(z:o.op= .store t p x)(M:cX p=some p')(l:cX x=some x')(hi:P.info? t=some ti)
 (h:ev (fun _ _ _=>False) (fun _ _ _=>False) ρ ob id R (.st ti.size p' x')):o.wp P a w K Q:=by
 have H:=hρ p p' M
 have T:=hρ x x' l
 simp only[ev]at h
 cases J:ρ p'<;>rw[J]at h H<;>(try simp only[]at h)
 case pt j k=>
  obtain⟨b,u,e,L,hb⟩:=H.uD;cases c:ob j with
  |none=>rw[c]at h;exact h.elim
  |some I=>
   rw[c]at h;obtain⟨⟨A,E,C,hlen,N,hall⟩,O⟩:=h;obtain⟨H1,kJ,F,G,_⟩:=hm.freeze (jk (ob:=ob) (ρ x'));have y:=ry hm (sz:=1) dc T A (xg hall) kJ.hH G;have hcells:=Aw y hall;have f:upd ob (jA ob (ρ x')) j=some I:=by
    rcases qI (ob:=ob) (jA ob (ρ x')) j with ⟨e1,_⟩|U
    ·rw[e1];exact c
    ·have:=dh.1 C _ U;simp at this
   obtain⟨w',hrun,Dj,g⟩:=F.store (P:=P) f E L hb hcells.cs (fun x l=> .inl (jl hall x l)) (by rw[hlen];exact N);rw[rC]at g;have m:(a.eval x).cells.size=ti.size:=by
    have:=hcells.1;simp only[Array.length_toList]at this;rw[this,hlen]
   unfold Oper.wp;have:(execOp a.eval o).run P w= .ok .skip w':=by
    simp[execOp,z,e,Instr.storeAt,Instr.sureAddr,storeVar,sizeOf,typeInfo,hi,m,hrun]
   rw[this];exact hF _ _ undef w' H1 ov O (kJ.trans Dj) (fun _ _ h=>h) g .un
omit hid hob in
theorem s_stk(C:o.op= .store t p x)(U:cX p=some p')(N:cX x=some x')(hi:P.info? t=some ti)(h1s:ti.size=1)
 (h:ev (fun _ _ _=>False) (fun _ _ _=>False) ρ ob id R (.stk p' x')):o.wp P a w K Q:=by
 have M:=hρ p p' U
 have l:=hρ x x' N
 simp only[ev]at h
 cases O:ρ p'<;>rw[O]at h M<;>(try simp only[]at h)
 case pt j k=>
  obtain⟨b,u,e,T,hb⟩:=M.uD;cases f:ob j with
  |none=>rw[f]at h;exact h.elim
  |some oo=>
   rw[f]at h;obtain⟨⟨A,g,E,Y⟩,Z⟩:=h;have z:∃ba n c,a.eval x= .slice ba n c:=by
    generalize ρ x'=y at l g;cases y<;>first|(simp[isRef]at g;done)|(obtain⟨ba,c,e,_⟩:=l.jK;exact⟨_,_,_,e⟩)|(obtain⟨ba,c,_,e,_⟩:=l.sN;exact⟨_,_,_,e⟩)|exact⟨_,_,_,l.rq⟩
   obtain⟨ba,n,c,ex⟩:=z;have G:ug w H ov [a.eval x] [ρ x']:=⟨rfl,fun i v y L h4=>by
    cases i with
    |zero=>cases L;cases h4;exact l
    |succ i=>simp at L⟩
   obtain⟨w',hrun,kJ,F⟩:=hm.store (P:=P) f E T hb G (fun y J=>by rw[l_]at J;subst J;exact .inr ⟨A,g⟩) Y;have m:(a.eval x).cells.size=ti.size:=by rw[ex,h1s];rfl
   have I:(a.eval x).cells.toList=[a.eval x]:=by rw[ex];rfl
   unfold Oper.wp;have:(execOp a.eval o).run P w= .ok .skip w':=by
    rw[←I]at hrun;simp[execOp,C,e,Instr.storeAt,Instr.sureAddr,storeVar,sizeOf,typeInfo,hi,m,hrun]
   rw[this];exact hF _ _ undef w' H ov Z kJ (fun _ _ h=>h) F .un
variable{z:List V}
omit hρ in
theorem s_al(g:o.op= .alloc t)(ht:Eh P t=some (sz,MM,z))
 (h:ev (fun _ _ _=>False) (fun _ _ _=>False) ρ ob id R (.al t z)):o.wp P a w K Q:=by
 obtain⟨i,v,hi,hz,y,hb,rfl,u,hpos,hall⟩:=vC ht
 simp only[ev]at h
 have l:Below w.heap.size w (w.alloc (.cells v.cells t)):=(Below.refl _ _).alloc (aY _) _
 have c:aB (w.alloc (.cells v.cells t)) H v.cells.toList (v.cells.toList.map cS):=Eo _
 have f:∀jZ,ji (w.alloc (.cells v.cells t)) H (Ow w0 H0) jZ (.pointer (some ⟨w.heap.size,0,none⟩)) {e:=t,sz:=(v.cells.toList.map cS).length,cs:=v.cells.toList.map cS,mu:=true,pg:=true}:=fun jZ=>
  ⟨fun x m=> .inl (jl hall x m),fun b hb=>by cases hb;exact .inl hm.bel.size,fun b hb=>⟨fun h=>by cases hb;exact absurd (hm.Bo _ h) (Nat.lt_irrefl _),fun h=>by cases h⟩,.inl ⟨rfl,.inl ⟨w.heap.size,v.cells,rfl,aG _,heap_alloc_new w _,c.cs⟩⟩⟩
 obtain⟨kJ,j⟩:=hm.add hid hob l f (fun b hb=>by cases hb;exact aY _)
 unfold Oper.wp
 have:(execOp a.eval o).run P w= .ok (.value (.pointer (some ⟨w.heap.size,0,none⟩))) (w.alloc (.cells v.cells t)):=by
  simp[execOp,g,Instr.alloc,zeroValue,typeInfo,hi,hz,newVar,newRow]
 rw[this]
 exact hF _ _ _ _ H _ h kJ kY j (.pt id 0 w.heap.size _ (iq _ _) rfl)
omit hm hρ hF hid hob in
theorem EZ{fs:Array Field}:∀{ps:List (Nat×Operand)} {qs:List (Nat×Nat×X)},Ei P fs ps=some qs→
 ps.length=qs.length∧∀(j:Nat) (p:Nat×Operand) (q:Nat×Nat×X),ps[j]? =some p→qs[j]? =some q→cX p.2=some q.2.2∧∃f ti,fs[p.1]? =some f∧P.info? f.type=some ti∧q.1=f.offset∧q.2.1=ti.size
 |[],qs,h=>by simp[Ei]at h;subst h;exact⟨rfl,fun j p q h=>by simp at h⟩
 |(i,x)::r,qs,h=>by
  unfold Ei at h;split at h
  ·rename_i x' z f g l m;split at h
   ·rename_i ti a;cases h;obtain⟨y,u⟩:=EZ l;refine⟨by simp[y],fun j p q c hq=>?_⟩;cases j with
    |zero=>simp at c hq;subst c;subst hq;exact⟨g,f,ti,m,a,rfl,rfl⟩
    |succ j=>exact u j p q (by simpa using c) (by simpa using hq)
   ·cases h
  ·cases h
omit hm hρ hF hid hob in
theorem O3:∀(us:List Value) (cells:Array Value) (off i:Nat),((us.toArray.zipIdx i).foldl (fun cs (c,j)=>cs.setIfInBounds (off+j) c) cells).toList=setAt cells.toList (off+i) us:=by
 intro us;induction us with
 |nil=>intro cells off i;rfl
 |cons u us a=>
  intro cells off i;have e:((u::us).toArray.zipIdx i)=#[(u,i)]++us.toArray.zipIdx (i+1):=by
   apply Array.ext';simp[List.zipIdx_cons]
  rw[e,Array.foldl_append];simp only[List.foldl_toArray',List.foldl_cons,List.foldl_nil];have:=a (cells.setIfInBounds (off+i) u) off (i+1);simp only[]at this;rw[this];simp[setAt,tY]
omit hm hρ hF hid hob in
theorem MQ{α β:Type}(f:α→Option β):∀(l:List α) (r:List β),l.mapM f=some r→∀(k:Nat) (x:α),l[k]? =some x→∃y,f x=some y∧r[k]? =some y
 |[],r,h,k,x,a=>by simp at a
 |z::l,r,h,k,x,a=>by
  simp only[List.mapM_cons,Option.bind_eq_bind,Option.pure_def,Option.bind_eq_some_iff]at h;obtain⟨y,j,g,c,e⟩:=h;cases e;cases k with
  |zero=>simp at a;subst a;exact⟨y,j,rfl⟩
  |succ k=>simpa using MQ f l g c k x (by simpa using a)
omit hm hρ hF hid hob in
theorem GY(place:Nat→Option (Nat×Nat)):∀(ps:List (Nat×Value)) (qs:List (Nat×List V)) (cells:Array Value) (cs:List V),ps.length=qs.length→
 (∀(j:Nat) (p:Nat×Value) (q:Nat×List V),ps[j]? =some p→qs[j]? =some q→∃sz,place p.1=some (q.1,sz)∧q.2.length=sz∧aB w H p.2.cells.toList q.2)→aB w H cells.toList cs→fitAll cs.length qs=true→
 ∃out,Instr.fill place cells ps=some out∧aB w H out.toList (oU cs qs)
 |[],[],cells,cs,_,_,h,_=>⟨cells,rfl,h⟩
 |[],_::_,_,_,h,_,_,_=>by simp at h
 |_::_,[],_,_,h,_,_,_=>by simp at h
 |(i,v)::ps,(off,z)::qs,cells,cs,hl,f,l,g=>by
  obtain⟨sz,y,u,m⟩:=f 0 _ _ rfl rfl;simp only[fitAll,dA,qW]at g;have a:v.cells.size=sz:=by have:=m.1;simp only[Array.length_toList]at this;simp at u;omega
  have E:cells.size=cs.length:=by have:=l.1;simpa using this
  have hfit:¬(off+v.cells.size>cells.size):=by simp at u;omega
  have e:=O3 v.cells.toList cells off 0;simp only[Array.toArray_toList,ik]at e;have hstep:aB w H (v.cells.zipIdx.foldl (fun cs (c,j)=>cs.setIfInBounds (off+j) c) cells).toList (setAt cs off z):=by
   rw[e];exact Em _ _ _ _ _ m l
  obtain⟨out,C,A⟩:=GY place ps qs _ _ (by simpa using hl) (fun j p q G F=>f (j+1) p q (by simpa using G) (by simpa using F)) hstep (by rw[mP];exact g.2);refine⟨out,?_,A⟩;simp only[]at y;rw[Instr.fill,y];simp only[a,ne_eq,mZ,decide_false,Bool.false_or,qW];rw[ah om];exact C
omit hm hρ hF hid hob in
theorem Dk{vs:List V}(h:qN ob vs):∀v,v∈vs→okR ob v:=by
 induction vs with
 |nil=>intro v a;cases a
 |cons x r c=>intro v a;exact(dZ.1 a).elim (fun e=>e▸h.1) (fun a=>c h.2 v a)
omit hm hρ hF hid hob in
theorem zG{n:Nat}{qs:List (Nat×List V)}(h:fitAll n qs=true):∀q,q∈qs→q.2.all V.cell=true:=by
 induction qs with
 |nil=>intro q hq;cases hq
 |cons p r a=>
  obtain⟨k,c⟩:=p;simp only[fitAll,dA]at h;intro q hq;rcases dZ.1 hq with rfl|hq
  ·exact h.1.2
  ·exact a h.2 q hq
omit hid hob in
theorem s_bld{ps:Array (Nat×Operand)}{qs:List (Nat×Nat×X)}{fs:Array Field}(L:o.op= .build t ps)(ht:P.underlying t=some (.struct fs))(C:Eh P t=some (sz,MM,z))
 (O:(fs.toList.mapM (fun f=>(P.info? f.type).map fun i=>(f.offset,i.size))).isSome=true) (hq:Ei P fs ps.toList=some qs)
 (h:ev (fun _ _ _=>False) (fun _ _ _=>False) ρ ob id R (.RJ z qs)):o.wp P a w K Q:=by
 obtain⟨i,v,hi,hz,hs,hb,rfl,hvs,hpos,hall⟩:=vC C
 simp only[ev]at h
 obtain⟨⟨M,hfit,F⟩,hR⟩:=h
 obtain⟨hl,I⟩:=EZ hq
 obtain⟨H1,kJ,N,T,_⟩:=hm.freeze (mO (ob:=ob) qs (fun p=>ρ p.2.2))
 obtain⟨places,m⟩:=yH.1 O
 have hplace:∀(k:Nat) (f:Field) (ti:TypeInfo),fs[k]? =some f→P.info? f.type=some ti→places[k]? =some (f.offset,ti.size):=fun k f ti A U=>by
  rw[show fs[k]? =fs.toList[k]? from(pX).symm]at A;obtain⟨y,Z,hk⟩:=MQ _ _ _ m k f A;simp only[U,kZ,fU]at Z;rw[hk,←Z]
 have key:=GY (w:=w) (H:=H1) (fun k=>places.toArray[k]?) (ps.toList.map fun p=>(p.1,a.eval p.2)) (qs.map fun p=>(p.1,(rd ob 1 (ρ p.2.2)).cells)) v.cells (v.cells.toList.map cS) (by simpa using hl)
  (fun j p q hp l=>by
    simp only[iU,jT]at hp l;obtain⟨Y,J,rfl⟩:=hp;obtain⟨q0,c,rfl⟩:=l;obtain⟨hx,f,ti,hf,E,e1,e2⟩:=I j Y q0 J c;have hmem:q0∈qs:=dP c;have hcell:=zG hfit (q0.1,(rd ob 1 (ρ q0.2.2)).cells) (eG.2 ⟨q0,hmem,rfl⟩);have hlen:=dh.1 F q0 hmem;simp only[beq_iff_eq]at hlen;have G:=ry hm (sz:=1) dc (hρ _ _ hx) (Dk M _ (eG.2 ⟨q0,hmem,rfl⟩)) (xg hcell) kJ.hH (fun k y u b A U h3=>T k y u b (nN.2 ⟨q0,hmem,A⟩) U h3);refine⟨ti.size,?_,by rw[hlen,e2],Aw G hcell⟩;have:=hplace Y.1 f ti hf E;simp only[e1];simpa using this) (Eo _) (by simpa using hfit)
 obtain⟨out,WH,hrep⟩:=key
 have hbuilt:P.built t (ps.map fun(i,x)=>(i,a.eval x)).toList=some out:=by
  unfold Program.built;simp only[hi,ht,hz,m];simpa using WH
 unfold Oper.wp
 have:(execOp a.eval o).run P w= .ok (.value (.agg out)) w:=by
  simp[execOp,L,run_build w t _ out hbuilt]
 rw[this]
 have hg:Rep0 w H1 (.agg out) (.g (oU (v.cells.toList.map cS) (qs.map fun p=>(p.1,(rd ob 1 (ρ p.2.2)).cells)))):=by
  have:=Rep0.g (w:=w) (H:=H1) out.toList _ hrep.1 hrep.2;simpa using this
 exact hF _ _ _ w H1 ov hR kJ (fun _ _ h=>h) N (.up hg)
omit hm hρ hF hid hob in
theorem Dl:∀{ps:List (Nat×Operand)} {qs:List (Nat×X)},Au ps=some qs→
 ps.length=qs.length∧∀(j:Nat) (p:Nat×Operand) (q:Nat×X),ps[j]? =some p→qs[j]? =some q→cX p.2=some q.2∧p.1=q.1
 |[],qs,h=>by simp[Au]at h;subst h;exact⟨rfl,fun j p q h=>by simp at h⟩
 |(i,x)::r,qs,h=>by
  unfold Au at h;split at h
  ·rename_i x' m c f;cases h;obtain⟨l,g⟩:=Dl f;refine⟨by simp[l],fun j p q a hq=>?_⟩;cases j with
   |zero=>simp at a hq;subst a;subst hq;exact⟨c,rfl⟩
   |succ j=>exact g j p q (by simpa using a) (by simpa using hq)
  ·cases h
omit hm hρ hF hid hob in
theorem MR{α:Type}(z:List α)(hz:0<z.length):∀(n i:Nat),i<n*z.length→((List.replicate n z).flatten)[i]? =z[i%z.length]?
 |0,i,h=>by simp at h
 |n+1,i,h=>by
  rw[nR,xx];by_cases hi:i<z.length
  ·rw[uO hi,bD hi]
  ·rw[rY om,MR z hz n (i-z.length) (by rw[kQ,iV]at h;omega)];congr 1;conv=>rhs;rw[show i=i-z.length+z.length from om,Nat.add_mod_right]
omit hm hρ hF hid hob in
theorem MS{α:Type}(z:List α)(n:Nat):((List.replicate n z).flatten).length=n*z.length:=by simp[List.length_flatten,List.map_replicate,List.sum_replicate_nat]
omit hm hρ hF hid hob in
theorem MV(z:Array Value)(hz:0<z.size)(n:Nat):aB w H (madeCells z (n*z.size)).toList ((List.replicate n (z.toList.map cS)).flatten):=by
 refine⟨by simp[size_madeCells,MS],fun j v x a f=>?_⟩;have g:j<n*z.size:=by
  have:=(iR.1 a).1;simpa[size_madeCells]using this
 rw[MR _ (by simpa using hz) n j (by simpa using g)]at f;simp only[iJ,Array.length_toList,iU]at f;have c:j%z.size<z.size:=cu _ hz;simp only[madeCells]at a;rw[pX,Array.getElem?_map,Array.getElem?_range]at a;simp only[g,if_true,kZ,fU]at a;rw[getElem!_pos z _ c]at a;rw[pX,sF c]at f;simp only[kZ,fU]at f;subst a;subst f;exact O1 _
theorem s_mk{l c:Operand}{f u:X}(F:o.op= .makeSlice t l c)(ht:P.underlying t=some (.slice e))(A:Eh P e=some (sz,MM,z))(hl:cX l=some f)(hc:cX c=some u)
 (h:ev (fun _ _ _=>False) (fun _ _ _=>False) ρ ob id R (.mk e sz MM z f u)):o.wp P a w K Q:=by
 obtain⟨i,v,hi,hz,hs,hb,rfl,y,hpos,hall⟩:=vC A
 have Y:=hρ l f hl
 have U:=hρ c u hc
 simp only[ev]at h
 cases hv:ρ f<;>rw[hv]at h Y<;>(try simp only[]at h)
 case i k n=>
  cases hu:ρ u<;>rw[hu]at h U<;>(try simp only[]at h);case i Z m=>
   obtain⟨⟨h0,G,hbytes,hbig⟩,hR⟩:=h;have hbytes':(i.bytes:Int)*m≤281474976710656:=by rw[hb,Int.mul_comm];exact hbytes
   have T:=run_make (P:=P) w t e i v ht hi hz k Z n m h0 G hbytes' om;rw[hs]at T;have N:Below w.heap.size w (w.alloc (.cells (madeCells v.cells (m.toNat*sz)) e)):=(Below.refl _ _).alloc (aY _) _;have I:m.toNat≤maxLen:=by unfold maxLen;omega
   have J_:n.toNat≤m.toNat:=om;have hown:(w.alloc (.cells (madeCells v.cells (m.toNat*sz)) e)).ownsRow 0 e sz (.slice (some ⟨w.heap.size,0,none⟩) n.toNat m.toNat) n.toNat ((madeCells v.cells (m.toNat*sz)).toList.take (n.toNat*sz)):=by
    refine⟨?_,.inr ⟨w.heap.size,m.toNat,_,rfl,aG _,heap_alloc_new w _,J_,I,size_madeCells _ _,rfl⟩⟩;rw[jo,Array.length_toList,size_madeCells];exact pR (kF _ J_)
   have C:aB (w.alloc (.cells (madeCells v.cells (m.toNat*sz)) e)) H ((madeCells v.cells (m.toNat*sz)).toList.take (n.toNat*sz)) ((List.replicate n.toNat (v.cells.toList.map cS)).flatten):=by
    have hfull:=MV (w:=w.alloc (.cells (madeCells v.cells (m.toNat*sz)) e)) (H:=H) v.cells om n.toNat;rw[y]at hfull;have e1:(madeCells v.cells (m.toNat*sz)).toList.take (n.toNat*sz)=(madeCells v.cells (n.toNat*sz)).toList:=by
     apply List.ext_getElem?;intro j;have hmul:=kF sz J_;by_cases L:j<n.toNat*sz
     ·rw[ou,au L];simp[madeCells,L,show j<m.toNat*sz by omega]
     ·rw[ou,ah L,ng (by simp[size_madeCells];omega)]
    rw[e1];exact hfull
   have M:∀x,x∈(List.replicate n.toNat (v.cells.toList.map cS)).flatten→x.cell=true:=fun x g=>by
    obtain⟨l,hl,g⟩:=List.mem_flatten.1 g;rw[List.eq_of_mem_replicate hl]at g;exact jl hall x g
   have E:=ji.row (O:=Ow w0 H0) hown hpos C M om (fun b hb h=>by cases hb;exact absurd (hm.Bo _ h) (Nat.lt_irrefl _)) (fun b hb=>by cases hb;exact .inl hm.bel.size);obtain⟨kJ,J⟩:=hm.add hid hob N E (fun b hb=>by cases hb;exact aY _);unfold Oper.wp;have:(execOp a.eval o).run P w= .ok (.value (.slice (some ⟨w.heap.size,0,none⟩) n.toNat m.toNat)) (w.alloc (.cells (madeCells v.cells (m.toNat*sz)) e)):=by
    simp[execOp,F,Y.dU,U.dU,T]
   rw[this];exact hF _ _ _ _ H _ hR kJ kY J (uF hown om (iq _ _))
theorem s_bsl{n:Nat}{ps:Array (Nat×Operand)}{qs:List (Nat×X)}(G:o.op= .buildSlice t n ps)(ht:P.underlying t=some (.slice e))(T:Eh P e=some (sz,MM,z))(hq:Au ps.toList=some qs)(hn:n*sz≤65536)
 (h:ev (fun _ _ _=>False) (fun _ _ _=>False) ρ ob id R (.RN e sz n ((List.replicate n z).flatten) qs)):o.wp P a w K Q:=by
 obtain⟨i,v,hi,hz,hs,hb,rfl,C,hpos,hall⟩:=vC T
 simp only[ev]at h
 obtain⟨⟨hok,hfit,U⟩,hR⟩:=h
 obtain⟨hl,Uj⟩:=Dl hq
 obtain⟨H1,kJ,A,hfr,hfr'⟩:=hm.freeze (mO (ob:=ob) qs (fun p=>ρ p.2))
 have hmade:aB w H1 (madeCells v.cells (n*sz)).toList ((List.replicate n (v.cells.toList.map cS)).flatten):=by
  have:=MV (w:=w) (H:=H1) v.cells om n;rw[C]at this;exact this
 have key:=GY (w:=w) (H:=H1) (fun k=>some (k*sz,sz)) (ps.toList.map fun p=>(p.1,a.eval p.2)) (qs.map fun p=>(p.1*sz,(rd ob 1 (ρ p.2)).cells)) (madeCells v.cells (n*sz)) _ (by simpa using hl)
  (fun j p q hp F=>by
    simp only[iU,jT]at hp F;obtain⟨p0,hp0,rfl⟩:=hp;obtain⟨q0,E,rfl⟩:=F;obtain⟨c,e1⟩:=Uj j p0 q0 hp0 E;have hmem:q0∈qs:=dP E;have hcell:=zG hfit (q0.1*sz,(rd ob 1 (ρ q0.2)).cells) (eG.2 ⟨q0,hmem,rfl⟩);have hlen:=dh.1 U q0 hmem;simp only[beq_iff_eq]at hlen;have Y:=ry hm (sz:=1) dc (hρ _ _ c) (Dk hok _ (eG.2 ⟨q0,hmem,rfl⟩)) (xg hcell) kJ.hH (fun k y u b g h2 h3=>hfr k y u b (nN.2 ⟨q0,hmem,g⟩) h2 h3);exact⟨sz,by simp[e1],hlen,Aw Y hcell⟩) hmade hfit
 obtain⟨out,WH,hrep⟩:=key
 have hlen:out.size=n*sz:=by
  have g:=hrep.1;have h2:∀(qs:List (Nat×List V)) (cs:List V),(oU cs qs).length=cs.length:=fun qs=>by
   induction qs with
   |nil=>intro cs;rfl
   |cons p r N=>intro cs;obtain⟨k,vs⟩:=p;rw[oU,N,mP]
  rw[h2,MS]at g;simp only[Array.length_toList,iJ]at g;rw[g,C]
 have hcl:∀x,x∈oU ((List.replicate n (v.cells.toList.map cS)).flatten) (qs.map fun p=>(p.1*sz,(rd ob 1 (ρ p.2)).cells))→x.cell=true:=by
  have gen:∀(qs:List (Nat×List V)) (cs:List V),(∀x,x∈cs→x.cell=true)→(∀q,q∈qs→q.2.all V.cell=true)→∀x,x∈oU cs qs→x.cell=true:=fun qs=>by
   induction qs with
   |nil=>intro cs h _ x c;exact h x c
   |cons p r N=>
    intro cs h M x c;obtain⟨k,vs⟩:=p;exact N _ (xO _ vs cs k h (jl (M _ jM))) (fun q hq=>M q (jD _ hq)) x c
  refine gen _ _ (fun x c=>?_) (zG hfit);obtain⟨l,hl,c⟩:=List.mem_flatten.1 c;rw[List.eq_of_mem_replicate hl]at c;exact jl hall x c
 have L:Below w.heap.size w (w.alloc (.cells out e)):=(Below.refl _ _).alloc (aY _) _
 have m:n≤maxLen:=by
  have:n≤n*sz:=Nat.le_mul_of_pos_right n hpos;unfold maxLen;omega
 have hown:=World.ownsRow_lit (base:=0) (e:=e) (size:=sz) w out n (aG _) m hlen
 have Z:aB (w.alloc (.cells out e)) H1 out.toList _:=hrep.mono (fun _ h=>h) (fun b hb=>L.block b (A.Bo b hb))
 have hor:=ji.row (O:=Ow w0 H0) hown hpos Z hcl m (fun b hb h=>by cases hb;exact absurd (A.Bo _ h) (Nat.lt_irrefl _)) (fun b hb=>by cases hb;exact .inl hm.bel.size)
 have I:upd ob (qs.flatMap fun p=>jA ob (ρ p.2)) id=none:=by
  rcases qI (ob:=ob) (qs.flatMap fun p=>jA ob (ρ p.2)) id with ⟨e1,_⟩|M
  ·rw[e1];exact hob
  ·obtain⟨o',g,_⟩:=mO (ob:=ob) qs (fun p=>ρ p.2) _ _ M;rw[hob]at g;cases g
 obtain⟨Dj,J⟩:=A.add hid I L hor (fun b hb=>by cases hb;exact aY _)
 rw[rC]at J
 unfold Oper.wp
 have:(execOp a.eval o).run P w= .ok (.value (.slice (some ⟨w.heap.size,0,none⟩) n n)) (w.alloc (.cells out e)):=by
  have hn2:¬(2^24<n*sz):=om;have f:Instr.fill (fun i=>some (i*sz,sz)) (madeCells v.cells (n*sz)) (ps.toList.map fun p=>(p.1,a.eval p.2))=some out:=WH;by_cases h0:n*sz=0
  ·have e0:madeCells v.cells (n*sz)=#[]:=by rw[h0];simp[madeCells,Array.range_zero']
   rw[e0]at f;simp[execOp,G,Instr.buildSlice,run_underlying ht,sizeOf,typeInfo,hi,hs,newRow,f,h0,Array.range_zero']
  ·simp only[madeCells]at f;simp[execOp,G,Instr.buildSlice,run_underlying ht,sizeOf,typeInfo,hi,hs,newRow,zeroValue,hz,h0,hn2,f]
 rw[this]
 exact hF _ _ _ _ H1 _ hR (kJ.trans Dj) kY J (uF hown m (iq _ _))
theorem s_bx(z:o.op= .box e x)(l:cX x=some x')
 (h:ev (fun _ _ _=>False) (fun _ _ _=>False) ρ ob id R (.bx e x')):o.wp P a w K Q:=by
 have G:=hρ x x' l
 obtain⟨⟨A,hall⟩,F⟩:=h
 obtain⟨H1,kJ,c,C,_⟩:=hm.freeze (jk (ob:=ob) (ρ x'))
 have m:=ry hm (sz:=1) dc G A (xg hall) kJ.hH C
 have hcells:=Aw m hall
 have f:upd ob (jA ob (ρ x')) id=none:=by
  rcases qI (ob:=ob) (jA ob (ρ x')) id with ⟨e1,_⟩|H
  ·rw[e1];exact hob
  ·obtain⟨I,E,_⟩:=jk (ob:=ob) (ρ x') _ _ H;rw[hob]at E;cases E
 have j:Below w.heap.size w (w.alloc (.cells (a.eval x).cells e)):=(Below.refl _ _).alloc (aY _) _
 have u:aB (w.alloc (.cells (a.eval x).cells e)) H1 (a.eval x).cells.toList _:=hcells.mono (fun _ h=>h) (fun b hb=>j.block b (c.Bo b hb))
 have y:∀jZ,ji (w.alloc (.cells (a.eval x).cells e)) H1 (Ow w0 H0) jZ (.pointer (some ⟨w.heap.size,0,none⟩)) {e:=e,sz:=(rd ob 1 (ρ x')).cells.length,cs:=(rd ob 1 (ρ x')).cells,mu:=true,pg:=true}:=fun jZ=>
  ⟨fun x l=> .inl (jl hall x l),fun b hb=>by cases hb;exact .inl hm.bel.size,fun b hb=>⟨fun h=>by cases hb;exact absurd (c.Bo _ h) (Nat.lt_irrefl _),fun h=>by cases h⟩,.inl ⟨rfl,.inl ⟨w.heap.size,(a.eval x).cells,rfl,aG _,heap_alloc_new w _,u.cs⟩⟩⟩
 obtain⟨Dj,g⟩:=c.add hid f j y (fun b hb=>by cases hb;exact aY _)
 rw[rC]at g
 unfold Oper.wp
 have:(execOp a.eval o).run P w= .ok (.value (.pointer (some ⟨w.heap.size,0,none⟩))) (w.alloc (.cells (a.eval x).cells e)):=by
  simp[execOp,z,Instr.box,newVar,newRow]
 rw[this]
 exact hF _ _ _ _ H1 _ F (kJ.trans Dj) kY g (.pt id 0 w.heap.size _ (iq _ _) rfl)
end ops
