import Derived.Test.YtoehbmlfnjlchaaGreatDoorRows
import Derived.Laws.Externs
import Derived.Test.YtoehbmlfnjlchaaGreatDoorGC
set_option linter.all false
set_option maxHeartbeats 10000000
namespace Go.Proofs.YtoehbmlfnjlchaaGreatDoor
def nv(b:Nat):List Nat→Nat
 |[]=>0
 |x::r=>x+b*nv b r
def tz:List Nat→List Nat
 |[]=>[]
 |x::r=>if x=0∧tz r=[]then[]else x::tz r
def fl(b:Nat):Nat→Nat→List Nat
 |0,_=>[]
 |n+1,v=>v%b::fl b n (v/b)
def dg(b v:Nat):List Nat:=tz (fl b v v)
def Lt(b:Nat)(l:List Nat):Prop:=∀x,x∈l→x<b
section
variable {b:Nat}
theorem PM:Lt b []:=fun x h=>by cases h
theorem uJ{x:Nat}{l:List Nat}:Lt b (x::l)↔x<b∧Lt b l:=by simp[Lt]
theorem BV{l r:List Nat}:Lt b (l++r)↔Lt b l∧Lt b r:=by simp only[Lt,List.mem_append];exact⟨fun h=>⟨fun x hx=>h x (.inl hx),fun x hx=>h x (.inr hx)⟩,fun h x hx=>hx.elim (h.1 x) (h.2 x)⟩
theorem BX{l:List Nat}(h:Lt b l)(i:Nat):Lt b (l.take i):=fun x hx=>h x (List.mem_of_mem_take hx)
theorem BZ{l:List Nat}(h:Lt b l)(i:Nat):Lt b (l.drop i):=fun x hx=>h x (List.mem_of_mem_drop hx)
theorem nO{l:List Nat}(h:Lt b l)(hb:0<b)(i:Nat):l.getD i 0<b:=by
 rw[List.getD_eq_getElem?_getD];cases e:l[i]? with
 |none=>simpa using hb
 |some x=>exact h x (List.mem_of_getElem? e)
theorem yP{n:Nat}(hb:0<b):Lt b (List.replicate n 0):=fun x hx=>by rw[List.mem_replicate]at hx;omega
theorem B_{l:List Nat}(h:Lt b l)(i x:Nat)(hx:x<b):Lt b (l.set i x):=fun y hy=>by
 rcases List.mem_or_eq_of_mem_set hy with h1|h1
 ·exact h y h1
 ·omega
theorem pz{x:Nat}{l:List Nat}:nv b (x::l)=x+b*nv b l:=rfl
theorem vW{x:Nat}:nv b [x]=x:=by simp[nv]
theorem mr:∀(l r:List Nat),nv b (l++r)=nv b l+b^l.length*nv b r
 |[],r=>by simp[nv]
 |x::l,r=>by
  simp only[List.cons_append,nv,mr l r,List.length_cons,Nat.pow_succ];rw[Nat.mul_add,Nat.add_assoc,Nat.mul_comm (b^l.length) b,Nat.mul_assoc]
theorem tH(n:Nat):nv b (List.replicate n 0)=0:=by
 induction n with
 |zero=>rfl
 |succ n ih=>rw[List.replicate_succ,pz,ih];simp
theorem b_:∀{l:List Nat},Lt b l→nv b l<b^l.length
 |[],_=>by simp[nv]
 |x::l,h=>by
  have h1:=(uJ.1 h).1;have h2:=b_ (uJ.1 h).2;simp only[nv,List.length_cons,Nat.pow_succ];have:b*(nv b l+1)≤b*b^l.length:=Nat.mul_le_mul_left _ h2;rw[Nat.mul_comm (b^l.length)];rw[Nat.mul_add]at this;omega
theorem pF(l:List Nat)(i:Nat)(hi:i≤l.length):nv b l=nv b (l.take i)+b^i*nv b (l.drop i):=by
 have h:=mr (b:=b) (l.take i) (l.drop i);rw[List.take_append_drop,List.length_take,Nat.min_eq_left hi]at h;exact h
theorem fJ(l:List Nat)(i:Nat)(hi:i<l.length):nv b (l.take (i+1))=nv b (l.take i)+b^i*l.getD i 0:=by
 rw[List.take_succ_eq_append_getElem hi,mr,List.length_take,Nat.min_eq_left (Nat.le_of_lt hi),vW,List.getD_eq_getElem?_getD,List.getElem?_eq_getElem hi];rfl
theorem nG(l:List Nat)(i:Nat)(hi:i<l.length):nv b (l.drop i)=l.getD i 0+b*nv b (l.drop (i+1)):=by
 rw[List.drop_eq_getElem_cons hi,pz,List.getD_eq_getElem?_getD,List.getElem?_eq_getElem hi];rfl
theorem au(l:List Nat)(i:Nat):nv b (l.take (i+1))=nv b (l.take i)+b^i*l.getD i 0:=by
 rcases Nat.lt_or_ge i l.length with h|h
 ·exact fJ l i h
 ·rw[List.take_of_length_le om,List.take_of_length_le h,List.getD_eq_getElem?_getD,List.getElem?_eq_none h];simp
theorem bC:∀(n v:Nat),(fl b n v).length=n
 |0,_=>rfl
 |n+1,v=>by simp[fl,bC n]
theorem jG(hb:0<b):∀(n v:Nat),Lt b (fl b n v)
 |0,_=>PM
 |n+1,v=>uJ.2 ⟨Nat.mod_lt _ hb,jG hb n _⟩
theorem kQ:∀(n v:Nat),nv b (fl b n v)=v%b^n
 |0,v=>by simp[fl,nv,Nat.mod_one]
 |n+1,v=>by rw[fl,pz,kQ n,Nat.pow_succ,Nat.mul_comm (b^n),Nat.mod_mul]
theorem Az:∀{l:List Nat},Lt b l→fl b l.length (nv b l)=l
 |[],_=>rfl
 |x::l,h=>by
  have h1:=(uJ.1 h).1;simp only[List.length_cons,fl,nv];rw[Nat.add_mul_mod_self_left,Nat.mod_eq_of_lt h1,Nat.add_mul_div_left _ _ (by omega:0<b),Nat.div_eq_of_lt h1,Nat.zero_add,Az (uJ.1 h).2]
theorem I5(n:Nat):fl b n 0=List.replicate n 0:=by
 induction n with
 |zero=>rfl
 |succ n ih=>simp[fl,ih,List.replicate_succ]
theorem PN(hb:0<b)(n v:Nat):fl b n (v%b^n)=fl b n v:=by
 have h1:=Az (jG hb n v);rw[bC,kQ]at h1;exact h1
theorem vX(n k v:Nat):fl b (n+k) v=fl b n v++fl b k (v/b^n):=by
 induction n generalizing v with
 |zero=>simp[fl]
 |succ n ih=>
  rw[show n+1+k=(n+k)+1 from om];simp only[fl,List.cons_append];rw[ih,Nat.div_div_eq_div_mul,Nat.pow_succ,Nat.mul_comm b]
theorem dP(n v:Nat):fl b (n+1) v=fl b n v++[v/b^n%b]:=by rw[vX];rfl
theorem PQ(n k v:Nat)(hv:v<b^n):fl b (n+k) v=fl b n v++List.replicate k 0:=by rw[vX,Nat.div_eq_of_lt hv,I5]
theorem aat(n:Nat):tz (List.replicate n 0)=[]:=by
 induction n with
 |zero=>rfl
 |succ n ih=>rw[List.replicate_succ,tz,ih];simp
theorem mD:∀(l:List Nat) (n:Nat),tz (l++List.replicate n 0)=tz l
 |[],n=>aat n
 |x::l,n=>by simp only[List.cons_append,tz,mD l n]
theorem oD:∀(l:List Nat),∃n,l=tz l++List.replicate n 0
 |[]=>⟨0,rfl⟩
 |x::l=>by
  obtain⟨n,h⟩:=oD l;simp only[tz];split
  ·rename_i hx;refine⟨n+1,?_⟩;rw[hx.2]at h;rw[List.replicate_succ,h,hx.1];simp
  ·exact⟨n,by rw[List.cons_append,←h]⟩
theorem mF(l:List Nat):(tz l).length≤l.length:=by
 obtain⟨n,h⟩:=oD l;have:=congrArg List.length h;simp at this;omega
theorem xQ(l:List Nat):l.take (tz l).length=tz l:=by
 obtain⟨n,h⟩:=oD l;have:(tz l++List.replicate n 0).take (tz l).length=tz l:=sy;rw[←h]at this;exact this
theorem uK(l:List Nat):nv b (tz l)=nv b l:=by
 obtain⟨n,h⟩:=oD l;have:nv b (tz l++List.replicate n 0)=nv b (tz l):=by rw[mr,tH];simp
 rw[←h]at this;exact this.symm
theorem qI{l:List Nat}(h:Lt b l):Lt b (tz l):=by rw[←xQ];exact BX h _
theorem Ed(l:List Nat):tz (tz l)=tz l:=by
 obtain⟨n,h⟩:=oD l;have:tz (tz l++List.replicate n 0)=tz (tz l):=mD _ _;rw[←h]at this;exact this.symm
theorem uM(l:List Nat)(i:Nat)(hi:i<l.length)(h0:l.getD i 0=0):tz (l.take (i+1))=tz (l.take i):=by
 rw[List.take_succ_eq_append_getElem hi];have:l[i]=0:=by rw[List.getD_eq_getElem?_getD,List.getElem?_eq_getElem hi]at h0;exact h0
 rw[this];exact mD _ 1
theorem Cb:∀(l:List Nat) (x:Nat),x≠0→tz (l++[x])=l++[x]
 |[],x,h=>by simp[tz,h]
 |y::l,x,h=>by simp[tz,Cb l x h]
theorem GZ(l:List Nat)(i:Nat)(hi:i<l.length)(h0:l.getD i 0≠0):(tz (l.take (i+1))).length=i+1:=by
 rw[List.take_succ_eq_append_getElem hi,Cb _ _ (by rw[List.getD_eq_getElem?_getD,List.getElem?_eq_getElem hi]at h0;exact h0)];simp;omega
theorem AA{l:List Nat}(hb:2≤b)(h:Lt b l):tz l=dg b (nv b l):=by
 unfold dg;have key:∀n,nv b l<b^n→tz (fl b n (nv b l))=tz l:=fun n hn=>by
  rcases Nat.le_total l.length n with h1|h1
  ·have:n=l.length+(n-l.length):=om;rw[this,PQ _ _ _ (b_ h),Az h,mD]
  ·have:l.length=n+(l.length-n):=om;have e:l=fl b n (nv b l)++List.replicate (l.length-n) 0:=by
    rw[←PQ _ _ _ hn,←this,Az h]
   have:=mD (fl b n (nv b l)) (l.length-n);rw[←e]at this;exact this.symm
 exact(key _ (Nat.lt_of_lt_of_le Nat.lt_two_pow_self (Nat.pow_le_pow_left hb _))).symm
theorem jM(hb:0<b)(v:Nat):Lt b (dg b v):=qI (jG hb _ _)
theorem jd(hb:2≤b)(v:Nat):nv b (dg b v)=v:=by
 unfold dg;rw[uK,kQ,Nat.mod_eq_of_lt (Nat.lt_of_lt_of_le Nat.lt_two_pow_self (Nat.pow_le_pow_left hb _))]
theorem PR(v:Nat):tz (dg b v)=dg b v:=Ed _
theorem sJ(hb:2≤b){n v:Nat}(h:v<b^n):tz (fl b n v)=dg b v:=by
 rw[AA hb (jG om _ _),kQ,Nat.mod_eq_of_lt h]
theorem iq:dg b 0=[]:=rfl
theorem aau(hb:2≤b){v u:Nat}(h:dg b v=dg b u):v=u:=by rw[←jd hb v,h,jd hb]
theorem tJ(hb:2≤b){v:Nat}:dg b v=[]↔v=0:=⟨fun h=>aau hb (h.trans iq.symm),fun h=>by rw[h,iq]⟩
theorem vY(hb:2≤b){n v:Nat}(h:v<b^n):(dg b v).length≤n:=by rw[←sJ hb h];exact Nat.le_trans (mF _) (by rw[bC];exact Nat.le_refl _)
end
end Go.Proofs.YtoehbmlfnjlchaaGreatDoor
namespace Go.Proofs.YtoehbmlfnjlchaaGreatDoor
open Go Go.RowKit Ab
def J0:World→Prop:=fun _=>True
theorem eY:∀(w:World) (e:Nat→Prop) (w':World),J0 w→aY w e w'→J0 w':=fun _ _ _ _ _=>trivial
theorem dB:Tryz.prog.follows .mixedOrders=true:=by kernel_rfl
def W(a:List Nat):List V:=a.map fun x:Nat=> .i .u64 (x:Int)
def D(a:List Nat):List V:=a.map fun x:Nat=> .i .i64 (x:Int)
def B:Nat:=18446744073709551616
def Wd(a:List Nat):Prop:=Lt B a
theorem aU(a:List Nat):(W a).length=a.length:=by simp[W]
theorem qJ(a:List Nat):(D a).length=a.length:=by simp[D]
theorem dD(a:List Nat)(i:Nat)(h:i<a.length):(W a).getD i .un= .i .u64 (a.getD i 0:Nat):=by
 simp[W,List.getD_eq_getElem?_getD,h]
theorem mG(a:List Nat)(i:Nat)(h:i<a.length):(D a).getD i .un= .i .i64 (a.getD i 0:Nat):=by
 simp[D,List.getD_eq_getElem?_getD,h]
theorem mJ(a:List Nat)(i:Nat):(W a).take i=W (a.take i):=by simp[W]
theorem yQ(a:List Nat)(i:Nat):(W a).drop i=W (a.drop i):=by simp[W]
theorem PS(a:List Nat)(i:Nat):(D a).take i=D (a.take i):=by simp[D]
theorem yR(a b:List Nat):W a++W b=W (a++b):=by simp[W]
theorem Cc(a:List Nat)(x:Nat):W a++[V.i .u64 (x:Int)]=W (a++[x]):=by simp[W]
theorem aav(a:List Nat)(x:Nat):D a++[V.i .i64 (x:Int)]=D (a++[x]):=by simp[D]
theorem gQ(a:List Nat):(W a).all V.cell=true:=by simp[W,V.cell]
theorem aaw(a:List Nat):(D a).all V.cell=true:=by simp[D,V.cell]
theorem je(a:List Nat)(i x:Nat):(W a).set i (.i .u64 (x:Int))=W (a.set i x):=by simp[W]
theorem gU(a:List Nat):kM (W a)=false:=by
 induction a with
 |nil=>rfl
 |cons x r ih=>simpa[W,kM,V.nf]using ih
theorem Af(a:List Nat):kM (D a)=false:=by
 induction a with
 |nil=>rfl
 |cons x r ih=>simpa[D,kM,V.nf]using ih
theorem fK:W []=[]:=rfl
theorem sK:D []=[]:=rfl
theorem dI{a:List Nat}(h:Wd a)(i:Nat):a.getD i 0<18446744073709551616:=by
 rw[List.getD_eq_getElem?_getD];cases e:a[i]? with
 |none=>simp
 |some x=>exact h x (List.mem_of_getElem? e)
theorem Vj{a:List Nat}(h:Wd a)(i:Nat):Wd (a.take i):=fun x hx=>h x (List.mem_of_mem_take hx)
theorem Vk{a:List Nat}(h:Wd a)(i:Nat):Wd (a.drop i):=fun x hx=>h x (List.mem_of_mem_drop hx)
theorem PT{a b:List Nat}(h:Wd a)(k:Wd b):Wd (a++b):=fun x hx=>(List.mem_append.1 hx).elim (h x) (k x)
theorem Ce:Wd []:=fun x hx=>by cases hx
theorem wi{n:Int}(h: -9223372036854775808≤n∧n<9223372036854775808):IntKind.i64.wrap n=n:=by
 rw[IntKind.wrap_i64];omega
theorem wu{n:Int}(h:0≤n∧n<18446744073709551616):IntKind.u64.wrap n=n:=by
 rw[IntKind.wrap_u64];omega
theorem c0:((0:Nat):Int)=0:=rfl
theorem c2:((2:Nat):Int)=2:=rfl
theorem c3:((3:Nat):Int)=3:=rfl
theorem c13:((13:Nat):Int)=13:=rfl
theorem c1:((1:Nat):Int)=1:=rfl
theorem rP(n:Nat):((n:Int)-1).toNat=n-1:=om
theorem bI(n:Nat):(n:Int).toNat=n:=rfl
def S1:=an S0 (an c0 (an c1 (an c2 (an c3 c13))))
end Go.Proofs.YtoehbmlfnjlchaaGreatDoor
namespace Go.Proofs.YtoehbmlfnjlchaaGreatDoor
open Go Go.RowKit Ab
def sub64Entry:Array Value→Sem Value:=fun args=>do
 let (x,y,b) ←Extern.MathBitsCarry.three "Sub64" args
 pure (Extern.MathBitsCarry.pair ((x+Extern.MathBitsCarry.m64-y-b)%Extern.MathBitsCarry.m64) (if x<y+b then 1 else 0))
theorem nH(x y:Nat):ik Tryz.prog 108 [.i .u64 (x:Int),.i .u64 (y:Int),.i .u64 0] (.t [.i .u64 (((x+y)%18446744073709551616:Nat):Int),.i .u64 (((x+y)/18446744073709551616:Nat):Int)]):=by
 intro w H ov vs hl hr;match vs,hl with
 |[a,b,c],_=>
  have h1:=(hr 0 a _ rfl rfl).bT;have h2:=(hr 1 b _ rfl rfl).bT;have h3:=(hr 2 c _ rfl rfl).bT;subst h1 h2 h3;refine⟨_,by rw[run_callFunc_extern Tryz.func108 (e:=add64Entry) (by kernel_rfl) (by kernel_rfl) (by kernel_rfl) (by kernel_rfl),run_add64 _ _ _ om om om om];rfl,.up (.t [.int .u64 _,.int .u64 _] _ rfl ?_)⟩;intro j v x hv hx;match j with
  |0=>cases hv;cases hx;simp only[Int.add_zero];exact .i _ _
  |1=>cases hv;cases hx;simp only[Int.add_zero];exact .i _ _
  |(k+2)=>cases hv
theorem Cf(x y:Nat)(hy:y<18446744073709551616):ik Tryz.prog 100 [.i .u64 (x:Int),.i .u64 (y:Int),.i .u64 0] (.t [.i .u64 (((x+18446744073709551616-y)%18446744073709551616:Nat):Int),.i .u64 ((if x<y then 1 else 0:Nat):Int)]):=by
 intro w H ov vs hl hr;match vs,hl with
 |[a,b,c],_=>
  have h1:=(hr 0 a _ rfl rfl).bT;have h2:=(hr 1 b _ rfl rfl).bT;have h3:=(hr 2 c _ rfl rfl).bT;subst h1 h2 h3;have run:(sub64Entry #[.int .u64 (x:Int),.int .u64 (y:Int),.int .u64 0]).run Tryz.prog w= .ok (Extern.MathBitsCarry.pair ((x+Extern.MathBitsCarry.m64-y-0)%Extern.MathBitsCarry.m64) (if x<y+0 then 1 else 0)) w:=rfl;refine⟨_,by rw[run_callFunc_extern Tryz.func100 (e:=sub64Entry) (by kernel_rfl) (by kernel_rfl) (by kernel_rfl) (by kernel_rfl),run];rfl,.up (.t [.int .u64 _,.int .u64 _] _ rfl ?_)⟩;intro j v x hv hx;match j with
  |0=>cases hv;cases hx;exact .i _ _
  |1=>cases hv;cases hx;exact .i _ _
  |(k+2)=>cases hv
end Go.Proofs.YtoehbmlfnjlchaaGreatDoor
namespace Go.Proofs.YtoehbmlfnjlchaaGreatDoor
section
variable {b:Nat}
theorem bV{l:List Nat}(hb:0<b)(h:Lt b l)(i:Nat):nv b (l.take i)<b^i:=by
 have h1:=b_ (BX h i);exact Nat.lt_of_lt_of_le h1 (Nat.pow_le_pow_right hb (by rw[List.length_take];exact Nat.min_le_left _ _))
theorem yS{P A Y x y:Nat}(hP:0<P)(hA:A<P)(hY:Y<P)(hx:x<b)(hy:y<b):
 ((A+P*x+P*b-(Y+P*y))/P%b=(x+b-(y+if A<Y then 1 else 0))%b)∧((A+P*x+P*b-(Y+P*y))%P=(A+P-Y)%P)∧((A+P*x<Y+P*y)↔(x<y+if A<Y then 1 else 0)):=by
 have e:A+P*x+P*b-(Y+P*y)=(A+P-Y)+P*(x+b-y-1):=by
  have h1:P*x+P*b=P*(x+b):=(Nat.mul_add _ _ _).symm;have h2:P*(x+b)=P*y+P*(x+b-y-1)+P:=by rw[←Nat.mul_add,←Nat.mul_succ];congr 1;omega
  omega
 have lt:(A+P*x<Y+P*y)↔(x<y+if A<Y then 1 else 0):=by
  constructor
  ·intro h;rcases Nat.lt_or_ge x y with h1|h1
   ·split<;>omega
   ·have:=Nat.mul_le_mul_left P h1;rcases Nat.lt_or_ge y x with h2|h2
    ·have h3:P*(y+1)≤P*x:=Nat.mul_le_mul_left P h2;rw[Nat.mul_succ]at h3;omega
    ·have h3:x=y:=om;subst h3;rw[if_pos om];omega
  ·intro h;rcases Nat.lt_or_ge x y with h1|h1
   ·have h3:P*(x+1)≤P*y:=Nat.mul_le_mul_left P h1;rw[Nat.mul_succ]at h3;omega
   ·by_cases h2:A<Y
    ·rw[if_pos h2]at h;have h3:x=y:=om;subst h3;omega
    ·rw[if_neg h2]at h;omega
 refine⟨?_,?_,lt⟩
 ·rw[e,Nat.add_mul_div_left _ _ hP];by_cases h2:A<Y
  ·rw[if_pos h2,Nat.div_eq_of_lt om];congr 1;omega
  ·rw[if_neg h2];have:(A+P-Y)/P=1:=by
    have h3:A+P-Y=(A-Y)+P*1:=om;rw[h3,Nat.add_mul_div_left _ _ hP,Nat.div_eq_of_lt om]
   rw[this];congr 1;omega
 ·rw[e,Nat.add_mul_mod_self_left]
theorem qK{P A Y x y:Nat}(hP:0<P)(hb:0<b):
 (A+P*x+(Y+P*y))/P%b=(x+y+(A+Y)/P)%b∧(A+P*x+(Y+P*y))%P=(A+Y)%P∧(A+P*x+(Y+P*y))/(P*b)=(x+y+(A+Y)/P)/b:=by
 have e:A+P*x+(Y+P*y)=(A+Y)+P*(x+y):=by rw[Nat.mul_add];omega
 refine⟨?_,?_,?_⟩
 ·rw[e,Nat.add_mul_div_left _ _ hP];congr 1;omega
 ·rw[e,Nat.add_mul_mod_self_left]
 ·rw[e,←Nat.div_div_eq_div_mul,Nat.add_mul_div_left _ _ hP];congr 1;omega
theorem dZ(hb:0<b){n v u:Nat}(h:v%b^n=u%b^n):fl b n v=fl b n u:=by rw[←PN hb,h,PN hb]
theorem vZ{l r:List Nat}(hb:0<b)(hl:Lt b l)(hr:Lt b r)(i:Nat)(h:l.getD i 0<r.getD i 0):nv b (l.take (i+1))<nv b (r.take (i+1)):=by
 rw[au,au];have h1:=bV hb hl i;have h3:b^i*(l.getD i 0+1)≤b^i*r.getD i 0:=Nat.mul_le_mul_left _ h;rw[Nat.mul_succ]at h3;omega
end
theorem G5{b:Nat}{l:List Nat}(hb:0<b)(h:Lt b l)(i:Nat):nv b l/b^i=nv b (l.drop i):=by
 rcases Nat.lt_or_ge l.length i with h1|h1
 ·rw[List.drop_of_length_le om,Nat.div_eq_of_lt (Nat.lt_of_lt_of_le (b_ h) (Nat.pow_le_pow_right hb om))];rfl
 ·rw[pF l i h1,Nat.add_mul_div_left _ _ (Nat.pow_pos hb),Nat.div_eq_of_lt (bV hb h i),Nat.zero_add]
theorem iQ{b:Nat}{l:List Nat}(hb:0<b)(h:Lt b l)(i:Nat):l.getD i 0=nv b l/b^i%b:=by
 rw[G5 hb h];rcases Nat.lt_or_ge i l.length with h1|h1
 ·rw[nG l i h1,Nat.add_mul_mod_self_left,Nat.mod_eq_of_lt (nO h hb i)]
 ·rw[List.drop_of_length_le h1,List.getD_eq_getElem?_getD,List.getElem?_eq_none h1];simp[nv]
theorem I7{b i v:Nat}(hb:2≤b)(h:i=0∨b^(i-1)≤v)(hv:v<b^i):fl b i v=dg b v:=by
 rw[←sJ hb hv];rcases Nat.eq_zero_or_pos i with h0|h0
 ·subst h0;rfl
 ·obtain⟨n,rfl⟩:∃n,i=n+1:=⟨i-1,om⟩;rw[dP,Cb];have h1:b^n≤v:=by
   rcases h with h|h
   ·omega
   ·simpa using h
  rw[Nat.mod_eq_of_lt ((Nat.div_lt_iff_lt_mul (Nat.pow_pos om)).2 (by rw[Nat.mul_comm,←Nat.pow_succ];exact hv))];have:=(Nat.le_div_iff_mul_le (Nat.pow_pos (by omega:0<b))).2 (by rw[Nat.one_mul];exact h1:1*b^n≤v);omega
theorem yT{b:Nat}{l:List Nat}(h:tz l=l)(hl:l≠[]):b^(l.length-1)≤nv b l:=by
 obtain⟨n,hn⟩:∃n,l.length=n+1:=⟨l.length-1,by have:=List.length_pos_iff.2 hl;omega⟩;have h1:=fJ (b:=b) l n om;rw[List.take_of_length_le om]at h1;have h2:l.getD n 0≠0:=fun h0=>by
  have h3:=uM l n om h0;rw[List.take_of_length_le om,h]at h3;have h4:=congrArg List.length h3;have h5:=mF (l.take n);rw[List.length_take]at h5;omega
 rw[h1,hn];have:b^n*1≤b^n*l.getD n 0:=Nat.mul_le_mul_left _ om;simp at this ⊢;omega
theorem mM{B:Nat}{l r:List Nat}(i:Nat)(h:∀j,i≤j→l.getD j 0=r.getD j 0):(nv B (l.take i)<nv B (r.take i)↔nv B l<nv B r)∧(nv B (l.take i)=nv B (r.take i)↔nv B l=nv B r):=by
 have key:∀k,∃t,nv B (l.take (i+k))=nv B (l.take i)+t∧nv B (r.take (i+k))=nv B (r.take i)+t:=fun k=>by
  induction k with
  |zero=>exact⟨0,rfl,rfl⟩
  |succ k ih=>
   obtain⟨t,h1,h2⟩:=ih;refine⟨t+B^(i+k)*l.getD (i+k) 0,?_,?_⟩
   ·rw[←Nat.add_assoc i k 1,au,h1,Nat.add_assoc]
   ·rw[←Nat.add_assoc i k 1,au,h2,Nat.add_assoc,h _ om]
 obtain⟨t,h1,h2⟩:=key (l.length+r.length);rw[List.take_of_length_le om]at h1;rw[List.take_of_length_le om]at h2;omega
end Go.Proofs.YtoehbmlfnjlchaaGreatDoor
namespace Go.Proofs.YtoehbmlfnjlchaaGreatDoor
open Go Go.RowKit Ab
theorem Xj:B=2^64:=rfl
theorem Ee(a b:Nat)(ha:a<18446744073709551616)(hb:b<18446744073709551616):bits .or .u64 (a:Int) (b:Int)=((a|||b:Nat):Int):=by
 have h:a|||b<2^64:=Nat.or_lt_two_pow ha hb
 have e:(BitVec.ofNat 64 a|||BitVec.ofNat 64 b).toNat=a|||b:=by rw[BitVec.toNat_or,BitVec.toNat_ofNat,BitVec.toNat_ofNat,Nat.mod_eq_of_lt ha,Nat.mod_eq_of_lt hb]
 have k:bits .or .u64 (a:Int) (b:Int)=IntKind.u64.wrap (((BitVec.ofInt 64 (a:Int)|||BitVec.ofInt 64 (b:Int)).toNat:Nat):Int):=rfl;rw[k,BitVec.ofInt_natCast,BitVec.ofInt_natCast,e];exact wu ⟨om,om⟩
theorem PU(a b:Nat)(ha:a<18446744073709551616)(hb:b<18446744073709551616):bits .and .u64 (a:Int) (b:Int)=((a&&&b:Nat):Int):=by
 have h:a&&&b<2^64:=Nat.lt_of_le_of_lt Nat.and_le_left ha;have e:(BitVec.ofNat 64 a&&&BitVec.ofNat 64 b).toNat=a&&&b:=by rw[BitVec.toNat_and,BitVec.toNat_ofNat,BitVec.toNat_ofNat,Nat.mod_eq_of_lt ha,Nat.mod_eq_of_lt hb]
 have k:bits .and .u64 (a:Int) (b:Int)=IntKind.u64.wrap (((BitVec.ofInt 64 (a:Int)&&&BitVec.ofInt 64 (b:Int)).toNat:Nat):Int):=rfl;rw[k,BitVec.ofInt_natCast,BitVec.ofInt_natCast,e];exact wu ⟨om,om⟩
theorem AB(x r:Nat)(h:r≤64):IntKind.u64.wrap ((x:Int)*2^(min r IntKind.u64.bits))=((x*2^r%18446744073709551616:Nat):Int):=by
 rw[show min r IntKind.u64.bits=r from Nat.min_eq_left h,IntKind.wrap_u64];have:(x:Int)*2^r=((x*2^r:Nat):Int):=sy;rw[this];omega
theorem kR(x r:Nat)(h:r≤64):(x:Int).fdiv (2^(min r IntKind.u64.bits))=((x/2^r:Nat):Int):=by
 rw[show min r IntKind.u64.bits=r from Nat.min_eq_left h];have:(2:Int)^r=((2^r:Nat):Int):=sy;rw[this,Int.fdiv_eq_ediv_of_nonneg _ (Int.natCast_nonneg _)];rfl
theorem AL(r:Nat):(64-(r:Int)).toNat=64-r:=om
theorem I8(n:Nat):(n:Int).tmod 64=((n%64:Nat):Int):=rfl
theorem I9(n:Nat):(n:Int).tdiv 64=((n/64:Nat):Int):=rfl
theorem G6{x r low:Nat}(hr:r≤64)(hl:low<2^r):(x*2^r%18446744073709551616)|||low=x*2^r%18446744073709551616+low:=by
 have e:x*2^r%18446744073709551616=2^r*(x%2^(64-r)):=by
  rw[show 18446744073709551616=2^r*2^(64-r)from by rw[←Nat.pow_add,show r+(64-r)=64 from om],Nat.mul_comm x,Nat.mul_mod_mul_left]
 rw[e,←Nat.two_pow_add_eq_or_of_lt hl]
theorem Ci{x r low:Nat}(hr:r≤64)(hl:low<2^r):low|||(x*2^r%18446744073709551616)=low+x*2^r%18446744073709551616:=by
 rw[Nat.or_comm,G6 hr hl,Nat.add_comm]
theorem PV{V P x r:Nat}(hP:0<P)(hV:V<P)(hx:x<B)(hr:r≤64):
 ((V+P*x)*2^r)/P%B=x*2^r%18446744073709551616+V*2^r/P∧((V+P*x)*2^r)/(P*B)=x/2^(64-r)∧((V+P*x)*2^r)%P=(V*2^r)%P∧V*2^r/P<2^r:=by
 have hl:V*2^r/P<2^r:=(Nat.div_lt_iff_lt_mul hP).2 (by rw[Nat.mul_comm];exact Nat.mul_lt_mul_of_pos_left hV (Nat.pow_pos dc))
 have e:(V+P*x)*2^r=V*2^r+P*(x*2^r):=by rw[Nat.add_mul,Nat.mul_assoc]
 have eB:B=2^(64-r)*2^r:=by rw[←Nat.pow_add,show 64-r+r=64 from om];rfl
 have em:x*2^r%18446744073709551616=2^r*(x%2^(64-r)):=by
  rw[show 18446744073709551616=2^r*2^(64-r)from by rw[←Nat.pow_add,show r+(64-r)=64 from om],Nat.mul_comm x,Nat.mul_mod_mul_left]
 have e1:(V+P*x)*2^r/P=V*2^r/P+x*2^r:=by rw[e,Nat.add_mul_div_left _ _ hP]
 have hq:x*2^r/B=x/2^(64-r):=by rw[eB,Nat.mul_div_mul_right _ _ (Nat.pow_pos dc)]
 have hsum:V*2^r/P+x*2^r=(x*2^r%B+V*2^r/P)+B*(x*2^r/B):=by have:=Nat.mod_add_div (x*2^r) B;omega
 have hlt:x*2^r%B+V*2^r/P<B:=by
  have h1:x%2^(64-r)<2^(64-r):=Nat.mod_lt _ (Nat.pow_pos dc);have h2:2^r*(x%2^(64-r)+1)≤2^r*2^(64-r):=Nat.mul_le_mul_left _ h1;rw[show x*2^r%B=2^r*(x%2^(64-r))from em];rw[Nat.mul_add,Nat.mul_one,Nat.mul_comm (2^r) (2^(64-r)),←eB]at h2;omega
 have hB:0<B:=dc
 refine⟨?_,?_,?_,hl⟩
 ·rw[e1,hsum,Nat.add_mul_mod_self_left,Nat.mod_eq_of_lt hlt];rfl
 ·rw[←Nat.div_div_eq_div_mul,e1,hsum,Nat.add_mul_div_left _ _ hB,Nat.div_eq_of_lt hlt,Nat.zero_add,hq]
 ·rw[e,Nat.add_mul_mod_self_left]
theorem yU{X r:Nat}(h0:0<r)(hr:r<64):X/2^r%B=X%B/2^r+(X/B%B)*2^(64-r)%18446744073709551616∧X%B/2^r<2^(64-r):=by
 have eB:B=2^r*2^(64-r):=by rw[←Nat.pow_add,show r+(64-r)=64 from om];rfl
 have hlt:X%B/2^r<2^(64-r):=(Nat.div_lt_iff_lt_mul (Nat.pow_pos dc)).2 (by rw[Nat.mul_comm,←eB];exact Nat.mod_lt _ dc);refine⟨?_,hlt⟩;have e1:X/2^r=X%B/2^r+2^(64-r)*(X/B):=by
  have h1:=Nat.mod_add_div X B;have h2:X=X%B+2^r*(2^(64-r)*(X/B)):=by rw[←Nat.mul_assoc,←eB];omega
  calc X/2^r=(X%B+2^r*(2^(64-r)*(X/B)))/2^r:=by rw[←h2]
   _=_:=Nat.add_mul_div_left _ _ (Nat.pow_pos dc)
 have em:∀y,y*2^(64-r)%B=2^(64-r)*(y%2^r):=fun y=>by rw[eB,Nat.mul_comm y,Nat.mul_comm (2^r),Nat.mul_mod_mul_left]
 have em2:X/B%B*2^(64-r)%18446744073709551616=2^(64-r)*(X/B%2^r):=by
  rw[show(18446744073709551616:Nat)=B from rfl,em,eB,Nat.mod_mul_right_mod]
 have em3:2^(64-r)*(X/B)%B=2^(64-r)*(X/B%2^r):=by rw[Nat.mul_comm,em]
 rw[em2,e1];have h3:X%B/2^r+2^(64-r)*(X/B%2^r)<B:=by
  have h4:X/B%2^r<2^r:=Nat.mod_lt _ (Nat.pow_pos dc);have h5:2^(64-r)*(X/B%2^r+1)≤2^(64-r)*2^r:=Nat.mul_le_mul_left _ h4;rw[Nat.mul_add,Nat.mul_one,Nat.mul_comm _ (2^r),←eB]at h5;omega
 rw[Nat.add_mod,em3,Nat.mod_eq_of_lt (show X%B/2^r<B from om),Nat.mod_eq_of_lt h3]
def jv(a:List Nat)(n:Nat):List Nat:=List.replicate (n/64) 0++(if n%64=0 then a else fl B (a.length+1) (nv B a*2^(n%64)))
theorem yV(a:List Nat)(n:Nat):(jv a n).length≤n/64+a.length+1:=by
 unfold jv;rw[List.length_append,List.length_replicate];split
 ·omega
 ·rw[bC];omega
theorem AP{a:List Nat}(ha:Wd a)(n:Nat):Wd (jv a n):=by
 unfold jv;refine BV.2 ⟨yP dc,?_⟩;split
 ·exact ha
 ·exact jG dc _ _
theorem AQ{a:List Nat}(ha:Wd a)(n:Nat):nv B (jv a n)=nv B a*2^n:=by
 have e:(2:Nat)^n=B^(n/64)*2^(n%64):=by rw[Xj,←Nat.pow_mul,←Nat.pow_add,Nat.div_add_mod]
 unfold jv;rw[mr,tH,Nat.zero_add,List.length_replicate,e];split
 ·rename_i h;rw[h,Nat.pow_zero,Nat.mul_one,Nat.mul_comm]
 ·rw[kQ,Nat.mod_eq_of_lt,Nat.mul_left_comm];have h1:=b_ ha;have h2:2^(n%64)≤B:=by rw[Xj];exact Nat.pow_le_pow_right dc om
  rw[Nat.pow_succ];exact Nat.lt_of_lt_of_le (Nat.mul_lt_mul_of_pos_right h1 (Nat.pow_pos dc)) (Nat.mul_le_mul_left _ h2)
theorem AU(n:Nat):(2:Nat)^n=B^(n/64)*2^(n%64):=by rw[Xj,←Nat.pow_mul,←Nat.pow_add,Nat.div_add_mod]
theorem La{A n i:Nat}:A/2^n/B^i%B=A/B^(n/64+i)/2^(n%64)%B:=by
 rw[AU,Nat.div_div_eq_div_mul,Nat.div_div_eq_div_mul,Nat.pow_add];congr 2;rw[Nat.mul_right_comm]
end Go.Proofs.YtoehbmlfnjlchaaGreatDoor
namespace Go.Proofs.YtoehbmlfnjlchaaGreatDoor
open Go Go.RowKit Ab
def bl(x:Nat):Nat:=if x=0 then 0 else x.log2+1
theorem Ef(x:Nat):x<2^bl x:=by
 unfold bl;split
 ·omega
 ·exact Nat.lt_log2_self
theorem Eg{x:Nat}(h:x≠0):2^(bl x-1)≤x∧1≤bl x:=by
 unfold bl;rw[if_neg h];exact⟨Nat.log2_self_le h,om⟩
theorem Vl{x k:Nat}(h1:2^k≤x)(h2:x<2^(k+1)):bl x=k+1:=by
 have h0:x≠0:=by have:=Nat.two_pow_pos k;omega
 obtain⟨h3,h4⟩:=Eg h0;have h5:=Ef x;rcases Nat.lt_trichotomy (bl x) (k+1)with h|h|h
 ·have:=Nat.pow_le_pow_right (show 0<2 by decide) (show bl x≤k by omega);omega
 ·exact h
 ·have:=Nat.pow_le_pow_right (show 0<2 by decide) (show k+1≤bl x-1 by omega);omega
theorem Cj{x n:Nat}(h:2^n≤x):bl x=n+bl (x/2^n):=by
 have hp:=Nat.two_pow_pos n;have hq:x/2^n≠0:=by have:=(Nat.le_div_iff_mul_le hp).2 (by simpa using h:1*2^n≤x);omega
 obtain⟨h1,h2⟩:=Eg hq;have h3:=Ef (x/2^n);obtain⟨k,hk⟩:∃k,bl (x/2^n)=k+1:=⟨bl (x/2^n)-1,om⟩;rw[hk]at h1 h3 ⊢;rw[←Nat.add_assoc];refine Vl ?_ ?_
 ·rw[Nat.add_comm,Nat.pow_add];exact(Nat.le_div_iff_mul_le hp).1 h1
 ·rw[show n+k+1=(k+1)+n from om,Nat.pow_add];exact(Nat.div_lt_iff_lt_mul hp).1 h3
theorem pY{x:Nat}(h:x<18446744073709551616):bl x≤64:=by
 by_cases h0:x=0
 ·subst h0;decide
 ·obtain⟨h1,h2⟩:=Eg h0;rcases Nat.lt_or_ge 64 (bl x)with h3|h3
  ·have:=Nat.pow_le_pow_right (show 0<2 by decide) (show 64≤bl x-1 by omega);omega
  ·exact h3
theorem PX{fP kY u32 u1 q r:Nat}(h:q*fP+r=u32)(h2:q*kY≤4294967296*r+u1):q*(fP*4294967296+kY)≤u32*4294967296+u1:=by
 have e:q*(fP*4294967296+kY)=q*fP*4294967296+q*kY:=by rw[Nat.mul_add,Nat.mul_assoc]
 rw[e];generalize q*fP=a at *;generalize q*kY=c at *;omega
theorem PY{fP kY u32 u1 q r:Nat}(h:q*fP+r=u32)(h2:4294967296*r+u1<q*kY):u32*4294967296+u1<q*(fP*4294967296+kY):=by
 have e:q*(fP*4294967296+kY)=q*fP*4294967296+q*kY:=by rw[Nat.mul_add,Nat.mul_assoc]
 rw[e];generalize q*fP=a at *;generalize q*kY=c at *;omega
theorem xR{Y u32 u1 q:Nat}(hu:u32<Y)(h1:u1<4294967296)(hq:4294967296≤q):u32*4294967296+u1<q*Y:=by
 have:=Nat.mul_le_mul hq (show u32+1≤Y from hu);omega
theorem PZ{fP kY u32 u1:Nat}(h31:2147483648≤fP)(h0:kY<4294967296)(hu:u32<fP*4294967296+kY)(h1:u1<4294967296):
 u32/fP*fP+u32%fP=u32∧u32*4294967296+u1<(u32/fP+1)*(fP*4294967296+kY)∧u32/fP≤4294967297:=by
 have e:=Nat.div_add_mod u32 fP
 have hm:=Nat.mod_lt u32 (show 0<fP by omega)
 rw[Nat.mul_comm]at e
 refine⟨e,?_,?_⟩
 ·have h:(u32/fP+1)*(fP*4294967296+kY)=(u32/fP*fP+fP)*4294967296+(u32/fP+1)*kY:=by rw[Nat.mul_add,←Nat.mul_assoc,Nat.add_mul _ 1 fP,Nat.one_mul]
  rw[h];generalize u32/fP*fP=a at*
  generalize (u32/fP+1)*kY=c at*
  omega
 ·have:u32/fP<4294967298:=(Nat.div_lt_iff_lt_mul om).2 om;omega
theorem ji{Y N q:Nat}(h1:q*Y≤N)(h2:N<(q+1)*Y):q=N/Y:=by
 have hY:0<Y:=by
  rcases Nat.eq_zero_or_pos Y with h|h
  ·subst h;simp at h2
  ·exact h
 exact(Nat.div_eq_of_lt_le h1 h2).symm
theorem P5{Y N jP q r:Nat}(hY:0<Y)(e:Y*q+r=N):(N*4294967296+jP)/Y=q*4294967296+(r*4294967296+jP)/Y∧(N*4294967296+jP)%Y=(r*4294967296+jP)%Y:=by
 have h:N*4294967296+jP=(r*4294967296+jP)+Y*(q*4294967296):=by
  rw[←e,←Nat.mul_assoc];omega
 rw[h,Nat.add_mul_div_left _ _ hY,Nat.add_mul_mod_self_left,Nat.add_comm];exact⟨rfl,rfl⟩
theorem lT{Y N jP:Nat}(hY:0<Y):(N*4294967296+jP)/Y=N/Y*4294967296+(N%Y*4294967296+jP)/Y∧(N*4294967296+jP)%Y=(N%Y*4294967296+jP)%Y:=
 P5 hY (Nat.div_add_mod N Y)
theorem Lc{y:Nat}(h0:y≠0)(hy:y<18446744073709551616):9223372036854775808≤y*2^(64-bl y)∧y*2^(64-bl y)<18446744073709551616:=by
 obtain⟨h1,h2⟩:=Eg h0;have h3:=Ef y;have h4:=pY hy;constructor
 ·have:=Nat.mul_le_mul_right (2^(64-bl y)) h1;rw[←Nat.pow_add,show bl y-1+(64-bl y)=63 from om]at this;exact this
 ·have:=(Nat.mul_lt_mul_right (Nat.two_pow_pos (64-bl y))).2 h3;rw[←Nat.pow_add,show bl y+(64-bl y)=64 from om]at this;exact this
theorem Ld{lo s:Nat}(hs:s≤64):lo*2^s=lo/2^(64-s)*18446744073709551616+lo*2^s%18446744073709551616:=by
 have e:(18446744073709551616:Nat)=2^s*2^(64-s):=by rw[←Nat.pow_add,show s+(64-s)=64 from om]
 have h:=Nat.div_add_mod (lo*2^s) 18446744073709551616;have h2:lo*2^s/18446744073709551616=lo/2^(64-s):=by rw[e,Nat.mul_comm lo,Nat.mul_div_mul_left _ _ (Nat.two_pow_pos s)]
 rw[h2]at h;omega
theorem aax{lo s:Nat}(hs:s≤64)(hl:lo<18446744073709551616):lo/2^(64-s)<2^s:=by
 refine(Nat.div_lt_iff_lt_mul (Nat.two_pow_pos _)).2 ?_;rw[←Nat.pow_add,show s+(64-s)=64 from om];exact hl
theorem AV{U y s:Nat}:U*2^s/(y*2^s)=U/y∧U*2^s%(y*2^s)/2^s=U%y:=by
 refine⟨Nat.mul_div_mul_right _ _ (Nat.two_pow_pos s),?_⟩;rw[Nat.mul_mod_mul_right,Nat.mul_div_cancel _ (Nat.two_pow_pos s)]
end Go.Proofs.YtoehbmlfnjlchaaGreatDoor
namespace Go.Proofs.YtoehbmlfnjlchaaGreatDoor
open Go Go.RowKit Ab
def a67:AC:= .seq (.reg [qr 2 (.mv (.k .nl))]) (.seq (.seq (.reg [qm 3 0,qr 4 (.FP false (.t 3))]) (.cond (.t 4) (.seq (.reg [qr 2 (.mv (.k .nl))]) (.ret)) (.skip))) (.seq (.reg [qr 5 (.nz 54 1 0 [] []),qm 6 0,qr 7 (.app 54 1 8 (.t 5) (.t 6)),qm 2 7]) (.ret)))
theorem kE(a:List Nat)(ha:a.length≤1099511627776):aF Tryz.prog J0 67 [.l 1 (W a)] (.o 54 1 (W a)):=by
 refine ja dB eY Tryz.func67 a67 ?_;unfold a67;simp only[ak,aH,qm,qr,qn];rw[OZ];try simp only[Sv,↓reduceIte,Nat.reduceEqDiff]
 refine aI (fun K hK=>?_);refine dn trivial ?_;refine hK _ ?_;clear hK K;simp only[Sv];try simp only[Sv,↓reduceIte,Nat.reduceEqDiff]
 refine aI (fun K hK=>?_);refine dn trivial ?_;refine Y9 fun t ht=>?_
 refine dn trivial ?_;refine hK _ ?_;clear hK K;simp only[Sv,↓reduceIte];refine Zo (fun hc=>?_) (fun hc=>?_)
 ·try (refine hK _ ?_;clear hK K)
  refine aP trivial ?_;simp only[bne_eq_false_iff_eq,ne_eq,bne_iff_ne,Bool.not_eq_false]at hc;have:=ht hc;exact oC @this
 ·try (refine hK _ ?_;clear hK K)
  refine aP (ai @PK (ai @gQ (ai @Nat.div_one @aU))) ?_;exact oC trivial
def a101:AC:= .seq (.reg [qr 2 (.mv (.k (.i .i64 0)))]) (.seq (.reg [qm 4 0,qr 5 (.len (.t 4)),qm 3 5]) (.seq (.blk 0 (.loop (.seq (.seq (.reg [qm 6 3,qr 7 (.bin .gtr (.t 6) (.k (.i .i64 0))),qm 8 7,⟨some 9,some (8,true),.mv (.t 0)⟩,⟨some 10,some (8,true),.mv (.t 3)⟩,⟨some 11,some (8,true),.bin .sub (.t 10) (.k (.i .i64 1))⟩,⟨some 12,some (8,true),.idx 1 (.t 9) (.t 11)⟩,⟨some 13,some (8,true),.ld false 1 (.t 12)⟩,⟨some 14,some (8,true),.bin .eql (.t 13) (.k (.i .u64 0))⟩,qr 15 (.pick (.t 8) (.t 14) (.k (.b false)))]) (.cond (.t 15) (.skip) (.exit 0))) (.blk 1 (.reg [qm 16 3,qr 17 (.bin .sub (.t 16) (.k (.i .i64 1))),qm 3 17]))))) (.seq (.reg [qm 18 3,qm 2 18]) (.ret))))
theorem oG(a:List Nat)(ha:a.length≤1099511627776):aF Tryz.prog J0 101 [.l 1 (W a)] (.i .i64 ((tz a).length:Int)):=by
 refine ja dB eY Tryz.func101 a101 ?_;unfold a101;simp only[ak,aH,qm,qr,qn];refine aP (ai @Nat.div_one @aU) ?_;refine kH Nat (fun n=>⟨[(0,.l 1 (W a)),(3,.i .i64 (n:Int))],[],0⟩) (fun n=>n≤a.length∧tz a=tz (a.take n)) (fun n=>n) a.length [] ⟨om,by rw[List.take_length]⟩ (by
  simp(disch:=(first|omega|assumption)) only[Sl,Sa,Sw,↓reduceIte,Nat.reduceEqDiff,Nat.reduceLT,List.all_nil,List.all_cons,Nat.reduceBneDiff,Nat.reduceAdd,bne_iff_ne,ne_eq,reduceCtorEq,not_false_eq_true,not_true_eq_false,Bool.and_true,Bool.true_and,and_true,true_and,and_self]
  ) ?_
 intro n ⟨hn,ht⟩ Q' hQ he hr;by_cases h0:0<(n:Int)
 ·by_cases h1:((a.getD (n-1) 0:Nat):Int)=0
  ·refine aP (ai @Nat.mul_one (ai @rP (ai @wi (ai @dD (ai @aU (ai @h1 @h0)))))) ?_;refine hQ _ (n-1) [] ⟨om,?_⟩ om ?_
   ·obtain⟨m,rfl⟩:∃m,n=m+1:=⟨n-1,om⟩;rw[ht];exact uM a m om (by simpa using h1)
   ·refine iP trivial ?_;omega
  ·refine aP (ai @Nat.mul_one (ai @rP (ai @wi (ai @dD (ai @aU (ai @h1 @h0)))))) ?_;refine he _ _ ?_;refine aP trivial ?_;refine rO @iE ?_;obtain⟨m,rfl⟩:∃m,n=m+1:=⟨n-1,om⟩;rw[ht,GZ a m om (by simpa using h1)]
 ·refine aP @h0 ?_;refine he _ _ ?_;refine aP trivial ?_;refine rO @iE ?_;obtain rfl:n=0:=om;rw[ht];rfl
def a74:AC:= .seq (.reg [qr 2 (.mv (.k .nl))]) (.seq (.reg [qm 3 0,qm 4 0,qr 5 (.call 101 [(1,(.t 4))]),qr 6 (.sub 1 (.t 3) none (some (.t 5))),qr 7 (.call 67 [(1,(.t 6))]),qm 2 7]) (.ret))
theorem oH(a:List Nat)(ha:a.length≤1099511627776):aF Tryz.prog J0 74 [.l 1 (W a)] (.o 54 1 (W (tz a))):=by
 refine ja dB eY Tryz.func74 a74 ?_;unfold a74;simp only[ak,aH,qm,qr,qn];have hl:=mF a;refine aP trivial ?_;try simp only[Sv,↓reduceIte,Nat.reduceEqDiff]
 refine aI (fun K hK=>?_);refine dn trivial ?_;refine jh trivial (oG a ha) ?_;refine dn (ai @xQ (ai @mJ (ai @bI (ai @Nat.mul_one @aU)))) ?_;refine jh trivial (kE (tz a) om) ?_;refine dn (ai @Nat.div_one @aU) ?_;refine hK _ ?_;clear hK K;try (refine hK _ ?_;clear hK K)
 refine aP trivial ?_;exact oC trivial
def a90:AC:= .seq (.reg [qr 4 (.mv (.k (.i .u64 0)))]) (.seq (.seq (.reg [qm 5 1,qm 6 0,qr 7 (.len (.t 6)),qr 8 (.bin .lss (.t 5) (.t 7))]) (.cond (.t 8) (.seq (.reg [qm 9 0,qm 10 1,qr 11 (.idx 1 (.t 9) (.t 10)),qr 12 (.ld false 1 (.t 11)),qm 4 12]) (.ret)) (.skip))) (.seq (.reg [qr 4 (.mv (.k (.i .u64 0)))]) (.ret)))
theorem jk(a:List Nat)(i:Nat):aF Tryz.prog J0 90 [.l 1 (W a),.i .i64 i] (.i .u64 ((a.getD i 0:Nat):Int)):=by
 refine ja dB eY Tryz.func90 a90 ?_;unfold a90;simp only[ak,aH,qm,qr,qn];by_cases h:(i:Int)<a.length
 ·refine aP (ai @bI (ai @Nat.mul_one (ai @Nat.div_one (ai @dD (ai @aU @h))))) ?_;exact oC trivial
 ·refine aP (ai @bI (ai @Nat.mul_one (ai @Nat.div_one (ai @dD (ai @aU @h))))) ?_;refine rO @iE ?_;rw[List.getD_eq_getElem?_getD,List.getElem?_eq_none om];rfl
def a89:AC:= .seq (.reg [qr 6 (.mv (.k (.i .u64 0))),qr 7 (.mv (.k (.i .u64 0)))]) (.seq (.reg [qm 12 0,qm 13 1,qr 14 (.jU 108 [(.t 12),(.t 13),(.k (.i .u64 0))]),qm 11 14,qr 15 (.ext (.t 11) 0),qr 16 (.ext (.t 11) 1),qm 8 15,qm 9 16]) (.seq (.reg [qm 18 8,qm 19 2,qr 20 (.jU 108 [(.t 18),(.t 19),(.k (.i .u64 0))]),qm 17 20,qr 21 (.ext (.t 17) 0),qr 22 (.ext (.t 17) 1),qm 8 21,qm 10 22]) (.seq (.reg [qm 23 8,qm 24 9,qm 25 10,qr 26 (.bin .add (.t 24) (.t 25)),qm 6 23,qm 7 26]) (.ret))))
theorem oI(x y c:Nat)(hx:x<18446744073709551616)(hy:y<18446744073709551616)(hc:c<18446744073709551616):
 aF Tryz.prog J0 89 [.i .u64 x,.i .u64 y,.i .u64 c] (.t [.i .u64 (((x+y+c)%18446744073709551616:Nat):Int),.i .u64 (((x+y+c)/18446744073709551616:Nat):Int)]):=by
 refine ja dB eY Tryz.func89 a89 ?_
 unfold a89
 simp only[ak,aH,qm,qr,qn]
 refine aP trivial ?_
 try simp only[Sv,↓reduceIte,Nat.reduceEqDiff]
 refine aI (fun K hK=>?_)
 refine dn trivial ?_
 refine mg _ (nH x y) ?_
 refine dn trivial ?_
 refine hK _ ?_
 clear hK K
 try (refine hK _ ?_;clear hK K)
 refine aP trivial ?_
 try simp only[Sv,↓reduceIte,Nat.reduceEqDiff]
 refine aI (fun K hK=>?_)
 refine dn trivial ?_
 refine mg _ (nH ((x+y)%18446744073709551616) c) ?_
 refine dn trivial ?_
 refine hK _ ?_
 clear hK K
 try (refine hK _ ?_;clear hK K)
 refine aP @wu ?_
 refine rO @iE ?_
 omega
def a109:AC:= .seq (.reg [qr 6 (.mv (.k (.i .u64 0))),qr 7 (.mv (.k (.i .u64 0)))]) (.seq (.reg [qm 12 0,qm 13 1,qr 14 (.jU 100 [(.t 12),(.t 13),(.k (.i .u64 0))]),qm 11 14,qr 15 (.ext (.t 11) 0),qr 16 (.ext (.t 11) 1),qm 8 15,qm 9 16]) (.seq (.reg [qm 18 8,qm 19 2,qr 20 (.jU 100 [(.t 18),(.t 19),(.k (.i .u64 0))]),qm 17 20,qr 21 (.ext (.t 17) 0),qr 22 (.ext (.t 17) 1),qm 8 21,qm 10 22]) (.seq (.reg [qm 23 8,qm 24 9,qm 25 10,qr 26 (.bin .add (.t 24) (.t 25)),qm 6 23,qm 7 26]) (.ret))))
theorem AY(x y c:Nat)(hx:x<18446744073709551616)(hy:y<18446744073709551616)(hc:c≤1):
 aF Tryz.prog J0 109 [.i .u64 x,.i .u64 y,.i .u64 c] (.t [.i .u64 (((x+18446744073709551616-(y+c))%18446744073709551616:Nat):Int),.i .u64 ((if x<y+c then 1 else 0:Nat):Int)]):=by
 refine ja dB eY Tryz.func109 a109 ?_
 unfold a109
 simp only[ak,aH,qm,qr,qn]
 refine aP trivial ?_
 try simp only[Sv,↓reduceIte,Nat.reduceEqDiff]
 refine aI (fun K hK=>?_)
 refine dn trivial ?_
 refine mg _ (Cf x y hy) ?_
 refine dn trivial ?_
 refine hK _ ?_
 clear hK K
 try (refine hK _ ?_;clear hK K)
 refine aP trivial ?_
 try simp only[Sv,↓reduceIte,Nat.reduceEqDiff]
 refine aI (fun K hK=>?_)
 refine dn trivial ?_
 refine mg _ (Cf ((x+18446744073709551616-y)%18446744073709551616) c om) ?_
 refine dn trivial ?_
 refine hK _ ?_
 clear hK K
 try (refine hK _ ?_;clear hK K)
 refine aP trivial ?_
 refine rO @iE ?_
 constructor
 ·omega
 ·rw[wu (by split<;>split<;>omega)];split<;>split<;>split<;>omega
end Go.Proofs.YtoehbmlfnjlchaaGreatDoor
namespace Go.Proofs.YtoehbmlfnjlchaaGreatDoor
open Go Go.RowKit Ab
theorem Eh(n:Nat):(List.replicate n [V.i .u64 0]).flatten=W (List.replicate n 0):=by
 induction n with
 |zero=>rfl
 |succ n ih=>rw[List.replicate_succ,List.flatten_cons,ih,List.replicate_succ];rfl
theorem mx(a b:Nat):max (a:Int) (b:Int)=((max a b:Nat):Int):=om
theorem Ei{a b:List Nat}(h:a=b):W a=W b:=by rw[h]
theorem Vm(n x:Nat):(List.replicate n x).length=n:=sy
def a91:AC:= .seq (.reg [qr 4 (.mv (.k .nl)),qr 5 (.mv (.k (.i .u64 0)))]) (.seq (.reg [qm 9 0,qr 10 (.len (.t 9)),qm 11 1,qr 12 (.len (.t 11)),qr 13 (.mm true (.t 10) (.t 12)),qr 14 (.mk 54 1 8 [(.i .u64 0)] (.t 13) (.t 13)),qm 6 14]) (.seq (.reg [qr 7 (.mv (.k (.i .u64 0)))]) (.seq (.seq (.reg [qm 15 6,qr 16 (.len (.t 15)),qr 17 (.mv (.k (.i .i64 0)))]) (.blk 0 (.loop (.seq (.reg [qr 18 (.bin .lss (.t 17) (.t 16))]) (.seq (.cond (.t 18) (.skip) (.exit 0)) (.seq (.blk 1 (.seq (.reg [qm 19 17,qm 8 19]) (.reg [qm 21 6,qm 22 8,qm 23 0,qm 24 8,qr 25 (.call 90 [(1,(.t 23)),(1,(.t 24))]),qm 26 1,qm 27 8,qr 28 (.call 90 [(1,(.t 26)),(1,(.t 27))]),qm 29 7,qr 30 (.call 109 [(1,(.t 25)),(1,(.t 28)),(1,(.t 29))]),qm 20 30,qr 31 (.ext (.t 20) 0),qr 32 (.ext (.t 20) 1),qr 33 (.idx 1 (.t 21) (.t 22)),qn (.st 1 (.t 33) (.t 31)),qm 7 32]))) (.reg [qr 34 (.bin .add (.t 17) (.k (.i .i64 1))),qm 17 34]))))))) (.seq (.reg [qm 35 6,qm 36 7,qm 4 35,qm 5 36]) (.ret)))))
theorem pG(a b:List Nat)(ha:Wd a)(hb:Wd b)(la:a.length≤1099511627776)(lb:b.length≤1099511627776):
 aF Tryz.prog J0 91 [.l 1 (W a),.l 1 (W b)] (.t [.l 1 (W (fl B (max a.length b.length) (nv B a+B^(max a.length b.length)-nv B b))),.i .u64 ((if nv B a<nv B b then 1 else 0:Nat):Int)]):=by
 refine ja dB eY Tryz.func91 a91 ?_
 unfold a91
 simp only[ak,aH,qm,qr,qn]
 generalize hm:max a.length b.length=m
 have hm':m≤1099511627776:=om
 refine aP (ai @bI (ai @Eh (ai @hm (ai @mx (ai @Nat.div_one @aU))))) ?_
 refine kH Nat (fun i=>⟨[(0,.l 1 (W a)),(1,.l 1 (W b)),(6,.ow 1 0 m),(7,.i .u64 ((if nv B (a.take i)<nv B (b.take i)then 1 else 0:Nat):Int)),(16,.i .i64 (m:Int)),(17,.i .i64 (i:Int))],
  [(0,some ⟨54,1,W (fl B i (nv B (a.take i)+B^i-nv B (b.take i))++List.replicate (m-i) 0),true,false⟩)],1⟩)
  (fun i=>i≤m) (fun i=>m-i) 0 [(0,7)] (Nat.zero_le _) (by
  simp(disch:=(first|omega|assumption)) only[Sl,Sa,Sw,↓reduceIte,Nat.reduceEqDiff,Nat.reduceLT,List.all_nil,List.all_cons,Nat.reduceBneDiff,Nat.reduceAdd,bne_iff_ne,ne_eq,reduceCtorEq,not_false_eq_true,not_true_eq_false,Bool.and_true,Bool.true_and,and_true,true_and,and_self]
  exact⟨⟨by simp[nv],rfl⟩,Ei (by simp[fl])⟩) ?_
 intro i hi Q' hQ he hr
 by_cases h:(i:Int)<m
 ·have lf:(fl B i (nv B (a.take i)+B^i-nv B (b.take i))).length=i:=bC _ _;generalize hc:(if nv B (a.take i)<nv B (b.take i)then 1 else 0:Nat)=c;have hc1:c≤1:=by rw[←hc];split<;>omega
  generalize hl:fl B i (nv B (a.take i)+B^i-nv B (b.take i))=l at lf;refine aP @h ?_;try simp only[Sv,↓reduceIte,Nat.reduceEqDiff]
  refine aI (fun K hK=>?_);refine dn trivial ?_;refine jh trivial (jk a i) ?_;refine dn trivial ?_;refine jh trivial (jk b i) ?_;refine dn trivial ?_;refine jh trivial (AY (a.getD i 0) (b.getD i 0) c (dI ha i) (dI hb i) hc1) ?_;have ll:(l++List.replicate (m-i) 0).length=m:=by rw[List.length_append,lf,Vm];omega
  refine dn (ai @ll (ai @je (ai @Nat.mul_one (ai @bI @aU)))) ?_;refine hK _ ?_;clear hK K;try (refine hK _ ?_;clear hK K)
  refine aP @wi ?_;refine hQ _ (i+1) [] om om ?_;have st:=yS (b:=B) (P:=B^i) (Nat.pow_pos dc) (bV (b:=B) dc ha i) (bV (b:=B) dc hb i) (show a.getD i 0<B from dI ha i) (show b.getD i 0<B from dI hb i);rw[hc]at st;obtain⟨s1,s2,s3⟩:=st;refine iP trivial ?_;refine⟨⟨?_,om⟩,Ei ?_⟩
  ·rw[au,au];simp only[s3]
  ·have e:nv B (a.take (i+1))+B^(i+1)-nv B (b.take (i+1))=nv B (a.take i)+B^i*a.getD i 0+B^i*B-(nv B (b.take i)+B^i*b.getD i 0):=by rw[au,au,Nat.pow_succ]
   rw[e,dP,dZ dc s2,hl,s1];obtain⟨k,hk⟩:∃k,m-i=k+1:=⟨m-i-1,om⟩;rw[hk,List.replicate_succ,show m-(i+1)=k from om,List.set_append_right _ _ om,lf,Nat.sub_self,List.set_cons_zero,List.append_assoc];rfl
 ·obtain rfl:i=m:=om;try (refine hK _ ?_;clear hK K)
  refine aP @h ?_;refine he _ _ ?_;try (refine hK _ ?_;clear hK K)
  refine aP trivial ?_;refine rO @KU ?_;rw[List.take_of_length_le om,List.take_of_length_le om];simp
def sg(x y:Nat):Int:=if x<y then-1 else if x=y then 0 else 1
def a94:AC:= .seq (.reg [qr 4 (.mv (.k (.i .i64 0)))]) (.seq (.reg [qm 9 0,qr 10 (.len (.t 9)),qm 11 1,qr 12 (.len (.t 11)),qr 13 (.mm true (.t 10) (.t 12)),qm 5 13]) (.seq (.skip) (.seq (.seq (.reg [qm 14 5,qr 15 (.bin .sub (.t 14) (.k (.i .i64 1))),qm 6 15]) (.blk 0 (.loop (.seq (.seq (.reg [qm 16 6,qr 17 (.bin .geq (.t 16) (.k (.i .i64 0)))]) (.cond (.t 17) (.skip) (.exit 0))) (.seq (.blk 1 (.seq (.reg [qm 20 0,qm 21 6,qr 22 (.call 90 [(1,(.t 20)),(1,(.t 21))]),qm 23 1,qm 24 6,qr 25 (.call 90 [(1,(.t 23)),(1,(.t 24))]),qm 7 22,qm 8 25]) (.seq (.blk 2 (.seq (.reg [qm 27 7,qm 28 8,qr 29 (.bin .eql (.t 27) (.t 28)),qm 26 29]) (.cond (.t 26) (.exit 1) (.seq (.reg [qm 31 7,qm 32 8,qr 33 (.bin .lss (.t 31) (.t 32)),qm 30 33]) (.cond (.t 30) (.seq (.reg [qr 4 (.mv (.k (.i .i64 (-1))))]) (.ret)) (.skip)))))) (.seq (.reg [qr 4 (.mv (.k (.i .i64 1)))]) (.ret))))) (.reg [qm 18 6,qr 19 (.bin .sub (.t 18) (.k (.i .i64 1))),qm 6 19])))))) (.seq (.reg [qr 4 (.mv (.k (.i .i64 0)))]) (.ret)))))
theorem Cm(a b:List Nat)(ha:Wd a)(hb:Wd b)(la:a.length≤1099511627776)(lb:b.length≤1099511627776):
 aF Tryz.prog J0 94 [.l 1 (W a),.l 1 (W b)] (.i .i64 (sg (nv B a) (nv B b))):=by
 refine ja dB eY Tryz.func94 a94 ?_
 unfold a94
 simp only[ak,aH,qm,qr,qn]
 generalize hm:max a.length b.length=m
 refine aP (ai @wi (ai @hm (ai @mx (ai @Nat.div_one @aU)))) ?_
 refine kH Nat (fun i=>⟨[(0,.l 1 (W a)),(1,.l 1 (W b)),(6,.i .i64 ((i:Int)-1))],[],0⟩)
  (fun i=>i≤m∧∀j,i≤j→a.getD j 0=b.getD j 0) (fun i=>i) m [] ⟨Nat.le_refl _,fun j hj=>by rw[List.getD_eq_getElem?_getD,List.getD_eq_getElem?_getD,List.getElem?_eq_none om,List.getElem?_eq_none om]⟩ (by exact ni) ?_
 intro i ⟨hi,hj⟩ Q' hQ he hr
 by_cases h:(0:Int)≤(i:Int)-1
 ·obtain⟨n,rfl⟩:∃n,i=n+1:=⟨i-1,om⟩;have e:((n+1:Nat):Int)-1=(n:Int):=om;have h:(0:Int)≤(n:Int):=om;simp only[e];refine aP @h ?_;try simp only[Sv,↓reduceIte,Nat.reduceEqDiff]
  refine aI (fun K hK=>?_);refine dn trivial ?_;refine jh trivial (jk a n) ?_;refine dn trivial ?_;refine jh trivial (jk b n) ?_;refine dn trivial ?_;refine hK _ ?_;clear hK K;by_cases h1:((a.getD n 0:Nat):Int)=((b.getD n 0:Nat):Int)
  ·have hj':∀j,n≤j→a.getD j 0=b.getD j 0:=fun j h3=>by
    rcases Nat.lt_or_ge n j with h4|h4
    ·exact hj j h4
    ·obtain rfl:j=n:=om;omega
   simp only[h1];try (refine hK _ ?_;clear hK K)
   refine aP @wi ?_;exact hQ _ n [] ⟨om,hj'⟩ om (by exact ni)
  ·have c1:=(mM (B:=B) (n+1) hj).1;have c2:=(mM (B:=B) (n+1) hj).2;by_cases h2:((a.getD n 0:Nat):Int)<((b.getD n 0:Nat):Int)
   ·try (refine hK _ ?_;clear hK K)
    refine aP (ai @h2 @h1) ?_;refine hr _ ?_;have c3:=vZ (b:=B) dc ha hb n om;have c4:nv B a<nv B b:=c1.1 c3;refine rO @iE ?_;simp[sg,c4]
   ·try (refine hK _ ?_;clear hK K)
    refine aP (ai @h2 @h1) ?_;refine hr _ ?_;have c3:=vZ (b:=B) dc hb ha n om;have c4:¬nv B a<nv B b:=fun h=>by have:=c1.2 h;omega
    have c5:¬nv B a=nv B b:=fun h=>by have:=c2.2 h;omega
    refine rO @iE ?_;simp[sg,c4,c5]
 ·obtain rfl:i=0:=om;try (refine hK _ ?_;clear hK K)
  refine aP @h ?_;refine he _ _ ?_;try (refine hK _ ?_;clear hK K)
  refine aP trivial ?_;have c2:=(mM (B:=B) 0 hj).2.1 rfl;refine rO @iE ?_;simp[sg,c2]
end Go.Proofs.YtoehbmlfnjlchaaGreatDoor
namespace Go.Proofs.YtoehbmlfnjlchaaGreatDoor
open Go Go.RowKit Ab
theorem P6{a b:List Nat}{i:Nat}(ha:Wd a)(hi:b.length≤i)(hia:i≤a.length)(hc:(nv B (a.take i)+nv B (b.take i))/B^i=0):
 fl B i (nv B (a.take i)+nv B (b.take i))++a.drop i=fl B a.length (nv B a+nv B b)∧(nv B a+nv B b)/B^a.length=0:=by
 rw[List.take_of_length_le hi]at hc ⊢
 have h0:nv B (a.take i)+nv B b<B^i:=by
  rcases Nat.lt_or_ge (nv B (a.take i)+nv B b) (B^i)with h|h
  ·exact h
  ·have:=(Nat.le_div_iff_mul_le (Nat.pow_pos (by decide:0<B))).2 (by simpa using h:1*B^i≤_);omega
 have h1:=pF (b:=B) a i hia
 have hd:=b_ (BZ ha i)
 rw[List.length_drop]at hd
 have e:nv B a+nv B b=(nv B (a.take i)+nv B b)+B^i*nv B (a.drop i):=om
 have hl:a.length=i+(a.length-i):=om
 have hlt:nv B a+nv B b<B^a.length:=by
  rw[e,hl,Nat.pow_add];have:=Nat.mul_le_mul_left (B^i) hd;rw[Nat.mul_succ]at this;omega
 refine⟨?_,Nat.div_eq_of_lt hlt⟩
 rw[hl,vX,e,Nat.add_mul_div_left _ _ (Nat.pow_pos dc),Nat.div_eq_of_lt h0,Nat.zero_add]
 congr 1
 ·exact dZ dc (by rw[Nat.add_mul_mod_self_left])
 ·have:=Az (BZ ha i);rw[List.length_drop]at this;exact this.symm
def a65:AC:= .seq (.reg [qr 4 (.mv (.k .nl)),qr 5 (.mv (.k (.i .u64 0)))]) (.seq (.seq (.reg [qm 9 0,qr 10 (.len (.t 9)),qm 11 1,qr 12 (.len (.t 11)),qr 13 (.bin .lss (.t 10) (.t 12))]) (.cond (.t 13) (.reg [qm 14 1,qm 15 0,qm 0 14,qm 1 15]) (.skip))) (.seq (.reg [qm 16 0,qr 17 (.call 67 [(1,(.t 16))]),qm 6 17]) (.seq (.reg [qr 7 (.mv (.k (.i .u64 0)))]) (.seq (.skip) (.seq (.seq (.reg [qm 18 6,qr 19 (.len (.t 18)),qr 20 (.mv (.k (.i .i64 0)))]) (.blk 0 (.loop (.seq (.reg [qr 21 (.bin .lss (.t 20) (.t 19))]) (.seq (.cond (.t 21) (.skip) (.exit 0)) (.seq (.blk 1 (.seq (.reg [qm 22 20,qm 8 22]) (.seq (.seq (.reg [qm 23 8,qm 24 1,qr 25 (.len (.t 24)),qr 26 (.bin .geq (.t 23) (.t 25)),qm 27 26,⟨some 28,some (27,true),.mv (.t 7)⟩,⟨some 29,some (27,true),.bin .eql (.t 28) (.k (.i .u64 0))⟩,qr 30 (.pick (.t 27) (.t 29) (.k (.b false)))]) (.cond (.t 30) (.exit 0) (.skip))) (.gp [qm 32 6,qm 33 8,qm 34 0,qm 35 8,qr 36 (.idx 1 (.t 34) (.t 35)),qr 37 (.ld false 1 (.t 36)),qm 38 1,qm 39 8,qr 40 (.call 90 [(1,(.t 38)),(1,(.t 39))]),qm 41 7,qr 42 (.call 89 [(1,(.t 37)),(1,(.t 40)),(1,(.t 41))]),qm 31 42,qr 43 (.ext (.t 31) 0),qr 44 (.ext (.t 31) 1),qr 45 (.idx 1 (.t 32) (.t 33)),qn (.st 1 (.t 45) (.t 43)),qm 7 44])))) (.reg [qr 46 (.bin .add (.t 20) (.k (.i .i64 1))),qm 20 46]))))))) (.seq (.reg [qm 47 6,qm 48 7,qm 4 47,qm 5 48]) (.ret)))))))
theorem yX(a b:List Nat)(ha:Wd a)(hb:Wd b)(la:a.length≤1099511627776)(lb:b.length≤1099511627776):
 aF Tryz.prog J0 65 [.l 1 (W a),.l 1 (W b)] (.fr (.t [.l 1 (W (fl B (max a.length b.length) (nv B a+nv B b))),.i .u64 (((nv B a+nv B b)/B^(max a.length b.length):Nat):Int)])):=by
 refine ja dB eY Tryz.func65 a65 ?_
 unfold a65
 simp only[ak,aH,qm,qr,qn]
 by_cases hab:(a.length:Int)<b.length
 ·refine aP (ai @hab (ai @Nat.div_one @aU)) ?_;try simp only[Sv,↓reduceIte,Nat.reduceEqDiff]
  refine aI (fun K hK=>?_);refine dn trivial ?_;refine jh trivial (kE b om) ?_;refine dn (ai @gU (ai @Nat.div_one @aU)) ?_;refine hK _ ?_;clear hK K;try (refine hK _ ?_;clear hK K)
  refine aP (ai @Nat.div_one @aU) ?_;refine kH Nat (fun i=>⟨[(0,.l 1 (W b)),(1,.l 1 (W a)),(6,.ow 1 0 b.length),(7,.i .u64 (((nv B (b.take i)+nv B (a.take i))/B^i:Nat):Int)),(19,.i .i64 (b.length:Int)),(20,.i .i64 (i:Int))],
   [(0,some ⟨54,1,W (fl B i (nv B (b.take i)+nv B (a.take i))++b.drop i),true,false⟩)],1⟩)
   (fun i=>i≤b.length) (fun i=>b.length-i) 0 [(0,12)] (Nat.zero_le _) (by
   simp(disch:=(first|omega|assumption)) only[Sl,Sa,Sw,↓reduceIte,Nat.reduceEqDiff,Nat.reduceLT,List.all_nil,List.all_cons,Nat.reduceBneDiff,Nat.reduceAdd,bne_iff_ne,ne_eq,reduceCtorEq,not_false_eq_true,not_true_eq_false,Bool.and_true,Bool.true_and,and_true,true_and,and_self]
   exact⟨⟨by simp[nv],rfl⟩,Ei (by simp[fl])⟩) ?_
  intro i hi Q' hQ he hr;have em:max a.length b.length=b.length:=om;have en:nv B a+nv B b=nv B b+nv B a:=om;have lf:(fl B i (nv B (b.take i)+nv B (a.take i))).length=i:=bC _ _;generalize hc:(nv B (b.take i)+nv B (a.take i))/B^i=c;have hcB:c≤1:=by
   have h1:=bV (b:=B) dc hb i;have h2:=bV (b:=B) dc ha i;rw[←hc];exact Nat.le_of_lt_succ ((Nat.div_lt_iff_lt_mul (Nat.pow_pos dc)).2 om)
  by_cases h:(i:Int)<b.length
  ·by_cases h1:(a.length:Int)≤i
   ·by_cases h2:(c:Int)=0
    ·try (refine hK _ ?_;clear hK K)
     refine aP (ai @Nat.div_one (ai @aU (ai @h2 (ai @h1 @h)))) ?_;refine he _ _ ?_;try (refine hK _ ?_;clear hK K)
     refine aP trivial ?_;obtain⟨e1,e2⟩:=P6 (a:=b) (b:=a) (i:=i) hb om hi om;refine rO (ai @iE (ai @gU @KU)) ?_;rw[em,en,e1,e2];exact⟨rfl,rfl⟩
    ·try (refine hK _ ?_;clear hK K)
     refine aP (ai @Nat.div_one (ai @aU (ai @h2 (ai @h1 @h)))) ?_;try simp only[Sv,↓reduceIte,Nat.reduceEqDiff]
     first|refine aT (fun K hK=>?_)|refine aK (fun K hK=>?_)
     refine dn (ai @Nat.mul_one (ai @bI (ai @dD @aU))) ?_;refine jh trivial (jk a i) ?_;refine dn trivial ?_;refine jh trivial (oI (b.getD i 0) (a.getD i 0) c (dI hb i) (dI ha i) om) ?_;have ll:(fl B i (nv B (b.take i)+nv B (a.take i))++b.drop i).length=b.length:=by rw[List.length_append,lf,List.length_drop];omega
     refine dn (ai @ll (ai @je (ai @Nat.mul_one (ai @bI @aU)))) ?_;refine hK _ ?_;clear hK K;try (refine hK _ ?_;clear hK K)
     refine aP @wi ?_;refine hQ _ (i+1) [] om om ?_;obtain⟨s1,s2,s3⟩:=qK (b:=B) (P:=B^i) (A:=nv B (b.take i)) (Y:=nv B (a.take i)) (x:=b.getD i 0) (y:=a.getD i 0) (Nat.pow_pos dc) dc;rw[hc]at s1 s3;refine iP trivial ?_;refine⟨⟨?_,om⟩,Ei ?_⟩
     ·rw[au,au,Nat.pow_succ,s3];rfl
     ·rw[au,au,dP,dZ dc s2,s1,List.drop_eq_getElem_cons (by omega:i<b.length),List.set_append_right _ _ om,lf,Nat.sub_self,List.set_cons_zero,List.append_assoc];rfl
   ·try (refine hK _ ?_;clear hK K)
    refine aP (ai @Nat.div_one (ai @aU (ai @h1 @h))) ?_;try simp only[Sv,↓reduceIte,Nat.reduceEqDiff]
    first|refine aT (fun K hK=>?_)|refine aK (fun K hK=>?_)
    refine dn (ai @Nat.mul_one (ai @bI (ai @dD @aU))) ?_;refine jh trivial (jk a i) ?_;refine dn trivial ?_;refine jh trivial (oI (b.getD i 0) (a.getD i 0) c (dI hb i) (dI ha i) om) ?_;have ll:(fl B i (nv B (b.take i)+nv B (a.take i))++b.drop i).length=b.length:=by rw[List.length_append,lf,List.length_drop];omega
    refine dn (ai @ll (ai @je (ai @Nat.mul_one (ai @bI @aU)))) ?_;refine hK _ ?_;clear hK K;try (refine hK _ ?_;clear hK K)
    refine aP @wi ?_;refine hQ _ (i+1) [] om om ?_;obtain⟨s1,s2,s3⟩:=qK (b:=B) (P:=B^i) (A:=nv B (b.take i)) (Y:=nv B (a.take i)) (x:=b.getD i 0) (y:=a.getD i 0) (Nat.pow_pos dc) dc;rw[hc]at s1 s3;refine iP trivial ?_;refine⟨⟨?_,om⟩,Ei ?_⟩
    ·rw[au,au,Nat.pow_succ,s3];rfl
    ·rw[au,au,dP,dZ dc s2,s1,List.drop_eq_getElem_cons (by omega:i<b.length),List.set_append_right _ _ om,lf,Nat.sub_self,List.set_cons_zero,List.append_assoc];rfl
  ·obtain rfl:i=b.length:=om;try (refine hK _ ?_;clear hK K)
   refine aP @h ?_;refine he _ _ ?_;try (refine hK _ ?_;clear hK K)
   refine aP trivial ?_;refine rO (ai @iE (ai @gU @KU)) ?_;rw[em,en,←hc,List.take_of_length_le (Nat.le_refl _),List.take_of_length_le om,List.drop_of_length_le (Nat.le_refl _),List.append_nil];exact⟨rfl,rfl⟩
 ·try (refine hK _ ?_;clear hK K)
  refine aP (ai @hab (ai @Nat.div_one @aU)) ?_;try simp only[Sv,↓reduceIte,Nat.reduceEqDiff]
  refine aI (fun K hK=>?_);refine dn trivial ?_;refine jh trivial (kE a om) ?_;refine dn (ai @gU (ai @Nat.div_one @aU)) ?_;refine hK _ ?_;clear hK K;try (refine hK _ ?_;clear hK K)
  refine aP (ai @Nat.div_one @aU) ?_;refine kH Nat (fun i=>⟨[(0,.l 1 (W a)),(1,.l 1 (W b)),(6,.ow 1 0 a.length),(7,.i .u64 (((nv B (a.take i)+nv B (b.take i))/B^i:Nat):Int)),(19,.i .i64 (a.length:Int)),(20,.i .i64 (i:Int))],
   [(0,some ⟨54,1,W (fl B i (nv B (a.take i)+nv B (b.take i))++a.drop i),true,false⟩)],1⟩)
   (fun i=>i≤a.length) (fun i=>a.length-i) 0 [(0,8)] (Nat.zero_le _) (by
   simp(disch:=(first|omega|assumption)) only[Sl,Sa,Sw,↓reduceIte,Nat.reduceEqDiff,Nat.reduceLT,List.all_nil,List.all_cons,Nat.reduceBneDiff,Nat.reduceAdd,bne_iff_ne,ne_eq,reduceCtorEq,not_false_eq_true,not_true_eq_false,Bool.and_true,Bool.true_and,and_true,true_and,and_self]
   exact⟨⟨by simp[nv],rfl⟩,Ei (by simp[fl])⟩) ?_
  intro i hi Q' hQ he hr;have em:max a.length b.length=a.length:=om;have en:nv B a+nv B b=nv B a+nv B b:=om;have lf:(fl B i (nv B (a.take i)+nv B (b.take i))).length=i:=bC _ _;generalize hc:(nv B (a.take i)+nv B (b.take i))/B^i=c;have hcB:c≤1:=by
   have h1:=bV (b:=B) dc ha i;have h2:=bV (b:=B) dc hb i;rw[←hc];exact Nat.le_of_lt_succ ((Nat.div_lt_iff_lt_mul (Nat.pow_pos dc)).2 om)
  by_cases h:(i:Int)<a.length
  ·by_cases h1:(b.length:Int)≤i
   ·by_cases h2:(c:Int)=0
    ·try (refine hK _ ?_;clear hK K)
     refine aP (ai @Nat.div_one (ai @aU (ai @h2 (ai @h1 @h)))) ?_;refine he _ _ ?_;try (refine hK _ ?_;clear hK K)
     refine aP trivial ?_;obtain⟨e1,e2⟩:=P6 (a:=a) (b:=b) (i:=i) ha om hi om;refine rO (ai @iE (ai @gU @KU)) ?_;rw[em,en,e1,e2];exact⟨rfl,rfl⟩
    ·try (refine hK _ ?_;clear hK K)
     refine aP (ai @Nat.div_one (ai @aU (ai @h2 (ai @h1 @h)))) ?_;try simp only[Sv,↓reduceIte,Nat.reduceEqDiff]
     first|refine aT (fun K hK=>?_)|refine aK (fun K hK=>?_)
     refine dn (ai @Nat.mul_one (ai @bI (ai @dD @aU))) ?_;refine jh trivial (jk b i) ?_;refine dn trivial ?_;refine jh trivial (oI (a.getD i 0) (b.getD i 0) c (dI ha i) (dI hb i) om) ?_;have ll:(fl B i (nv B (a.take i)+nv B (b.take i))++a.drop i).length=a.length:=by rw[List.length_append,lf,List.length_drop];omega
     refine dn (ai @ll (ai @je (ai @Nat.mul_one (ai @bI @aU)))) ?_;refine hK _ ?_;clear hK K;try (refine hK _ ?_;clear hK K)
     refine aP @wi ?_;refine hQ _ (i+1) [] om om ?_;obtain⟨s1,s2,s3⟩:=qK (b:=B) (P:=B^i) (A:=nv B (a.take i)) (Y:=nv B (b.take i)) (x:=a.getD i 0) (y:=b.getD i 0) (Nat.pow_pos dc) dc;rw[hc]at s1 s3;refine iP trivial ?_;refine⟨⟨?_,om⟩,Ei ?_⟩
     ·rw[au,au,Nat.pow_succ,s3];rfl
     ·rw[au,au,dP,dZ dc s2,s1,List.drop_eq_getElem_cons (by omega:i<a.length),List.set_append_right _ _ om,lf,Nat.sub_self,List.set_cons_zero,List.append_assoc];rfl
   ·try (refine hK _ ?_;clear hK K)
    refine aP (ai @Nat.div_one (ai @aU (ai @h1 @h))) ?_;try simp only[Sv,↓reduceIte,Nat.reduceEqDiff]
    first|refine aT (fun K hK=>?_)|refine aK (fun K hK=>?_)
    refine dn (ai @Nat.mul_one (ai @bI (ai @dD @aU))) ?_;refine jh trivial (jk b i) ?_;refine dn trivial ?_;refine jh trivial (oI (a.getD i 0) (b.getD i 0) c (dI ha i) (dI hb i) om) ?_;have ll:(fl B i (nv B (a.take i)+nv B (b.take i))++a.drop i).length=a.length:=by rw[List.length_append,lf,List.length_drop];omega
    refine dn (ai @ll (ai @je (ai @Nat.mul_one (ai @bI @aU)))) ?_;refine hK _ ?_;clear hK K;try (refine hK _ ?_;clear hK K)
    refine aP @wi ?_;refine hQ _ (i+1) [] om om ?_;obtain⟨s1,s2,s3⟩:=qK (b:=B) (P:=B^i) (A:=nv B (a.take i)) (Y:=nv B (b.take i)) (x:=a.getD i 0) (y:=b.getD i 0) (Nat.pow_pos dc) dc;rw[hc]at s1 s3;refine iP trivial ?_;refine⟨⟨?_,om⟩,Ei ?_⟩
    ·rw[au,au,Nat.pow_succ,s3];rfl
    ·rw[au,au,dP,dZ dc s2,s1,List.drop_eq_getElem_cons (by omega:i<a.length),List.set_append_right _ _ om,lf,Nat.sub_self,List.set_cons_zero,List.append_assoc];rfl
  ·obtain rfl:i=a.length:=om;try (refine hK _ ?_;clear hK K)
   refine aP @h ?_;refine he _ _ ?_;try (refine hK _ ?_;clear hK K)
   refine aP trivial ?_;refine rO (ai @iE (ai @gU @KU)) ?_;rw[em,en,←hc,List.take_of_length_le (Nat.le_refl _),List.take_of_length_le om,List.drop_of_length_le (Nat.le_refl _),List.append_nil];exact⟨rfl,rfl⟩
theorem CB(a b:List Nat)(ha:Wd a)(hb:Wd b)(la:a.length≤1099511627776)(lb:b.length≤1099511627776):
 aF Tryz.prog J0 65 [.l 1 (W a),.l 1 (W b)] (.t [.l 1 (W (fl B (max a.length b.length) (nv B a+nv B b))),.i .u64 (((nv B a+nv B b)/B^(max a.length b.length):Nat):Int)]):=
 (yX a b ha hb la lb).plain
end Go.Proofs.YtoehbmlfnjlchaaGreatDoor
namespace Go.Proofs.YtoehbmlfnjlchaaGreatDoor
open Go Go.RowKit Ab
def aX:=an @aU (an @Nat.div_one (an @Nat.mul_one (an @bI (an @gU @fK))))
theorem B2:2≤B:=dc
theorem B0:0<B:=dc
def a66:AC:= .seq (.reg [qr 2 (.mv (.k .nl))]) (.seq (.reg [qm 4 0,qr 5 (.call 74 [(1,(.t 4))]),qm 3 5]) (.seq (.seq (.reg [qm 6 3,qr 7 (.len (.t 6)),qr 8 (.bin .eql (.t 7) (.k (.i .i64 0)))]) (.cond (.t 8) (.seq (.reg [qr 2 (.mv (.k .nl))]) (.ret)) (.skip))) (.seq (.reg [qm 9 3,qr 10 (.call 67 [(1,(.t 9))]),qm 2 10]) (.ret))))
theorem qM(a:List Nat)(ha:a.length≤1099511627776):aF Tryz.prog J0 66 [.l 1 (W a)] (.o 54 1 (W (tz a))):=by
 refine ja dB eY Tryz.func66 a66 ?_;unfold a66;simp only[ak,aH,qm,qr,qn];have hl:=mF a;refine aP @aX ?_;try simp only[Sv,↓reduceIte,Nat.reduceEqDiff]
 refine aI (fun K hK=>?_);refine dn @aX ?_;refine jh @aX (oH a ha) ?_;refine dn (ai @gU (ai @Nat.div_one (ai @aU @aX))) ?_;refine hK _ ?_;clear hK K;by_cases h:((tz a).length:Int)=0
 ·try (refine hK _ ?_;clear hK K)
  refine aP (ai @h @aX) ?_;have e:tz a=[]:=List.eq_nil_of_length_eq_zero om;exact oC (ai @e @aX)
 ·try (refine hK _ ?_;clear hK K)
  refine aP (ai @h @aX) ?_;try simp only[Sv,↓reduceIte,Nat.reduceEqDiff]
  refine aI (fun K hK=>?_);refine dn @aX ?_;refine jh @aX (kE (tz a) om) ?_;refine dn (ai @gU (ai @Nat.div_one (ai @aU @aX))) ?_;refine hK _ ?_;clear hK K;try (refine hK _ ?_;clear hK K)
  refine aP @aX ?_;exact oC @aX
def a44:AC:= .seq (.reg [qr 2 (.mv (.k .nl))]) (.seq (.reg [qm 3 0,qr 4 (.call 66 [(1,(.t 3))]),qm 2 4]) (.ret))
theorem oJ(a:List Nat)(ha:a.length≤1099511627776):aF Tryz.prog J0 44 [.l 1 (W a)] (.o 54 1 (W (tz a))):=by
 refine ja dB eY Tryz.func44 a44 ?_;unfold a44;simp only[ak,aH,qm,qr,qn];refine aP @aX ?_;try simp only[Sv,↓reduceIte,Nat.reduceEqDiff]
 refine aI (fun K hK=>?_);refine dn @aX ?_;refine jh @aX (qM a ha) ?_;refine dn (ai @gU (ai @Nat.div_one (ai @aU @aX))) ?_;refine hK _ ?_;clear hK K;try (refine hK _ ?_;clear hK K)
 refine aP @aX ?_;exact oC @aX
def a68:AC:= .seq (.reg [qr 4 (.mv (.k .nl)),qr 5 (.mv (.k (.i .i64 0)))]) (.seq (.reg [qm 9 0,qm 10 1,qr 11 (.call 91 [(1,(.t 9)),(1,(.t 10))]),qm 8 11,qr 12 (.ext (.t 8) 0),qr 13 (.ext (.t 8) 1),qm 6 12,qm 7 13]) (.seq (.seq (.reg [qm 14 7,qr 15 (.bin .neq (.t 14) (.k (.i .u64 0)))]) (.cond (.t 15) (.seq (.reg [qr 4 (.mv (.k .nl)),qr 5 (.mv (.k (.i .i64 2)))]) (.ret)) (.skip))) (.seq (.reg [qm 16 6,qr 17 (.call 66 [(1,(.t 16))]),qm 4 17,qr 5 (.mv (.k (.i .i64 0)))]) (.ret))))
theorem P7(a b:List Nat)(ha:Wd a)(hb:Wd b)(la:a.length≤1099511627776)(lb:b.length≤1099511627776):
 aF Tryz.prog J0 68 [.l 1 (W a),.l 1 (W b)] (.t [.l 1 (W (if nv B a<nv B b then[]else dg B (nv B a-nv B b))),.i .i64 ((if nv B a<nv B b then 2 else 0:Nat):Int)]):=by
 refine ja dB eY Tryz.func68 a68 ?_
 unfold a68
 simp only[ak,aH,qm,qr,qn]
 refine aP @aX ?_
 try simp only[Sv,↓reduceIte,Nat.reduceEqDiff]
 refine aI (fun K hK=>?_)
 refine dn @aX ?_
 refine jh @aX (pG a b ha hb la lb) ?_
 refine dn @aX ?_
 refine hK _ ?_
 clear hK K
 by_cases h:nv B a<nv B b
 ·simp only[h,↓reduceIte];try (refine hK _ ?_;clear hK K)
  refine aP @aX ?_;exact oC @aX
 ·have hw:(fl B (max a.length b.length) (nv B a+B^max a.length b.length-nv B b)).length≤1099511627776:=by rw[bC];omega
  simp only[h,↓reduceIte];try (refine hK _ ?_;clear hK K)
  refine aP @aX ?_;try simp only[Sv,↓reduceIte,Nat.reduceEqDiff]
  refine aI (fun K hK=>?_);refine dn @aX ?_;refine jh @aX (qM _ hw) ?_;refine dn @aX ?_;refine hK _ ?_;clear hK K;try (refine hK _ ?_;clear hK K)
  refine aP @aX ?_;have e:tz (fl B (max a.length b.length) (nv B a+B^max a.length b.length-nv B b))=dg B (nv B a-nv B b):=by
   have h1:=b_ ha;have h2:B^a.length≤B^max a.length b.length:=Nat.pow_le_pow_right B0 om;rw[←sJ B2 (n:=max a.length b.length) (by omega:nv B a-nv B b<_)];congr 1;exact dZ B0 (by rw[show nv B a+B^max a.length b.length-nv B b=(nv B a-nv B b)+B^max a.length b.length from om,Nat.add_mod_right])
  exact oC (ai @e @aX)
def a70:AC:= .seq (.reg [qr 4 (.mv (.k (.i .i64 0)))]) (.seq (.reg [qm 5 0,qm 6 1,qr 7 (.call 94 [(1,(.t 5)),(1,(.t 6))]),qm 4 7]) (.ret))
theorem P8(a b:List Nat)(ha:Wd a)(hb:Wd b)(la:a.length≤1099511627776)(lb:b.length≤1099511627776):
 aF Tryz.prog J0 70 [.l 1 (W a),.l 1 (W b)] (.i .i64 (sg (nv B a) (nv B b))):=by
 refine ja dB eY Tryz.func70 a70 ?_
 unfold a70
 simp only[ak,aH,qm,qr,qn]
 refine aP @aX ?_
 try simp only[Sv,↓reduceIte,Nat.reduceEqDiff]
 refine aI (fun K hK=>?_)
 refine dn @aX ?_
 refine jh @aX (Cm a b ha hb la lb) ?_
 refine dn @aX ?_
 refine hK _ ?_
 clear hK K
 try (refine hK _ ?_;clear hK K)
 refine aP @aX ?_
 exact oC @aX
def a41:AC:= .seq (.reg [qr 4 (.mv (.k .nl))]) (.seq (.reg [qm 8 0,qm 9 1,qr 10 (.call 65 [(1,(.t 8)),(1,(.t 9))]),qm 7 10,qr 11 (.ext (.t 7) 0),qr 12 (.ext (.t 7) 1),qm 5 11,qm 6 12]) (.seq (.reg [qm 13 5,qr 14 (.call 67 [(1,(.t 13))]),qm 15 6,qr 16 (.nz 54 1 1 [(.i .u64 0)] [(0,(.t 15))]),qr 17 (.app 54 1 8 (.t 14) (.t 16)),qr 18 (.call 66 [(1,(.t 17))]),qm 4 18]) (.ret)))
theorem mO(a b:List Nat)(ha:Wd a)(hb:Wd b)(la:a.length≤1099511627775)(lb:b.length≤1099511627775):
 aF Tryz.prog J0 41 [.l 1 (W a),.l 1 (W b)] (.o 54 1 (W (dg B (nv B a+nv B b)))):=by
 refine ja dB eY Tryz.func41 a41 ?_
 unfold a41
 simp only[ak,aH,qm,qr,qn]
 generalize hm:max a.length b.length=m
 have hw:(fl B m (nv B a+nv B b)).length=m:=bC _ _
 refine aP @aX ?_
 try simp only[Sv,↓reduceIte,Nat.reduceEqDiff]
 refine aI (fun K hK=>?_)
 refine dn @aX ?_
 refine jh @aX (CB a b ha hb om om) ?_
 simp only[hm]
 refine dn @aX ?_
 refine hK _ ?_
 clear hK K
 try (refine hK _ ?_;clear hK K)
 refine aP @aX ?_
 try simp only[Sv,↓reduceIte,Nat.reduceEqDiff]
 refine aI (fun K hK=>?_)
 refine dn @aX ?_
 refine jh @aX (kE (fl B m (nv B a+nv B b)) om) ?_
 refine dn (ai @Cc @aX) ?_
 refine jh @aX (qM (fl B m (nv B a+nv B b)++[(nv B a+nv B b)/B^m]) (by rw[List.length_append,hw];simp;omega)) ?_
 refine dn @aX ?_
 refine hK _ ?_
 clear hK K
 try (refine hK _ ?_;clear hK K)
 refine aP @aX ?_
 have hlt:nv B a+nv B b<B^(m+1):=by
  have h1:=b_ ha;have h2:=b_ hb;have h3:B^a.length≤B^m:=Nat.pow_le_pow_right B0 om;have h4:B^b.length≤B^m:=Nat.pow_le_pow_right B0 om;have h5:B^m*2≤B^(m+1):=by rw[Nat.pow_succ];exact Nat.mul_le_mul_left _ B2
  omega
 have e:tz (fl B m (nv B a+nv B b)++[(nv B a+nv B b)/B^m])=dg B (nv B a+nv B b):=by
  rw[←sJ B2 hlt,dP,Nat.mod_eq_of_lt ((Nat.div_lt_iff_lt_mul (Nat.pow_pos B0)).2 (by rw[Nat.mul_comm,←Nat.pow_succ];exact hlt))]
 exact oC (ai @e @aX)
def a42:AC:= .seq (.reg [qr 4 (.mv (.k .nl)),qr 5 (.mv (.k (.b false)))]) (.seq (.seq (.reg [qm 11 0,qm 12 1,qr 13 (.call 68 [(1,(.t 11)),(1,(.t 12))]),qm 10 13,qr 14 (.ext (.t 10) 0),qr 15 (.ext (.t 10) 1),qm 6 14,qm 7 15]) (.seq (.reg [qm 16 7,qr 17 (.bin .eql (.t 16) (.k (.i .i64 0)))]) (.cond (.t 17) (.seq (.reg [qm 18 6,qm 4 18,qr 5 (.mv (.k (.b false)))]) (.ret)) (.skip)))) (.seq (.reg [qm 20 1,qm 21 0,qr 22 (.call 68 [(1,(.t 20)),(1,(.t 21))]),qm 19 22,qr 23 (.ext (.t 19) 0),qr 24 (.ext (.t 19) 1),qm 8 23,qm 9 24]) (.seq (.reg [qm 25 8,qm 4 25,qr 5 (.mv (.k (.b true)))]) (.ret))))
