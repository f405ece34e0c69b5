import Derived.Test.YtcgfgifjkkmmcaaGreatDoorRows
import Derived.Laws.Externs
import Derived.Test.YtcgfgifjkkmmcaaGreatDoorGC
set_option linter.all false
set_option maxRecDepth 2000000
set_option maxHeartbeats 10000000
namespace Go.Proofs.YtcgfgifjkkmmcaaGreatDoor
def nv(b:Nat):List Nat→Nat
 |[]=>0
 |x::r=>x+b*nv b r
def tz:List Nat→List Nat
 |[]=>[]
 |x::r=>if x=0∧tz r=[]then[]else x::tz r
def fl(b:Nat):Nat→Nat→List Nat
 |0,_=>[]
 |n+1,v=>v%b::fl b n (v/b)
def dg(b v:Nat):List Nat:=tz (fl b v v)
def Lt(b:Nat)(l:List Nat):Prop:=∀x,x∈l→x<b
section
variable {b:Nat}
theorem Lt_nil:Lt b []:=fun x h=>by cases h
theorem wG{x:Nat}{l:List Nat}:Lt b (x::l)↔x<b∧Lt b l:=by simp[Lt]
theorem Lt_app{l r:List Nat}:Lt b (l++r)↔Lt b l∧Lt b r:=by simp only[Lt,List.mem_append];exact⟨fun h=>⟨fun x hx=>h x (.inl hx),fun x hx=>h x (.inr hx)⟩,fun h x hx=>hx.elim (h.1 x) (h.2 x)⟩
theorem Kw{l:List Nat}(h:Lt b l)(i:Nat):Lt b (l.take i):=fun x hx=>h x (List.mem_of_mem_take hx)
theorem y_{l:List Nat}(h:Lt b l)(i:Nat):Lt b (l.drop i):=fun x hx=>h x (List.mem_of_mem_drop hx)
theorem lC{l:List Nat}(h:Lt b l)(hb:0<b)(i:Nat):l.getD i 0<b:=by
 rw[List.getD_eq_getElem?_getD];cases e:l[i]? with
 |none=>simpa using hb
 |some x=>exact h x (List.mem_of_getElem? e)
theorem uM{n:Nat}(hb:0<b):Lt b (List.replicate n 0):=fun x hx=>by rw[List.mem_replicate]at hx;omega
theorem qi{l:List Nat}(h:Lt b l)(i x:Nat)(hx:x<b):Lt b (l.set i x):=fun y hy=>by
 rcases List.mem_or_eq_of_mem_set hy with h1|h1
 ·exact h y h1
 ·omega
theorem qB{x:Nat}{l:List Nat}:nv b (x::l)=x+b*nv b l:=rfl
theorem I8{x:Nat}:nv b [x]=x:=by simp[nv]
theorem qj:∀(l r:List Nat),nv b (l++r)=nv b l+b^l.length*nv b r
 |[],r=>by simp[nv]
 |x::l,r=>by
  simp only[List.cons_append,nv,qj l r,List.length_cons,Nat.pow_succ];rw[Nat.mul_add,Nat.add_assoc,Nat.mul_comm (b^l.length) b,Nat.mul_assoc]
theorem qh(n:Nat):nv b (List.replicate n 0)=0:=by
 induction n with
 |zero=>rfl
 |succ n ih=>rw[List.replicate_succ,qB,ih];simp
theorem bY:∀{l:List Nat},Lt b l→nv b l<b^l.length
 |[],_=>by simp[nv]
 |x::l,h=>by
  have h1:=(wG.1 h).1;have h2:=bY (wG.1 h).2;simp only[nv,List.length_cons,Nat.pow_succ];have:b*(nv b l+1)≤b*b^l.length:=Nat.mul_le_mul_left _ h2;rw[Nat.mul_comm (b^l.length)];rw[Nat.mul_add]at this;omega
theorem qC(l:List Nat)(i:Nat)(hi:i≤l.length):nv b l=nv b (l.take i)+b^i*nv b (l.drop i):=by
 have h:=qj (b:=b) (l.take i) (l.drop i);rw[List.take_append_drop,List.length_take,Nat.min_eq_left hi]at h;exact h
theorem dP(l:List Nat)(i:Nat)(hi:i<l.length):nv b (l.take (i+1))=nv b (l.take i)+b^i*l.getD i 0:=by
 rw[List.take_succ_eq_append_getElem hi,qj,List.length_take,Nat.min_eq_left (Nat.le_of_lt hi),I8,List.getD_eq_getElem?_getD,List.getElem?_eq_getElem hi];rfl
theorem nX(l:List Nat)(i:Nat)(hi:i<l.length):nv b (l.drop i)=l.getD i 0+b*nv b (l.drop (i+1)):=by
 rw[List.drop_eq_getElem_cons hi,qB,List.getD_eq_getElem?_getD,List.getElem?_eq_getElem hi];rfl
theorem af(l:List Nat)(i:Nat):nv b (l.take (i+1))=nv b (l.take i)+b^i*l.getD i 0:=by
 rcases Nat.lt_or_ge i l.length with h|h
 ·exact dP l i h
 ·rw[List.take_of_length_le om,List.take_of_length_le h,List.getD_eq_getElem?_getD,List.getElem?_eq_none h];simp
theorem bg:∀(n v:Nat),(fl b n v).length=n
 |0,_=>rfl
 |n+1,v=>by simp[fl,bg n]
theorem lI(hb:0<b):∀(n v:Nat),Lt b (fl b n v)
 |0,_=>Lt_nil
 |n+1,v=>wG.2 ⟨Nat.mod_lt _ hb,lI hb n _⟩
theorem mW:∀(n v:Nat),nv b (fl b n v)=v%b^n
 |0,v=>by simp[fl,nv,Nat.mod_one]
 |n+1,v=>by rw[fl,qB,mW n,Nat.pow_succ,Nat.mul_comm (b^n),Nat.mod_mul]
theorem vK:∀{l:List Nat},Lt b l→fl b l.length (nv b l)=l
 |[],_=>rfl
 |x::l,h=>by
  have h1:=(wG.1 h).1;simp only[List.length_cons,fl,nv];rw[Nat.add_mul_mod_self_left,Nat.mod_eq_of_lt h1,Nat.add_mul_div_left _ _ (by omega:0<b),Nat.div_eq_of_lt h1,Nat.zero_add,vK (wG.1 h).2]
theorem We(n:Nat):fl b n 0=List.replicate n 0:=by
 induction n with
 |zero=>rfl
 |succ n ih=>simp[fl,ih,List.replicate_succ]
theorem QE(hb:0<b)(n v:Nat):fl b n (v%b^n)=fl b n v:=by
 have h1:=vK (lI hb n v);rw[bg,mW]at h1;exact h1
theorem zG(n k v:Nat):fl b (n+k) v=fl b n v++fl b k (v/b^n):=by
 induction n generalizing v with
 |zero=>simp[fl]
 |succ n ih=>
  rw[show n+1+k=(n+k)+1 from om];simp only[fl,List.cons_append];rw[ih,Nat.div_div_eq_div_mul,Nat.pow_succ,Nat.mul_comm b]
theorem dO(n v:Nat):fl b (n+1) v=fl b n v++[v/b^n%b]:=by rw[zG];rfl
theorem QF(n k v:Nat)(hv:v<b^n):fl b (n+k) v=fl b n v++List.replicate k 0:=by rw[zG,Nat.div_eq_of_lt hv,We]
theorem tz_rep(n:Nat):tz (List.replicate n 0)=[]:=by
 induction n with
 |zero=>rfl
 |succ n ih=>rw[List.replicate_succ,tz,ih];simp
theorem nC:∀(l:List Nat) (n:Nat),tz (l++List.replicate n 0)=tz l
 |[],n=>tz_rep n
 |x::l,n=>by simp only[List.cons_append,tz,nC l n]
theorem pG:∀(l:List Nat),∃n,l=tz l++List.replicate n 0
 |[]=>⟨0,rfl⟩
 |x::l=>by
  obtain⟨n,h⟩:=pG l;simp only[tz];split
  ·rename_i hx;refine⟨n+1,?_⟩;rw[hx.2]at h;rw[List.replicate_succ,h,hx.1];simp
  ·exact⟨n,by rw[List.cons_append,←h]⟩
theorem kZ(l:List Nat):(tz l).length≤l.length:=by
 obtain⟨n,h⟩:=pG l;have:=congrArg List.length h;simp at this;omega
theorem yY(l:List Nat):l.take (tz l).length=tz l:=by
 obtain⟨n,h⟩:=pG l;have:(tz l++List.replicate n 0).take (tz l).length=tz l:=sy;rw[←h]at this;exact this
theorem nT(l:List Nat):nv b (tz l)=nv b l:=by
 obtain⟨n,h⟩:=pG l;have:nv b (tz l++List.replicate n 0)=nv b (tz l):=by rw[qj,qh];simp
 rw[←h]at this;exact this.symm
theorem oN{l:List Nat}(h:Lt b l):Lt b (tz l):=by rw[←yY];exact Kw h _
theorem BQ(l:List Nat):tz (tz l)=tz l:=by
 obtain⟨n,h⟩:=pG l;have:tz (tz l++List.replicate n 0)=tz (tz l):=nC _ _;rw[←h]at this;exact this.symm
theorem vJ(l:List Nat)(i:Nat)(hi:i<l.length)(h0:l.getD i 0=0):tz (l.take (i+1))=tz (l.take i):=by
 rw[List.take_succ_eq_append_getElem hi];have:l[i]=0:=by rw[List.getD_eq_getElem?_getD,List.getElem?_eq_getElem hi]at h0;exact h0
 rw[this];exact nC _ 1
theorem DR:∀(l:List Nat) (x:Nat),x≠0→tz (l++[x])=l++[x]
 |[],x,h=>by simp[tz,h]
 |y::l,x,h=>by simp[tz,DR l x h]
theorem Hq(l:List Nat)(i:Nat)(hi:i<l.length)(h0:l.getD i 0≠0):(tz (l.take (i+1))).length=i+1:=by
 rw[List.take_succ_eq_append_getElem hi,DR _ _ (by rw[List.getD_eq_getElem?_getD,List.getElem?_eq_getElem hi]at h0;exact h0)];simp;omega
theorem yt{l:List Nat}(hb:2≤b)(h:Lt b l):tz l=dg b (nv b l):=by
 unfold dg;have key:∀n,nv b l<b^n→tz (fl b n (nv b l))=tz l:=fun n hn=>by
  rcases Nat.le_total l.length n with h1|h1
  ·have:n=l.length+(n-l.length):=om;rw[this,QF _ _ _ (bY h),vK h,nC]
  ·have:l.length=n+(l.length-n):=om;have e:l=fl b n (nv b l)++List.replicate (l.length-n) 0:=by
    rw[←QF _ _ _ hn,←this,vK h]
   have:=nC (fl b n (nv b l)) (l.length-n);rw[←e]at this;exact this.symm
 exact(key _ (Nat.lt_of_lt_of_le Nat.lt_two_pow_self (Nat.pow_le_pow_left hb _))).symm
theorem mQ(hb:0<b)(v:Nat):Lt b (dg b v):=oN (lI hb _ _)
theorem jS(hb:2≤b)(v:Nat):nv b (dg b v)=v:=by
 unfold dg;rw[nT,mW,Nat.mod_eq_of_lt (Nat.lt_of_lt_of_le Nat.lt_two_pow_self (Nat.pow_le_pow_left hb _))]
theorem zH(v:Nat):tz (dg b v)=dg b v:=BQ _
theorem qM(hb:2≤b){n v:Nat}(h:v<b^n):tz (fl b n v)=dg b v:=by
 rw[yt hb (lI om _ _),mW,Nat.mod_eq_of_lt h]
theorem nP:dg b 0=[]:=rfl
theorem dg_inj(hb:2≤b){v u:Nat}(h:dg b v=dg b u):v=u:=by rw[←jS hb v,h,jS hb]
theorem rE(hb:2≤b){v:Nat}:dg b v=[]↔v=0:=⟨fun h=>dg_inj hb (h.trans nP.symm),fun h=>by rw[h,nP]⟩
theorem xx(hb:2≤b){n v:Nat}(h:v<b^n):(dg b v).length≤n:=by rw[←qM hb h];exact Nat.le_trans (kZ _) (by rw[bg];exact Nat.le_refl _)
end
end Go.Proofs.YtcgfgifjkkmmcaaGreatDoor
namespace Go.Proofs.YtcgfgifjkkmmcaaGreatDoor
open Go Go.RowKit Ab
def J0:World→Prop:=fun _=>True
theorem bV:∀(w:World) (e:Nat→Prop) (w':World),J0 w→aI w e w'→J0 w':=fun _ _ _ _ _=>trivial
theorem aX:Tryz.prog.follows .mixedOrders=true:=by kernel_rfl
def W(a:List Nat):List V:=a.map fun x:Nat=> .i .u64 (x:Int)
def D(a:List Nat):List V:=a.map fun x:Nat=> .i .i64 (x:Int)
def B:Nat:=18446744073709551616
def Wd(a:List Nat):Prop:=Lt B a
theorem aH(a:List Nat):(W a).length=a.length:=by simp[W]
theorem fV(a:List Nat):(D a).length=a.length:=by simp[D]
theorem cZ(a:List Nat)(i:Nat)(h:i<a.length):(W a).getD i .un= .i .u64 (a.getD i 0:Nat):=by
 simp[W,List.getD_eq_getElem?_getD,h]
theorem nR(a:List Nat)(i:Nat)(h:i<a.length):(D a).getD i .un= .i .i64 (a.getD i 0:Nat):=by
 simp[D,List.getD_eq_getElem?_getD,h]
theorem nD(a:List Nat)(i:Nat):(W a).take i=W (a.take i):=by simp[W]
theorem Ah(a:List Nat)(i:Nat):(W a).drop i=W (a.drop i):=by simp[W]
theorem OG(a:List Nat)(i:Nat):(D a).take i=D (a.take i):=by simp[D]
theorem Ai(a b:List Nat):W a++W b=W (a++b):=by simp[W]
theorem xk(a:List Nat)(x:Nat):W a++[V.i .u64 (x:Int)]=W (a++[x]):=by simp[W]
theorem dh(a:List Nat):(W a).all V.cell=true:=by simp[W,V.cell]
theorem iQ(a:List Nat)(i x:Nat):(W a).set i (.i .u64 (x:Int))=W (a.set i x):=by simp[W]
theorem eY(a:List Nat):kN (W a)=false:=by
 induction a with
 |nil=>rfl
 |cons x r ih=>simpa[W,kN,V.nf]using ih
theorem oD(a:List Nat):kN (D a)=false:=by
 induction a with
 |nil=>rfl
 |cons x r ih=>simpa[D,kN,V.nf]using ih
theorem dF:W []=[]:=rfl
theorem jm:D []=[]:=rfl
theorem dA{a:List Nat}(h:Wd a)(i:Nat):a.getD i 0<18446744073709551616:=by
 rw[List.getD_eq_getElem?_getD];cases e:a[i]? with
 |none=>simp
 |some x=>exact h x (List.mem_of_getElem? e)
theorem Wh{a:List Nat}(h:Wd a)(i:Nat):Wd (a.take i):=fun x hx=>h x (List.mem_of_mem_take hx)
theorem Wj{a:List Nat}(h:Wd a)(i:Nat):Wd (a.drop i):=fun x hx=>h x (List.mem_of_mem_drop hx)
theorem QG{a b:List Nat}(h:Wd a)(k:Wd b):Wd (a++b):=fun x hx=>(List.mem_append.1 hx).elim (h x) (k x)
theorem I9:Wd []:=fun x hx=>by cases hx
theorem wi{n:Int}(h: -9223372036854775808≤n∧n<9223372036854775808):IntKind.i64.wrap n=n:=by
 rw[IntKind.wrap_i64];omega
theorem wu{n:Int}(h:0≤n∧n<18446744073709551616):IntKind.u64.wrap n=n:=by
 rw[IntKind.wrap_u64];omega
theorem c0:((0:Nat):Int)=0:=rfl
theorem c2:((2:Nat):Int)=2:=rfl
theorem c3:((3:Nat):Int)=3:=rfl
theorem c13:((13:Nat):Int)=13:=rfl
theorem c1:((1:Nat):Int)=1:=rfl
theorem sZ(n:Nat):((n:Int)-1).toNat=n-1:=om
theorem aO(n:Nat):(n:Int).toNat=n:=rfl
def S1:=an S0 (an c0 (an c1 (an c2 (an c3 c13))))
end Go.Proofs.YtcgfgifjkkmmcaaGreatDoor
namespace Go.Proofs.YtcgfgifjkkmmcaaGreatDoor
open Go Go.RowKit Ab
def sub64Entry:Array Value→Sem Value:=fun args=>do
 let (x,y,b) ←Extern.MathBitsCarry.three "Sub64" args
 pure (Extern.MathBitsCarry.pair ((x+Extern.MathBitsCarry.m64-y-b)%Extern.MathBitsCarry.m64) (if x<y+b then 1 else 0))
theorem og(x y:Nat):iJ Tryz.prog 144 [.i .u64 (x:Int),.i .u64 (y:Int),.i .u64 0] (.t [.i .u64 (((x+y)%18446744073709551616:Nat):Int),.i .u64 (((x+y)/18446744073709551616:Nat):Int)]):=by
 intro w H ov vs hl hr;match vs,hl with
 |[a,b,c],_=>
  have h1:=(hr 0 a _ rfl rfl).bP;have h2:=(hr 1 b _ rfl rfl).bP;have h3:=(hr 2 c _ rfl rfl).bP;subst h1 h2 h3;refine⟨_,by rw[run_callFunc_extern Tryz.func144 (e:=add64Entry) kf kf kf kf,run_add64 _ _ _ om om om om];rfl,.up (.t [.int .u64 _,.int .u64 _] _ rfl ?_)⟩;intro j v x hv hx;match j with
  |0=>cases hv;cases hx;simp only[Int.add_zero];exact .i _ _
  |1=>cases hv;cases hx;simp only[Int.add_zero];exact .i _ _
  |(k+2)=>cases hv
theorem DT(x y:Nat)(hy:y<18446744073709551616):iJ Tryz.prog 151 [.i .u64 (x:Int),.i .u64 (y:Int),.i .u64 0] (.t [.i .u64 (((x+18446744073709551616-y)%18446744073709551616:Nat):Int),.i .u64 ((if x<y then 1 else 0:Nat):Int)]):=by
 intro w H ov vs hl hr;match vs,hl with
 |[a,b,c],_=>
  have h1:=(hr 0 a _ rfl rfl).bP;have h2:=(hr 1 b _ rfl rfl).bP;have h3:=(hr 2 c _ rfl rfl).bP;subst h1 h2 h3;have run:(sub64Entry #[.int .u64 (x:Int),.int .u64 (y:Int),.int .u64 0]).run Tryz.prog w= .ok (Extern.MathBitsCarry.pair ((x+Extern.MathBitsCarry.m64-y-0)%Extern.MathBitsCarry.m64) (if x<y+0 then 1 else 0)) w:=rfl;refine⟨_,by rw[run_callFunc_extern Tryz.func151 (e:=sub64Entry) kf kf kf kf,run];rfl,.up (.t [.int .u64 _,.int .u64 _] _ rfl ?_)⟩;intro j v x hv hx;match j with
  |0=>cases hv;cases hx;exact .i _ _
  |1=>cases hv;cases hx;exact .i _ _
  |(k+2)=>cases hv
end Go.Proofs.YtcgfgifjkkmmcaaGreatDoor
namespace Go.Proofs.YtcgfgifjkkmmcaaGreatDoor
section
variable {b:Nat}
theorem aZ{l:List Nat}(hb:0<b)(h:Lt b l)(i:Nat):nv b (l.take i)<b^i:=by
 have h1:=bY (Kw h i);exact Nat.lt_of_lt_of_le h1 (Nat.pow_le_pow_right hb (by rw[List.length_take];exact Nat.min_le_left _ _))
theorem ER{P A Y x y:Nat}(hP:0<P)(hA:A<P)(hY:Y<P)(hx:x<b)(hy:y<b):
 ((A+P*x+P*b-(Y+P*y))/P%b=(x+b-(y+if A<Y then 1 else 0))%b)∧((A+P*x+P*b-(Y+P*y))%P=(A+P-Y)%P)∧((A+P*x<Y+P*y)↔(x<y+if A<Y then 1 else 0)):=by
 have e:A+P*x+P*b-(Y+P*y)=(A+P-Y)+P*(x+b-y-1):=by
  have h1:P*x+P*b=P*(x+b):=(Nat.mul_add _ _ _).symm;have h2:P*(x+b)=P*y+P*(x+b-y-1)+P:=by rw[←Nat.mul_add,←Nat.mul_succ];congr 1;omega
  omega
 have lt:(A+P*x<Y+P*y)↔(x<y+if A<Y then 1 else 0):=by
  constructor
  ·intro h;rcases Nat.lt_or_ge x y with h1|h1
   ·split<;>omega
   ·have:=Nat.mul_le_mul_left P h1;rcases Nat.lt_or_ge y x with h2|h2
    ·have h3:P*(y+1)≤P*x:=Nat.mul_le_mul_left P h2;rw[Nat.mul_succ]at h3;omega
    ·have h3:x=y:=om;subst h3;rw[if_pos om];omega
  ·intro h;rcases Nat.lt_or_ge x y with h1|h1
   ·have h3:P*(x+1)≤P*y:=Nat.mul_le_mul_left P h1;rw[Nat.mul_succ]at h3;omega
   ·by_cases h2:A<Y
    ·rw[if_pos h2]at h;have h3:x=y:=om;subst h3;omega
    ·rw[if_neg h2]at h;omega
 refine⟨?_,?_,lt⟩
 ·rw[e,Nat.add_mul_div_left _ _ hP];by_cases h2:A<Y
  ·rw[if_pos h2,Nat.div_eq_of_lt om];congr 1;omega
  ·rw[if_neg h2];have:(A+P-Y)/P=1:=by
    have h3:A+P-Y=(A-Y)+P*1:=om;rw[h3,Nat.add_mul_div_left _ _ hP,Nat.div_eq_of_lt om]
   rw[this];congr 1;omega
 ·rw[e,Nat.add_mul_mod_self_left]
theorem rH{P A Y x y:Nat}(hP:0<P)(hb:0<b):
 (A+P*x+(Y+P*y))/P%b=(x+y+(A+Y)/P)%b∧(A+P*x+(Y+P*y))%P=(A+Y)%P∧(A+P*x+(Y+P*y))/(P*b)=(x+y+(A+Y)/P)/b:=by
 have e:A+P*x+(Y+P*y)=(A+Y)+P*(x+y):=by rw[Nat.mul_add];omega
 refine⟨?_,?_,?_⟩
 ·rw[e,Nat.add_mul_div_left _ _ hP];congr 1;omega
 ·rw[e,Nat.add_mul_mod_self_left]
 ·rw[e,←Nat.div_div_eq_div_mul,Nat.add_mul_div_left _ _ hP];congr 1;omega
theorem ed(hb:0<b){n v u:Nat}(h:v%b^n=u%b^n):fl b n v=fl b n u:=by rw[←QE hb,h,QE hb]
theorem Dt{l r:List Nat}(hb:0<b)(hl:Lt b l)(hr:Lt b r)(i:Nat)(h:l.getD i 0<r.getD i 0):nv b (l.take (i+1))<nv b (r.take (i+1)):=by
 rw[af,af];have h1:=aZ hb hl i;have h3:b^i*(l.getD i 0+1)≤b^i*r.getD i 0:=Nat.mul_le_mul_left _ h;rw[Nat.mul_succ]at h3;omega
end
theorem rU{b:Nat}{l:List Nat}(hb:0<b)(h:Lt b l)(i:Nat):nv b l/b^i=nv b (l.drop i):=by
 rcases Nat.lt_or_ge l.length i with h1|h1
 ·rw[List.drop_of_length_le om,Nat.div_eq_of_lt (Nat.lt_of_lt_of_le (bY h) (Nat.pow_le_pow_right hb om))];rfl
 ·rw[qC l i h1,Nat.add_mul_div_left _ _ (Nat.pow_pos hb),Nat.div_eq_of_lt (aZ hb h i),Nat.zero_add]
theorem jI{b:Nat}{l:List Nat}(hb:0<b)(h:Lt b l)(i:Nat):l.getD i 0=nv b l/b^i%b:=by
 rw[rU hb h];rcases Nat.lt_or_ge i l.length with h1|h1
 ·rw[nX l i h1,Nat.add_mul_mod_self_left,Nat.mod_eq_of_lt (lC h hb i)]
 ·rw[List.drop_of_length_le h1,List.getD_eq_getElem?_getD,List.getElem?_eq_none h1];simp[nv]
theorem Dp{b i v:Nat}(hb:2≤b)(h:i=0∨b^(i-1)≤v)(hv:v<b^i):fl b i v=dg b v:=by
 rw[←qM hb hv];rcases Nat.eq_zero_or_pos i with h0|h0
 ·subst h0;rfl
 ·obtain⟨n,rfl⟩:∃n,i=n+1:=⟨i-1,om⟩;rw[dO,DR];have h1:b^n≤v:=by
   rcases h with h|h
   ·omega
   ·simpa using h
  rw[Nat.mod_eq_of_lt ((Nat.div_lt_iff_lt_mul (Nat.pow_pos om)).2 (by rw[Nat.mul_comm,←Nat.pow_succ];exact hv))];have:=(Nat.le_div_iff_mul_le (Nat.pow_pos (by omega:0<b))).2 (by rw[Nat.one_mul];exact h1:1*b^n≤v);omega
theorem qg{b:Nat}{l:List Nat}(h:tz l=l)(hl:l≠[]):b^(l.length-1)≤nv b l:=by
 obtain⟨n,hn⟩:∃n,l.length=n+1:=⟨l.length-1,by have:=List.length_pos_iff.2 hl;omega⟩;have h1:=dP (b:=b) l n om;rw[List.take_of_length_le om]at h1;have h2:l.getD n 0≠0:=fun h0=>by
  have h3:=vJ l n om h0;rw[List.take_of_length_le om,h]at h3;have h4:=congrArg List.length h3;have h5:=kZ (l.take n);rw[List.length_take]at h5;omega
 rw[h1,hn];have:b^n*1≤b^n*l.getD n 0:=Nat.mul_le_mul_left _ om;simp at this ⊢;omega
theorem rF{B:Nat}{l r:List Nat}(i:Nat)(h:∀j,i≤j→l.getD j 0=r.getD j 0):(nv B (l.take i)<nv B (r.take i)↔nv B l<nv B r)∧(nv B (l.take i)=nv B (r.take i)↔nv B l=nv B r):=by
 have key:∀k,∃t,nv B (l.take (i+k))=nv B (l.take i)+t∧nv B (r.take (i+k))=nv B (r.take i)+t:=fun k=>by
  induction k with
  |zero=>exact⟨0,rfl,rfl⟩
  |succ k ih=>
   obtain⟨t,h1,h2⟩:=ih;refine⟨t+B^(i+k)*l.getD (i+k) 0,?_,?_⟩
   ·rw[←Nat.add_assoc i k 1,af,h1,Nat.add_assoc]
   ·rw[←Nat.add_assoc i k 1,af,h2,Nat.add_assoc,h _ om]
 obtain⟨t,h1,h2⟩:=key (l.length+r.length);rw[List.take_of_length_le om]at h1;rw[List.take_of_length_le om]at h2;omega
end Go.Proofs.YtcgfgifjkkmmcaaGreatDoor
namespace Go.Proofs.YtcgfgifjkkmmcaaGreatDoor
open Go Go.RowKit Ab
theorem YJ:B=2^64:=rfl
theorem FY(a b:Nat)(ha:a<18446744073709551616)(hb:b<18446744073709551616):bits .or .u64 (a:Int) (b:Int)=((a|||b:Nat):Int):=by
 have h:a|||b<2^64:=Nat.or_lt_two_pow ha hb
 have e:(BitVec.ofNat 64 a|||BitVec.ofNat 64 b).toNat=a|||b:=by rw[BitVec.toNat_or,BitVec.toNat_ofNat,BitVec.toNat_ofNat,Nat.mod_eq_of_lt ha,Nat.mod_eq_of_lt hb]
 have k:bits .or .u64 (a:Int) (b:Int)=IntKind.u64.wrap (((BitVec.ofInt 64 (a:Int)|||BitVec.ofInt 64 (b:Int)).toNat:Nat):Int):=rfl;rw[k,BitVec.ofInt_natCast,BitVec.ofInt_natCast,e];exact wu ⟨om,om⟩
theorem QH(a b:Nat)(ha:a<18446744073709551616)(hb:b<18446744073709551616):bits .and .u64 (a:Int) (b:Int)=((a&&&b:Nat):Int):=by
 have h:a&&&b<2^64:=Nat.lt_of_le_of_lt Nat.and_le_left ha;have e:(BitVec.ofNat 64 a&&&BitVec.ofNat 64 b).toNat=a&&&b:=by rw[BitVec.toNat_and,BitVec.toNat_ofNat,BitVec.toNat_ofNat,Nat.mod_eq_of_lt ha,Nat.mod_eq_of_lt hb]
 have k:bits .and .u64 (a:Int) (b:Int)=IntKind.u64.wrap (((BitVec.ofInt 64 (a:Int)&&&BitVec.ofInt 64 (b:Int)).toNat:Nat):Int):=rfl;rw[k,BitVec.ofInt_natCast,BitVec.ofInt_natCast,e];exact wu ⟨om,om⟩
theorem Cf(x r:Nat)(h:r≤64):IntKind.u64.wrap ((x:Int)*2^(min r IntKind.u64.bits))=((x*2^r%18446744073709551616:Nat):Int):=by
 rw[show min r IntKind.u64.bits=r from Nat.min_eq_left h,IntKind.wrap_u64];have:(x:Int)*2^r=((x*2^r:Nat):Int):=sy;rw[this];omega
theorem jT(x r:Nat)(h:r≤64):(x:Int).fdiv (2^(min r IntKind.u64.bits))=((x/2^r:Nat):Int):=by
 rw[show min r IntKind.u64.bits=r from Nat.min_eq_left h];have:(2:Int)^r=((2^r:Nat):Int):=sy;rw[this,Int.fdiv_eq_ediv_of_nonneg _ (Int.natCast_nonneg _)];rfl
theorem Ci(r:Nat):(64-(r:Int)).toNat=64-r:=om
theorem Ky(n:Nat):(n:Int).tmod 64=((n%64:Nat):Int):=rfl
theorem Kz(n:Nat):(n:Int).tdiv 64=((n/64:Nat):Int):=rfl
theorem I_{x r low:Nat}(hr:r≤64)(hl:low<2^r):(x*2^r%18446744073709551616)|||low=x*2^r%18446744073709551616+low:=by
 have e:x*2^r%18446744073709551616=2^r*(x%2^(64-r)):=by
  rw[show 18446744073709551616=2^r*2^(64-r)from by rw[←Nat.pow_add,show r+(64-r)=64 from om],Nat.mul_comm x,Nat.mul_mod_mul_left]
 rw[e,←Nat.two_pow_add_eq_or_of_lt hl]
theorem DU{x r low:Nat}(hr:r≤64)(hl:low<2^r):low|||(x*2^r%18446744073709551616)=low+x*2^r%18446744073709551616:=by
 rw[Nat.or_comm,I_ hr hl,Nat.add_comm]
theorem QI{V P x r:Nat}(hP:0<P)(hV:V<P)(hx:x<B)(hr:r≤64):
 ((V+P*x)*2^r)/P%B=x*2^r%18446744073709551616+V*2^r/P∧((V+P*x)*2^r)/(P*B)=x/2^(64-r)∧((V+P*x)*2^r)%P=(V*2^r)%P∧V*2^r/P<2^r:=by
 have hl:V*2^r/P<2^r:=(Nat.div_lt_iff_lt_mul hP).2 (by rw[Nat.mul_comm];exact Nat.mul_lt_mul_of_pos_left hV (Nat.pow_pos dc))
 have e:(V+P*x)*2^r=V*2^r+P*(x*2^r):=by rw[Nat.add_mul,Nat.mul_assoc]
 have eB:B=2^(64-r)*2^r:=by rw[←Nat.pow_add,show 64-r+r=64 from om];rfl
 have em:x*2^r%18446744073709551616=2^r*(x%2^(64-r)):=by
  rw[show 18446744073709551616=2^r*2^(64-r)from by rw[←Nat.pow_add,show r+(64-r)=64 from om],Nat.mul_comm x,Nat.mul_mod_mul_left]
 have e1:(V+P*x)*2^r/P=V*2^r/P+x*2^r:=by rw[e,Nat.add_mul_div_left _ _ hP]
 have hq:x*2^r/B=x/2^(64-r):=by rw[eB,Nat.mul_div_mul_right _ _ (Nat.pow_pos dc)]
 have hsum:V*2^r/P+x*2^r=(x*2^r%B+V*2^r/P)+B*(x*2^r/B):=by have:=Nat.mod_add_div (x*2^r) B;omega
 have hlt:x*2^r%B+V*2^r/P<B:=by
  have h1:x%2^(64-r)<2^(64-r):=Nat.mod_lt _ (Nat.pow_pos dc);have h2:2^r*(x%2^(64-r)+1)≤2^r*2^(64-r):=Nat.mul_le_mul_left _ h1;rw[show x*2^r%B=2^r*(x%2^(64-r))from em];rw[Nat.mul_add,Nat.mul_one,Nat.mul_comm (2^r) (2^(64-r)),←eB]at h2;omega
 have hB:0<B:=dc
 refine⟨?_,?_,?_,hl⟩
 ·rw[e1,hsum,Nat.add_mul_mod_self_left,Nat.mod_eq_of_lt hlt];rfl
 ·rw[←Nat.div_div_eq_div_mul,e1,hsum,Nat.add_mul_div_left _ _ hB,Nat.div_eq_of_lt hlt,Nat.zero_add,hq]
 ·rw[e,Nat.add_mul_mod_self_left]
theorem Aj{X r:Nat}(h0:0<r)(hr:r<64):X/2^r%B=X%B/2^r+(X/B%B)*2^(64-r)%18446744073709551616∧X%B/2^r<2^(64-r):=by
 have eB:B=2^r*2^(64-r):=by rw[←Nat.pow_add,show r+(64-r)=64 from om];rfl
 have hlt:X%B/2^r<2^(64-r):=(Nat.div_lt_iff_lt_mul (Nat.pow_pos dc)).2 (by rw[Nat.mul_comm,←eB];exact Nat.mod_lt _ dc);refine⟨?_,hlt⟩;have e1:X/2^r=X%B/2^r+2^(64-r)*(X/B):=by
  have h1:=Nat.mod_add_div X B;have h2:X=X%B+2^r*(2^(64-r)*(X/B)):=by rw[←Nat.mul_assoc,←eB];omega
  calc X/2^r=(X%B+2^r*(2^(64-r)*(X/B)))/2^r:=by rw[←h2]
   _=_:=Nat.add_mul_div_left _ _ (Nat.pow_pos dc)
 have em:∀y,y*2^(64-r)%B=2^(64-r)*(y%2^r):=fun y=>by rw[eB,Nat.mul_comm y,Nat.mul_comm (2^r),Nat.mul_mod_mul_left]
 have em2:X/B%B*2^(64-r)%18446744073709551616=2^(64-r)*(X/B%2^r):=by
  rw[show(18446744073709551616:Nat)=B from rfl,em,eB,Nat.mod_mul_right_mod]
 have em3:2^(64-r)*(X/B)%B=2^(64-r)*(X/B%2^r):=by rw[Nat.mul_comm,em]
 rw[em2,e1];have h3:X%B/2^r+2^(64-r)*(X/B%2^r)<B:=by
  have h4:X/B%2^r<2^r:=Nat.mod_lt _ (Nat.pow_pos dc);have h5:2^(64-r)*(X/B%2^r+1)≤2^(64-r)*2^r:=Nat.mul_le_mul_left _ h4;rw[Nat.mul_add,Nat.mul_one,Nat.mul_comm _ (2^r),←eB]at h5;omega
 rw[Nat.add_mod,em3,Nat.mod_eq_of_lt (show X%B/2^r<B from om),Nat.mod_eq_of_lt h3]
def jB(a:List Nat)(n:Nat):List Nat:=List.replicate (n/64) 0++(if n%64=0 then a else fl B (a.length+1) (nv B a*2^(n%64)))
theorem Ak(a:List Nat)(n:Nat):(jB a n).length≤n/64+a.length+1:=by
 unfold jB;rw[List.length_append,List.length_replicate];split
 ·omega
 ·rw[bg];omega
theorem Cj{a:List Nat}(ha:Wd a)(n:Nat):Wd (jB a n):=by
 unfold jB;refine Lt_app.2 ⟨uM dc,?_⟩;split
 ·exact ha
 ·exact lI dc _ _
theorem Cm{a:List Nat}(ha:Wd a)(n:Nat):nv B (jB a n)=nv B a*2^n:=by
 have e:(2:Nat)^n=B^(n/64)*2^(n%64):=by rw[YJ,←Nat.pow_mul,←Nat.pow_add,Nat.div_add_mod]
 unfold jB;rw[qj,qh,Nat.zero_add,List.length_replicate,e];split
 ·rename_i h;rw[h,Nat.pow_zero,Nat.mul_one,Nat.mul_comm]
 ·rw[mW,Nat.mod_eq_of_lt,Nat.mul_left_comm];have h1:=bY ha;have h2:2^(n%64)≤B:=by rw[YJ];exact Nat.pow_le_pow_right dc om
  rw[Nat.pow_succ];exact Nat.lt_of_lt_of_le (Nat.mul_lt_mul_of_pos_right h1 (Nat.pow_pos dc)) (Nat.mul_le_mul_left _ h2)
theorem CB(n:Nat):(2:Nat)^n=B^(n/64)*2^(n%64):=by rw[YJ,←Nat.pow_mul,←Nat.pow_add,Nat.div_add_mod]
theorem Ny{A n i:Nat}:A/2^n/B^i%B=A/B^(n/64+i)/2^(n%64)%B:=by
 rw[CB,Nat.div_div_eq_div_mul,Nat.div_div_eq_div_mul,Nat.pow_add];congr 2;rw[Nat.mul_right_comm]
end Go.Proofs.YtcgfgifjkkmmcaaGreatDoor
namespace Go.Proofs.YtcgfgifjkkmmcaaGreatDoor
open Go Go.RowKit Ab
def bl(x:Nat):Nat:=if x=0 then 0 else x.log2+1
theorem FZ(x:Nat):x<2^bl x:=by
 unfold bl;split
 ·omega
 ·exact Nat.lt_log2_self
theorem CE{x:Nat}(h:x≠0):2^(bl x-1)≤x∧1≤bl x:=by
 unfold bl;rw[if_neg h];exact⟨Nat.log2_self_le h,om⟩
theorem Wl{x k:Nat}(h1:2^k≤x)(h2:x<2^(k+1)):bl x=k+1:=by
 have h0:x≠0:=by have:=Nat.two_pow_pos k;omega
 obtain⟨h3,h4⟩:=CE h0;have h5:=FZ x;rcases Nat.lt_trichotomy (bl x) (k+1)with h|h|h
 ·have:=Nat.pow_le_pow_right (show 0<2 by decide) (show bl x≤k by omega);omega
 ·exact h
 ·have:=Nat.pow_le_pow_right (show 0<2 by decide) (show k+1≤bl x-1 by omega);omega
theorem DV{x n:Nat}(h:2^n≤x):bl x=n+bl (x/2^n):=by
 have hp:=Nat.two_pow_pos n;have hq:x/2^n≠0:=by have:=(Nat.le_div_iff_mul_le hp).2 (by simpa using h:1*2^n≤x);omega
 obtain⟨h1,h2⟩:=CE hq;have h3:=FZ (x/2^n);obtain⟨k,hk⟩:∃k,bl (x/2^n)=k+1:=⟨bl (x/2^n)-1,om⟩;rw[hk]at h1 h3 ⊢;rw[←Nat.add_assoc];refine Wl ?_ ?_
 ·rw[Nat.add_comm,Nat.pow_add];exact(Nat.le_div_iff_mul_le hp).1 h1
 ·rw[show n+k+1=(k+1)+n from om,Nat.pow_add];exact(Nat.div_lt_iff_lt_mul hp).1 h3
theorem qP{x:Nat}(h:x<18446744073709551616):bl x≤64:=by
 by_cases h0:x=0
 ·subst h0;decide
 ·obtain⟨h1,h2⟩:=CE h0;rcases Nat.lt_or_ge 64 (bl x)with h3|h3
  ·have:=Nat.pow_le_pow_right (show 0<2 by decide) (show 64≤bl x-1 by omega);omega
  ·exact h3
theorem QJ{x:Nat}(h:x≠0):0<bl x:=(CE h).2
theorem QK{fJ kY u32 u1 q r:Nat}(h:q*fJ+r=u32)(h2:q*kY≤4294967296*r+u1):q*(fJ*4294967296+kY)≤u32*4294967296+u1:=by
 have e:q*(fJ*4294967296+kY)=q*fJ*4294967296+q*kY:=by rw[Nat.mul_add,Nat.mul_assoc]
 rw[e];generalize q*fJ=a at *;generalize q*kY=c at *;omega
theorem QL{fJ kY u32 u1 q r:Nat}(h:q*fJ+r=u32)(h2:4294967296*r+u1<q*kY):u32*4294967296+u1<q*(fJ*4294967296+kY):=by
 have e:q*(fJ*4294967296+kY)=q*fJ*4294967296+q*kY:=by rw[Nat.mul_add,Nat.mul_assoc]
 rw[e];generalize q*fJ=a at *;generalize q*kY=c at *;omega
theorem zn{Y u32 u1 q:Nat}(hu:u32<Y)(h1:u1<4294967296)(hq:4294967296≤q):u32*4294967296+u1<q*Y:=by
 have:=Nat.mul_le_mul hq (show u32+1≤Y from hu);omega
theorem QM{fJ kY u32 u1:Nat}(h31:2147483648≤fJ)(h0:kY<4294967296)(hu:u32<fJ*4294967296+kY)(h1:u1<4294967296):
 u32/fJ*fJ+u32%fJ=u32∧u32*4294967296+u1<(u32/fJ+1)*(fJ*4294967296+kY)∧u32/fJ≤4294967297:=by
 have e:=Nat.div_add_mod u32 fJ
 have hm:=Nat.mod_lt u32 (show 0<fJ by omega)
 rw[Nat.mul_comm]at e
 refine⟨e,?_,?_⟩
 ·have h:(u32/fJ+1)*(fJ*4294967296+kY)=(u32/fJ*fJ+fJ)*4294967296+(u32/fJ+1)*kY:=by rw[Nat.mul_add,←Nat.mul_assoc,Nat.add_mul _ 1 fJ,Nat.one_mul]
  rw[h];generalize u32/fJ*fJ=a at*
  generalize (u32/fJ+1)*kY=c at*
  omega
 ·have:u32/fJ<4294967298:=(Nat.div_lt_iff_lt_mul om).2 om;omega
theorem jq{Y N q:Nat}(h1:q*Y≤N)(h2:N<(q+1)*Y):q=N/Y:=by
 have hY:0<Y:=by
  rcases Nat.eq_zero_or_pos Y with h|h
  ·subst h;simp at h2
  ·exact h
 exact(Nat.div_eq_of_lt_le h1 h2).symm
theorem QN{Y N jV q r:Nat}(hY:0<Y)(e:Y*q+r=N):(N*4294967296+jV)/Y=q*4294967296+(r*4294967296+jV)/Y∧(N*4294967296+jV)%Y=(r*4294967296+jV)%Y:=by
 have h:N*4294967296+jV=(r*4294967296+jV)+Y*(q*4294967296):=by
  rw[←e,←Nat.mul_assoc];omega
 rw[h,Nat.add_mul_div_left _ _ hY,Nat.add_mul_mod_self_left,Nat.add_comm];exact⟨rfl,rfl⟩
theorem l_{Y N jV:Nat}(hY:0<Y):(N*4294967296+jV)/Y=N/Y*4294967296+(N%Y*4294967296+jV)/Y∧(N*4294967296+jV)%Y=(N%Y*4294967296+jV)%Y:=
 QN hY (Nat.div_add_mod N Y)
theorem Nz{y:Nat}(h0:y≠0)(hy:y<18446744073709551616):9223372036854775808≤y*2^(64-bl y)∧y*2^(64-bl y)<18446744073709551616:=by
 obtain⟨h1,h2⟩:=CE h0;have h3:=FZ y;have h4:=qP hy;constructor
 ·have:=Nat.mul_le_mul_right (2^(64-bl y)) h1;rw[←Nat.pow_add,show bl y-1+(64-bl y)=63 from om]at this;exact this
 ·have:=(Nat.mul_lt_mul_right (Nat.two_pow_pos (64-bl y))).2 h3;rw[←Nat.pow_add,show bl y+(64-bl y)=64 from om]at this;exact this
theorem NC{lo s:Nat}(hs:s≤64):lo*2^s=lo/2^(64-s)*18446744073709551616+lo*2^s%18446744073709551616:=by
 have e:(18446744073709551616:Nat)=2^s*2^(64-s):=by rw[←Nat.pow_add,show s+(64-s)=64 from om]
 have h:=Nat.div_add_mod (lo*2^s) 18446744073709551616;have h2:lo*2^s/18446744073709551616=lo/2^(64-s):=by rw[e,Nat.mul_comm lo,Nat.mul_div_mul_left _ _ (Nat.two_pow_pos s)]
 rw[h2]at h;omega
theorem shr_lt{lo s:Nat}(hs:s≤64)(hl:lo<18446744073709551616):lo/2^(64-s)<2^s:=by
 refine(Nat.div_lt_iff_lt_mul (Nat.two_pow_pos _)).2 ?_;rw[←Nat.pow_add,show s+(64-s)=64 from om];exact hl
theorem CG{U y s:Nat}:U*2^s/(y*2^s)=U/y∧U*2^s%(y*2^s)/2^s=U%y:=by
 refine⟨Nat.mul_div_mul_right _ _ (Nat.two_pow_pos s),?_⟩;rw[Nat.mul_mod_mul_right,Nat.mul_div_cancel _ (Nat.two_pow_pos s)]
end Go.Proofs.YtcgfgifjkkmmcaaGreatDoor
namespace Go.Proofs.YtcgfgifjkkmmcaaGreatDoor
open Go Go.RowKit Ab
theorem kF(a:List Nat)(ha:a.length≤1099511627776):ah Tryz.prog J0 106 [.l 1 (W a)] (.o 31 1 (W a)):=by
 refine d_ aX bV Tryz.func106 ?_;rw[Ql];try simp only[Sv,↓reduceIte,Nat.reduceEqDiff]
 refine ay (fun K hK=>?_);refine dM trivial ?_;refine hK _ ?_;clear hK K;simp only[Sv];try simp only[Sv,↓reduceIte,Nat.reduceEqDiff]
 refine ay (fun K hK=>?_);refine dM trivial ?_;refine isp_mk fun t ht=>?_
 refine dM trivial ?_;refine hK _ ?_;clear hK K;simp only[Sv,↓reduceIte];refine vmc_mk (fun hc=>?_) (fun hc=>?_)
 ·try (refine hK _ ?_;clear hK K)
  refine aJ trivial ?_;simp only[bne_eq_false_iff_eq,ne_eq,bne_iff_ne,Bool.not_eq_false]at hc;have:=ht hc;exact jX @this
 ·try (refine hK _ ?_;clear hK K)
  refine aJ (ai @BX (ai @dh (ai @Nat.div_one @aH))) ?_;exact jX trivial
theorem pI(a:List Nat)(ha:a.length≤1099511627776):ah Tryz.prog J0 140 [.l 1 (W a)] (.i .i64 ((tz a).length:Int)):=by
 refine d_ aX bV Tryz.func140 ?_;refine aJ (ai @Nat.div_one @aH) ?_;refine wF Nat (fun n=>⟨[(0,.l 1 (W a)),(3,.i .i64 (n:Int))],[],0⟩) (fun n=>n≤a.length∧tz a=tz (a.take n)) (fun n=>n) a.length [] ⟨om,by rw[List.take_length]⟩ (by
  simp(disch:=(first|omega|assumption)) only[Sl,Sa,Sw,↓reduceIte,Nat.reduceEqDiff,Nat.reduceLT,List.all_nil,List.all_cons,Nat.reduceBneDiff,Nat.reduceAdd,bne_iff_ne,ne_eq,reduceCtorEq,not_false_eq_true,not_true_eq_false,Bool.and_true,Bool.true_and,and_true,true_and,and_self]
  ) ?_
 intro n ⟨hn,ht⟩ Q' hQ he hr;by_cases h0:0<(n:Int)
 ·by_cases h1:((a.getD (n-1) 0:Nat):Int)=0
  ·refine aJ (ai @Nat.mul_one (ai @sZ (ai @wi (ai @cZ (ai @aH (ai @h1 @h0)))))) ?_;refine hQ _ (n-1) [] ⟨om,?_⟩ om ?_
   ·obtain⟨m,rfl⟩:∃m,n=m+1:=⟨n-1,om⟩;rw[ht];exact vJ a m om (by simpa using h1)
   ·refine nO trivial ?_;omega
  ·refine aJ (ai @Nat.mul_one (ai @sZ (ai @wi (ai @cZ (ai @aH (ai @h1 @h0)))))) ?_;refine he _ _ ?_;refine aJ trivial ?_;refine uI @iV ?_;obtain⟨m,rfl⟩:∃m,n=m+1:=⟨n-1,om⟩;rw[ht,Hq a m om (by simpa using h1)]
 ·refine aJ @h0 ?_;refine he _ _ ?_;refine aJ trivial ?_;refine uI @iV ?_;obtain rfl:n=0:=om;rw[ht];rfl
theorem mM(a:List Nat)(ha:a.length≤1099511627776):ah Tryz.prog J0 114 [.l 1 (W a)] (.o 31 1 (W (tz a))):=by
 refine d_ aX bV Tryz.func114 ?_;have hl:=kZ a;refine aJ trivial ?_;try simp only[Sv,↓reduceIte,Nat.reduceEqDiff]
 refine ay (fun K hK=>?_);refine dM trivial ?_;refine pY trivial (pI a ha) ?_;refine dM (ai @yY (ai @nD (ai @aO (ai @Nat.mul_one @aH)))) ?_;refine pY trivial (kF (tz a) om) ?_;refine dM (ai @Nat.div_one @aH) ?_;refine hK _ ?_;clear hK K;try (refine hK _ ?_;clear hK K)
 refine aJ trivial ?_;exact jX trivial
theorem jr(a:List Nat)(i:Nat):ah Tryz.prog J0 133 [.l 1 (W a),.i .i64 i] (.i .u64 ((a.getD i 0:Nat):Int)):=by
 refine d_ aX bV Tryz.func133 ?_;by_cases h:(i:Int)<a.length
 ·refine aJ (ai @aO (ai @Nat.mul_one (ai @Nat.div_one (ai @cZ (ai @aH @h))))) ?_;exact jX trivial
 ·refine aJ (ai @aO (ai @Nat.mul_one (ai @Nat.div_one (ai @cZ (ai @aH @h))))) ?_;refine uI @iV ?_;rw[List.getD_eq_getElem?_getD,List.getElem?_eq_none om];rfl
theorem pJ(x y c:Nat)(hx:x<18446744073709551616)(hy:y<18446744073709551616)(hc:c<18446744073709551616):
 ah Tryz.prog J0 132 [.i .u64 x,.i .u64 y,.i .u64 c] (.t [.i .u64 (((x+y+c)%18446744073709551616:Nat):Int),.i .u64 (((x+y+c)/18446744073709551616:Nat):Int)]):=by
 refine d_ aX bV Tryz.func132 ?_
 refine aJ trivial ?_
 try simp only[Sv,↓reduceIte,Nat.reduceEqDiff]
 refine ay (fun K hK=>?_)
 refine dM trivial ?_
 refine ny _ (og x y) ?_
 refine dM trivial ?_
 refine hK _ ?_
 clear hK K
 try (refine hK _ ?_;clear hK K)
 refine aJ trivial ?_
 try simp only[Sv,↓reduceIte,Nat.reduceEqDiff]
 refine ay (fun K hK=>?_)
 refine dM trivial ?_
 refine ny _ (og ((x+y)%18446744073709551616) c) ?_
 refine dM trivial ?_
 refine hK _ ?_
 clear hK K
 try (refine hK _ ?_;clear hK K)
 refine aJ @wu ?_
 refine uI @iV ?_
 omega
theorem CJ(x y c:Nat)(hx:x<18446744073709551616)(hy:y<18446744073709551616)(hc:c≤1):
 ah Tryz.prog J0 145 [.i .u64 x,.i .u64 y,.i .u64 c] (.t [.i .u64 (((x+18446744073709551616-(y+c))%18446744073709551616:Nat):Int),.i .u64 ((if x<y+c then 1 else 0:Nat):Int)]):=by
 refine d_ aX bV Tryz.func145 ?_
 refine aJ trivial ?_
 try simp only[Sv,↓reduceIte,Nat.reduceEqDiff]
 refine ay (fun K hK=>?_)
 refine dM trivial ?_
 refine ny _ (DT x y hy) ?_
 refine dM trivial ?_
 refine hK _ ?_
 clear hK K
 try (refine hK _ ?_;clear hK K)
 refine aJ trivial ?_
 try simp only[Sv,↓reduceIte,Nat.reduceEqDiff]
 refine ay (fun K hK=>?_)
 refine dM trivial ?_
 refine ny _ (DT ((x+18446744073709551616-y)%18446744073709551616) c om) ?_
 refine dM trivial ?_
 refine hK _ ?_
 clear hK K
 try (refine hK _ ?_;clear hK K)
 refine aJ trivial ?_
 refine uI @iV ?_
 constructor
 ·omega
 ·rw[wu (by split<;>split<;>omega)];split<;>split<;>split<;>omega
end Go.Proofs.YtcgfgifjkkmmcaaGreatDoor
namespace Go.Proofs.YtcgfgifjkkmmcaaGreatDoor
open Go Go.RowKit Ab
theorem DW(n:Nat):(List.replicate n [V.i .u64 0]).flatten=W (List.replicate n 0):=by
 induction n with
 |zero=>rfl
 |succ n ih=>rw[List.replicate_succ,List.flatten_cons,ih,List.replicate_succ];rfl
theorem mx(a b:Nat):max (a:Int) (b:Int)=((max a b:Nat):Int):=om
theorem F5{a b:List Nat}(h:a=b):W a=W b:=by rw[h]
theorem Wn(n x:Nat):(List.replicate n x).length=n:=sy
theorem qF(a b:List Nat)(ha:Wd a)(hb:Wd b)(la:a.length≤1099511627776)(lb:b.length≤1099511627776):
 ah Tryz.prog J0 134 [.l 1 (W a),.l 1 (W b)] (.t [.l 1 (W (fl B (max a.length b.length) (nv B a+B^(max a.length b.length)-nv B b))),.i .u64 ((if nv B a<nv B b then 1 else 0:Nat):Int)]):=by
 refine d_ aX bV Tryz.func134 ?_
 generalize hm:max a.length b.length=m
 have hm':m≤1099511627776:=om
 refine aJ (ai @aO (ai @DW (ai @hm (ai @mx (ai @Nat.div_one @aH))))) ?_
 refine wF Nat (fun i=>⟨[(0,.l 1 (W a)),(1,.l 1 (W b)),(6,.ow 1 0 m),(7,.i .u64 ((if nv B (a.take i)<nv B (b.take i)then 1 else 0:Nat):Int)),(16,.i .i64 (m:Int)),(17,.i .i64 (i:Int))],
  [(0,some ⟨31,1,W (fl B i (nv B (a.take i)+B^i-nv B (b.take i))++List.replicate (m-i) 0),true,false⟩)],1⟩)
  (fun i=>i≤m) (fun i=>m-i) 0 [(0,7)] (Nat.zero_le _) (by
  simp(disch:=(first|omega|assumption)) only[Sl,Sa,Sw,↓reduceIte,Nat.reduceEqDiff,Nat.reduceLT,List.all_nil,List.all_cons,Nat.reduceBneDiff,Nat.reduceAdd,bne_iff_ne,ne_eq,reduceCtorEq,not_false_eq_true,not_true_eq_false,Bool.and_true,Bool.true_and,and_true,true_and,and_self]
  exact⟨⟨by simp[nv],rfl⟩,F5 (by simp[fl])⟩) ?_
 intro i hi Q' hQ he hr
 by_cases h:(i:Int)<m
 ·have lf:(fl B i (nv B (a.take i)+B^i-nv B (b.take i))).length=i:=bg _ _;generalize hc:(if nv B (a.take i)<nv B (b.take i)then 1 else 0:Nat)=c;have hc1:c≤1:=by rw[←hc];split<;>omega
  generalize hl:fl B i (nv B (a.take i)+B^i-nv B (b.take i))=l at lf;refine aJ @h ?_;try simp only[Sv,↓reduceIte,Nat.reduceEqDiff]
  refine ay (fun K hK=>?_);refine dM trivial ?_;refine pY trivial (jr a i) ?_;refine dM trivial ?_;refine pY trivial (jr b i) ?_;refine dM trivial ?_;refine pY trivial (CJ (a.getD i 0) (b.getD i 0) c (dA ha i) (dA hb i) hc1) ?_;have ll:(l++List.replicate (m-i) 0).length=m:=by rw[List.length_append,lf,Wn];omega
  refine dM (ai @ll (ai @iQ (ai @Nat.mul_one (ai @aO @aH)))) ?_;refine hK _ ?_;clear hK K;try (refine hK _ ?_;clear hK K)
  refine aJ @wi ?_;refine hQ _ (i+1) [] om om ?_;have st:=ER (b:=B) (P:=B^i) (Nat.pow_pos dc) (aZ (b:=B) dc ha i) (aZ (b:=B) dc hb i) (show a.getD i 0<B from dA ha i) (show b.getD i 0<B from dA hb i);rw[hc]at st;obtain⟨s1,s2,s3⟩:=st;refine nO trivial ?_;refine⟨⟨?_,om⟩,F5 ?_⟩
  ·rw[af,af];simp only[s3]
  ·have e:nv B (a.take (i+1))+B^(i+1)-nv B (b.take (i+1))=nv B (a.take i)+B^i*a.getD i 0+B^i*B-(nv B (b.take i)+B^i*b.getD i 0):=by rw[af,af,Nat.pow_succ]
   rw[e,dO,ed dc s2,hl,s1];obtain⟨k,hk⟩:∃k,m-i=k+1:=⟨m-i-1,om⟩;rw[hk,List.replicate_succ,show m-(i+1)=k from om,List.set_append_right _ _ om,lf,Nat.sub_self,List.set_cons_zero,List.append_assoc];rfl
 ·obtain rfl:i=m:=om;try (refine hK _ ?_;clear hK K)
  refine aJ @h ?_;refine he _ _ ?_;try (refine hK _ ?_;clear hK K)
  refine aJ trivial ?_;refine uI @Nq ?_;rw[List.take_of_length_le om,List.take_of_length_le om];simp
def sg(x y:Nat):Int:=if x<y then-1 else if x=y then 0 else 1
theorem DX(a b:List Nat)(ha:Wd a)(hb:Wd b)(la:a.length≤1099511627776)(lb:b.length≤1099511627776):
 ah Tryz.prog J0 117 [.l 1 (W a),.l 1 (W b)] (.i .i64 (sg (nv B a) (nv B b))):=by
 refine d_ aX bV Tryz.func117 ?_
 generalize hm:max a.length b.length=m
 refine aJ (ai @wi (ai @hm (ai @mx (ai @Nat.div_one @aH)))) ?_
 refine wF Nat (fun i=>⟨[(0,.l 1 (W a)),(1,.l 1 (W b)),(6,.i .i64 ((i:Int)-1))],[],0⟩)
  (fun i=>i≤m∧∀j,i≤j→a.getD j 0=b.getD j 0) (fun i=>i) m [] ⟨Nat.le_refl _,fun j hj=>by rw[List.getD_eq_getElem?_getD,List.getD_eq_getElem?_getD,List.getElem?_eq_none om,List.getElem?_eq_none om]⟩ (by exact mF) ?_
 intro i ⟨hi,hj⟩ Q' hQ he hr
 by_cases h:(0:Int)≤(i:Int)-1
 ·obtain⟨n,rfl⟩:∃n,i=n+1:=⟨i-1,om⟩;have e:((n+1:Nat):Int)-1=(n:Int):=om;have h:(0:Int)≤(n:Int):=om;simp only[e];refine aJ @h ?_;try simp only[Sv,↓reduceIte,Nat.reduceEqDiff]
  refine ay (fun K hK=>?_);refine dM trivial ?_;refine pY trivial (jr a n) ?_;refine dM trivial ?_;refine pY trivial (jr b n) ?_;refine dM trivial ?_;refine hK _ ?_;clear hK K;by_cases h1:((a.getD n 0:Nat):Int)=((b.getD n 0:Nat):Int)
  ·have hj':∀j,n≤j→a.getD j 0=b.getD j 0:=fun j h3=>by
    rcases Nat.lt_or_ge n j with h4|h4
    ·exact hj j h4
    ·obtain rfl:j=n:=om;omega
   simp only[h1];try (refine hK _ ?_;clear hK K)
   refine aJ @wi ?_;exact hQ _ n [] ⟨om,hj'⟩ om (by exact mF)
  ·have c1:=(rF (B:=B) (n+1) hj).1;have c2:=(rF (B:=B) (n+1) hj).2;by_cases h2:((a.getD n 0:Nat):Int)<((b.getD n 0:Nat):Int)
   ·try (refine hK _ ?_;clear hK K)
    refine aJ (ai @h2 @h1) ?_;refine hr _ ?_;have c3:=Dt (b:=B) dc ha hb n om;have c4:nv B a<nv B b:=c1.1 c3;refine uI @iV ?_;simp[sg,c4]
   ·try (refine hK _ ?_;clear hK K)
    refine aJ (ai @h2 @h1) ?_;refine hr _ ?_;have c3:=Dt (b:=B) dc hb ha n om;have c4:¬nv B a<nv B b:=fun h=>by have:=c1.2 h;omega
    have c5:¬nv B a=nv B b:=fun h=>by have:=c2.2 h;omega
    refine uI @iV ?_;simp[sg,c4,c5]
 ·obtain rfl:i=0:=om;try (refine hK _ ?_;clear hK K)
  refine aJ @h ?_;refine he _ _ ?_;try (refine hK _ ?_;clear hK K)
  refine aJ trivial ?_;have c2:=(rF (B:=B) 0 hj).2.1 rfl;refine uI @iV ?_;simp[sg,c2]
end Go.Proofs.YtcgfgifjkkmmcaaGreatDoor
namespace Go.Proofs.YtcgfgifjkkmmcaaGreatDoor
open Go Go.RowKit Ab
theorem QO{a b:List Nat}{i:Nat}(ha:Wd a)(hi:b.length≤i)(hia:i≤a.length)(hc:(nv B (a.take i)+nv B (b.take i))/B^i=0):
 fl B i (nv B (a.take i)+nv B (b.take i))++a.drop i=fl B a.length (nv B a+nv B b)∧(nv B a+nv B b)/B^a.length=0:=by
 rw[List.take_of_length_le hi]at hc ⊢
 have h0:nv B (a.take i)+nv B b<B^i:=by
  rcases Nat.lt_or_ge (nv B (a.take i)+nv B b) (B^i)with h|h
  ·exact h
  ·have:=(Nat.le_div_iff_mul_le (Nat.pow_pos (by decide:0<B))).2 (by simpa using h:1*B^i≤_);omega
 have h1:=qC (b:=B) a i hia
 have hd:=bY (y_ ha i)
 rw[List.length_drop]at hd
 have e:nv B a+nv B b=(nv B (a.take i)+nv B b)+B^i*nv B (a.drop i):=om
 have hl:a.length=i+(a.length-i):=om
 have hlt:nv B a+nv B b<B^a.length:=by
  rw[e,hl,Nat.pow_add];have:=Nat.mul_le_mul_left (B^i) hd;rw[Nat.mul_succ]at this;omega
 refine⟨?_,Nat.div_eq_of_lt hlt⟩
 rw[hl,zG,e,Nat.add_mul_div_left _ _ (Nat.pow_pos dc),Nat.div_eq_of_lt h0,Nat.zero_add]
 congr 1
 ·exact ed dc (by rw[Nat.add_mul_mod_self_left])
 ·have:=vK (y_ ha i);rw[List.length_drop]at this;exact this.symm
theorem Am(a b:List Nat)(ha:Wd a)(hb:Wd b)(la:a.length≤1099511627776)(lb:b.length≤1099511627776):
 ah Tryz.prog J0 105 [.l 1 (W a),.l 1 (W b)] (.fr (.t [.l 1 (W (fl B (max a.length b.length) (nv B a+nv B b))),.i .u64 (((nv B a+nv B b)/B^(max a.length b.length):Nat):Int)])):=by
 refine d_ aX bV Tryz.func105 ?_
 by_cases hab:(a.length:Int)<b.length
 ·refine aJ (ai @hab (ai @Nat.div_one @aH)) ?_;try simp only[Sv,↓reduceIte,Nat.reduceEqDiff]
  refine ay (fun K hK=>?_);refine dM trivial ?_;refine pY trivial (kF b om) ?_;refine dM (ai @eY (ai @Nat.div_one @aH)) ?_;refine hK _ ?_;clear hK K;try (refine hK _ ?_;clear hK K)
  refine aJ (ai @Nat.div_one @aH) ?_;refine wF Nat (fun i=>⟨[(0,.l 1 (W b)),(1,.l 1 (W a)),(6,.ow 1 0 b.length),(7,.i .u64 (((nv B (b.take i)+nv B (a.take i))/B^i:Nat):Int)),(19,.i .i64 (b.length:Int)),(20,.i .i64 (i:Int))],
   [(0,some ⟨31,1,W (fl B i (nv B (b.take i)+nv B (a.take i))++b.drop i),true,false⟩)],1⟩)
   (fun i=>i≤b.length) (fun i=>b.length-i) 0 [(0,12)] (Nat.zero_le _) (by
   simp(disch:=(first|omega|assumption)) only[Sl,Sa,Sw,↓reduceIte,Nat.reduceEqDiff,Nat.reduceLT,List.all_nil,List.all_cons,Nat.reduceBneDiff,Nat.reduceAdd,bne_iff_ne,ne_eq,reduceCtorEq,not_false_eq_true,not_true_eq_false,Bool.and_true,Bool.true_and,and_true,true_and,and_self]
   exact⟨⟨by simp[nv],rfl⟩,F5 (by simp[fl])⟩) ?_
  intro i hi Q' hQ he hr;have em:max a.length b.length=b.length:=om;have en:nv B a+nv B b=nv B b+nv B a:=om;have lf:(fl B i (nv B (b.take i)+nv B (a.take i))).length=i:=bg _ _;generalize hc:(nv B (b.take i)+nv B (a.take i))/B^i=c;have hcB:c≤1:=by
   have h1:=aZ (b:=B) dc hb i;have h2:=aZ (b:=B) dc ha i;rw[←hc];exact Nat.le_of_lt_succ ((Nat.div_lt_iff_lt_mul (Nat.pow_pos dc)).2 om)
  by_cases h:(i:Int)<b.length
  ·by_cases h1:(a.length:Int)≤i
   ·by_cases h2:(c:Int)=0
    ·try (refine hK _ ?_;clear hK K)
     refine aJ (ai @Nat.div_one (ai @aH (ai @h2 (ai @h1 @h)))) ?_;refine he _ _ ?_;try (refine hK _ ?_;clear hK K)
     refine aJ trivial ?_;obtain⟨e1,e2⟩:=QO (a:=b) (b:=a) (i:=i) hb om hi om;refine uI (ai @iV (ai @eY @Nq)) ?_;rw[em,en,e1,e2];exact⟨rfl,rfl⟩
    ·try (refine hK _ ?_;clear hK K)
     refine aJ (ai @Nat.div_one (ai @aH (ai @h2 (ai @h1 @h)))) ?_;try simp only[Sv,↓reduceIte,Nat.reduceEqDiff]
     first|refine aB (fun K hK=>?_)|refine au (fun K hK=>?_)
     refine dM (ai @Nat.mul_one (ai @aO (ai @cZ @aH))) ?_;refine pY trivial (jr a i) ?_;refine dM trivial ?_;refine pY trivial (pJ (b.getD i 0) (a.getD i 0) c (dA hb i) (dA ha i) om) ?_;have ll:(fl B i (nv B (b.take i)+nv B (a.take i))++b.drop i).length=b.length:=by rw[List.length_append,lf,List.length_drop];omega
     refine dM (ai @ll (ai @iQ (ai @Nat.mul_one (ai @aO @aH)))) ?_;refine hK _ ?_;clear hK K;try (refine hK _ ?_;clear hK K)
     refine aJ @wi ?_;refine hQ _ (i+1) [] om om ?_;obtain⟨s1,s2,s3⟩:=rH (b:=B) (P:=B^i) (A:=nv B (b.take i)) (Y:=nv B (a.take i)) (x:=b.getD i 0) (y:=a.getD i 0) (Nat.pow_pos dc) dc;rw[hc]at s1 s3;refine nO trivial ?_;refine⟨⟨?_,om⟩,F5 ?_⟩
     ·rw[af,af,Nat.pow_succ,s3];rfl
     ·rw[af,af,dO,ed dc s2,s1,List.drop_eq_getElem_cons (by omega:i<b.length),List.set_append_right _ _ om,lf,Nat.sub_self,List.set_cons_zero,List.append_assoc];rfl
   ·try (refine hK _ ?_;clear hK K)
    refine aJ (ai @Nat.div_one (ai @aH (ai @h1 @h))) ?_;try simp only[Sv,↓reduceIte,Nat.reduceEqDiff]
    first|refine aB (fun K hK=>?_)|refine au (fun K hK=>?_)
    refine dM (ai @Nat.mul_one (ai @aO (ai @cZ @aH))) ?_;refine pY trivial (jr a i) ?_;refine dM trivial ?_;refine pY trivial (pJ (b.getD i 0) (a.getD i 0) c (dA hb i) (dA ha i) om) ?_;have ll:(fl B i (nv B (b.take i)+nv B (a.take i))++b.drop i).length=b.length:=by rw[List.length_append,lf,List.length_drop];omega
    refine dM (ai @ll (ai @iQ (ai @Nat.mul_one (ai @aO @aH)))) ?_;refine hK _ ?_;clear hK K;try (refine hK _ ?_;clear hK K)
    refine aJ @wi ?_;refine hQ _ (i+1) [] om om ?_;obtain⟨s1,s2,s3⟩:=rH (b:=B) (P:=B^i) (A:=nv B (b.take i)) (Y:=nv B (a.take i)) (x:=b.getD i 0) (y:=a.getD i 0) (Nat.pow_pos dc) dc;rw[hc]at s1 s3;refine nO trivial ?_;refine⟨⟨?_,om⟩,F5 ?_⟩
    ·rw[af,af,Nat.pow_succ,s3];rfl
    ·rw[af,af,dO,ed dc s2,s1,List.drop_eq_getElem_cons (by omega:i<b.length),List.set_append_right _ _ om,lf,Nat.sub_self,List.set_cons_zero,List.append_assoc];rfl
  ·obtain rfl:i=b.length:=om;try (refine hK _ ?_;clear hK K)
   refine aJ @h ?_;refine he _ _ ?_;try (refine hK _ ?_;clear hK K)
   refine aJ trivial ?_;refine uI (ai @iV (ai @eY @Nq)) ?_;rw[em,en,←hc,List.take_of_length_le (Nat.le_refl _),List.take_of_length_le om,List.drop_of_length_le (Nat.le_refl _),List.append_nil];exact⟨rfl,rfl⟩
 ·try (refine hK _ ?_;clear hK K)
  refine aJ (ai @hab (ai @Nat.div_one @aH)) ?_;try simp only[Sv,↓reduceIte,Nat.reduceEqDiff]
  refine ay (fun K hK=>?_);refine dM trivial ?_;refine pY trivial (kF a om) ?_;refine dM (ai @eY (ai @Nat.div_one @aH)) ?_;refine hK _ ?_;clear hK K;try (refine hK _ ?_;clear hK K)
  refine aJ (ai @Nat.div_one @aH) ?_;refine wF Nat (fun i=>⟨[(0,.l 1 (W a)),(1,.l 1 (W b)),(6,.ow 1 0 a.length),(7,.i .u64 (((nv B (a.take i)+nv B (b.take i))/B^i:Nat):Int)),(19,.i .i64 (a.length:Int)),(20,.i .i64 (i:Int))],
   [(0,some ⟨31,1,W (fl B i (nv B (a.take i)+nv B (b.take i))++a.drop i),true,false⟩)],1⟩)
   (fun i=>i≤a.length) (fun i=>a.length-i) 0 [(0,8)] (Nat.zero_le _) (by
   simp(disch:=(first|omega|assumption)) only[Sl,Sa,Sw,↓reduceIte,Nat.reduceEqDiff,Nat.reduceLT,List.all_nil,List.all_cons,Nat.reduceBneDiff,Nat.reduceAdd,bne_iff_ne,ne_eq,reduceCtorEq,not_false_eq_true,not_true_eq_false,Bool.and_true,Bool.true_and,and_true,true_and,and_self]
   exact⟨⟨by simp[nv],rfl⟩,F5 (by simp[fl])⟩) ?_
  intro i hi Q' hQ he hr;have em:max a.length b.length=a.length:=om;have en:nv B a+nv B b=nv B a+nv B b:=om;have lf:(fl B i (nv B (a.take i)+nv B (b.take i))).length=i:=bg _ _;generalize hc:(nv B (a.take i)+nv B (b.take i))/B^i=c;have hcB:c≤1:=by
   have h1:=aZ (b:=B) dc ha i;have h2:=aZ (b:=B) dc hb i;rw[←hc];exact Nat.le_of_lt_succ ((Nat.div_lt_iff_lt_mul (Nat.pow_pos dc)).2 om)
  by_cases h:(i:Int)<a.length
  ·by_cases h1:(b.length:Int)≤i
   ·by_cases h2:(c:Int)=0
    ·try (refine hK _ ?_;clear hK K)
     refine aJ (ai @Nat.div_one (ai @aH (ai @h2 (ai @h1 @h)))) ?_;refine he _ _ ?_;try (refine hK _ ?_;clear hK K)
     refine aJ trivial ?_;obtain⟨e1,e2⟩:=QO (a:=a) (b:=b) (i:=i) ha om hi om;refine uI (ai @iV (ai @eY @Nq)) ?_;rw[em,en,e1,e2];exact⟨rfl,rfl⟩
    ·try (refine hK _ ?_;clear hK K)
     refine aJ (ai @Nat.div_one (ai @aH (ai @h2 (ai @h1 @h)))) ?_;try simp only[Sv,↓reduceIte,Nat.reduceEqDiff]
     first|refine aB (fun K hK=>?_)|refine au (fun K hK=>?_)
     refine dM (ai @Nat.mul_one (ai @aO (ai @cZ @aH))) ?_;refine pY trivial (jr b i) ?_;refine dM trivial ?_;refine pY trivial (pJ (a.getD i 0) (b.getD i 0) c (dA ha i) (dA hb i) om) ?_;have ll:(fl B i (nv B (a.take i)+nv B (b.take i))++a.drop i).length=a.length:=by rw[List.length_append,lf,List.length_drop];omega
     refine dM (ai @ll (ai @iQ (ai @Nat.mul_one (ai @aO @aH)))) ?_;refine hK _ ?_;clear hK K;try (refine hK _ ?_;clear hK K)
     refine aJ @wi ?_;refine hQ _ (i+1) [] om om ?_;obtain⟨s1,s2,s3⟩:=rH (b:=B) (P:=B^i) (A:=nv B (a.take i)) (Y:=nv B (b.take i)) (x:=a.getD i 0) (y:=b.getD i 0) (Nat.pow_pos dc) dc;rw[hc]at s1 s3;refine nO trivial ?_;refine⟨⟨?_,om⟩,F5 ?_⟩
     ·rw[af,af,Nat.pow_succ,s3];rfl
     ·rw[af,af,dO,ed dc s2,s1,List.drop_eq_getElem_cons (by omega:i<a.length),List.set_append_right _ _ om,lf,Nat.sub_self,List.set_cons_zero,List.append_assoc];rfl
   ·try (refine hK _ ?_;clear hK K)
    refine aJ (ai @Nat.div_one (ai @aH (ai @h1 @h))) ?_;try simp only[Sv,↓reduceIte,Nat.reduceEqDiff]
    first|refine aB (fun K hK=>?_)|refine au (fun K hK=>?_)
    refine dM (ai @Nat.mul_one (ai @aO (ai @cZ @aH))) ?_;refine pY trivial (jr b i) ?_;refine dM trivial ?_;refine pY trivial (pJ (a.getD i 0) (b.getD i 0) c (dA ha i) (dA hb i) om) ?_;have ll:(fl B i (nv B (a.take i)+nv B (b.take i))++a.drop i).length=a.length:=by rw[List.length_append,lf,List.length_drop];omega
    refine dM (ai @ll (ai @iQ (ai @Nat.mul_one (ai @aO @aH)))) ?_;refine hK _ ?_;clear hK K;try (refine hK _ ?_;clear hK K)
    refine aJ @wi ?_;refine hQ _ (i+1) [] om om ?_;obtain⟨s1,s2,s3⟩:=rH (b:=B) (P:=B^i) (A:=nv B (a.take i)) (Y:=nv B (b.take i)) (x:=a.getD i 0) (y:=b.getD i 0) (Nat.pow_pos dc) dc;rw[hc]at s1 s3;refine nO trivial ?_;refine⟨⟨?_,om⟩,F5 ?_⟩
    ·rw[af,af,Nat.pow_succ,s3];rfl
    ·rw[af,af,dO,ed dc s2,s1,List.drop_eq_getElem_cons (by omega:i<a.length),List.set_append_right _ _ om,lf,Nat.sub_self,List.set_cons_zero,List.append_assoc];rfl
  ·obtain rfl:i=a.length:=om;try (refine hK _ ?_;clear hK K)
   refine aJ @h ?_;refine he _ _ ?_;try (refine hK _ ?_;clear hK K)
   refine aJ trivial ?_;refine uI (ai @iV (ai @eY @Nq)) ?_;rw[em,en,←hc,List.take_of_length_le (Nat.le_refl _),List.take_of_length_le om,List.drop_of_length_le (Nat.le_refl _),List.append_nil];exact⟨rfl,rfl⟩
theorem DY(a b:List Nat)(ha:Wd a)(hb:Wd b)(la:a.length≤1099511627776)(lb:b.length≤1099511627776):
 ah Tryz.prog J0 105 [.l 1 (W a),.l 1 (W b)] (.t [.l 1 (W (fl B (max a.length b.length) (nv B a+nv B b))),.i .u64 (((nv B a+nv B b)/B^(max a.length b.length):Nat):Int)]):=
 (Am a b ha hb la lb).plain
end Go.Proofs.YtcgfgifjkkmmcaaGreatDoor
namespace Go.Proofs.YtcgfgifjkkmmcaaGreatDoor
open Go Go.RowKit Ab
def aC:=an @aH (an @Nat.div_one (an @Nat.mul_one (an @aO (an @eY @dF))))
theorem B2:2≤B:=dc
theorem B0:0<B:=dc
theorem su(a:List Nat)(ha:a.length≤1099511627776):ah Tryz.prog J0 103 [.l 1 (W a)] (.o 31 1 (W (tz a))):=by
 refine d_ aX bV Tryz.func103 ?_;have hl:=kZ a;refine aJ @aC ?_;try simp only[Sv,↓reduceIte,Nat.reduceEqDiff]
 refine ay (fun K hK=>?_);refine dM @aC ?_;refine pY @aC (mM a ha) ?_;refine dM (ai @eY (ai @Nat.div_one (ai @aH @aC))) ?_;refine hK _ ?_;clear hK K;by_cases h:((tz a).length:Int)=0
 ·try (refine hK _ ?_;clear hK K)
  refine aJ (ai @h @aC) ?_;have e:tz a=[]:=List.eq_nil_of_length_eq_zero om;exact jX (ai @e @aC)
 ·try (refine hK _ ?_;clear hK K)
  refine aJ (ai @h @aC) ?_;try simp only[Sv,↓reduceIte,Nat.reduceEqDiff]
  refine ay (fun K hK=>?_);refine dM @aC ?_;refine pY @aC (kF (tz a) om) ?_;refine dM (ai @eY (ai @Nat.div_one (ai @aH @aC))) ?_;refine hK _ ?_;clear hK K;try (refine hK _ ?_;clear hK K)
  refine aJ @aC ?_;exact jX @aC
theorem mO(a:List Nat)(ha:a.length≤1099511627776):ah Tryz.prog J0 68 [.l 1 (W a)] (.o 31 1 (W (tz a))):=by
 refine d_ aX bV Tryz.func68 ?_;refine aJ @aC ?_;try simp only[Sv,↓reduceIte,Nat.reduceEqDiff]
 refine ay (fun K hK=>?_);refine dM @aC ?_;refine pY @aC (su a ha) ?_;refine dM (ai @eY (ai @Nat.div_one (ai @aH @aC))) ?_;refine hK _ ?_;clear hK K;try (refine hK _ ?_;clear hK K)
 refine aJ @aC ?_;exact jX @aC
noncomputable def a107:AC:=gc Tryz.prog Tryz.f107
theorem Ap(a b:List Nat)(ha:Wd a)(hb:Wd b)(la:a.length≤1099511627776)(lb:b.length≤1099511627776):
 ah Tryz.prog J0 107 [.l 1 (W a),.l 1 (W b)] (.t [.l 1 (W (if nv B a<nv B b then[]else dg B (nv B a-nv B b))),.i .i64 ((if nv B a<nv B b then 2 else 0:Nat):Int)]):=by
 refine d_ aX bV Tryz.func107 ?_
 refine aJ @aC ?_
 try simp only[Sv,↓reduceIte,Nat.reduceEqDiff]
 refine ay (fun K hK=>?_)
 refine dM @aC ?_
 refine pY @aC (qF a b ha hb la lb) ?_
 refine dM @aC ?_
 refine hK _ ?_
 clear hK K
 by_cases h:nv B a<nv B b
 ·simp only[h,↓reduceIte];try (refine hK _ ?_;clear hK K)
  refine aJ @aC ?_;exact jX @aC
 ·have hw:(fl B (max a.length b.length) (nv B a+B^max a.length b.length-nv B b)).length≤1099511627776:=by rw[bg];omega
  simp only[h,↓reduceIte];try (refine hK _ ?_;clear hK K)
  refine aJ @aC ?_;try simp only[Sv,↓reduceIte,Nat.reduceEqDiff]
  refine ay (fun K hK=>?_);refine dM @aC ?_;refine pY @aC (su _ hw) ?_;refine dM @aC ?_;refine hK _ ?_;clear hK K;try (refine hK _ ?_;clear hK K)
  refine aJ @aC ?_;have e:tz (fl B (max a.length b.length) (nv B a+B^max a.length b.length-nv B b))=dg B (nv B a-nv B b):=by
   have h1:=bY ha;have h2:B^a.length≤B^max a.length b.length:=Nat.pow_le_pow_right B0 om;rw[←qM B2 (n:=max a.length b.length) (by omega:nv B a-nv B b<_)];congr 1;exact ed B0 (by rw[show nv B a+B^max a.length b.length-nv B b=(nv B a-nv B b)+B^max a.length b.length from om,Nat.add_mod_right])
  exact jX (ai @e @aC)
theorem F6(a b:List Nat)(ha:Wd a)(hb:Wd b)(la:a.length≤1099511627776)(lb:b.length≤1099511627776):
 ah Tryz.prog J0 81 [.l 1 (W a),.l 1 (W b)] (.i .i64 (sg (nv B a) (nv B b))):=by
 refine d_ aX bV Tryz.func81 ?_
 refine aJ @aC ?_
 try simp only[Sv,↓reduceIte,Nat.reduceEqDiff]
 refine ay (fun K hK=>?_)
 refine dM @aC ?_
 refine pY @aC (DX a b ha hb la lb) ?_
 refine dM @aC ?_
 refine hK _ ?_
 clear hK K
 try (refine hK _ ?_;clear hK K)
 refine aJ @aC ?_
 exact jX @aC
theorem kP(a b:List Nat)(ha:Wd a)(hb:Wd b)(la:a.length≤1099511627775)(lb:b.length≤1099511627775):
 ah Tryz.prog J0 70 [.l 1 (W a),.l 1 (W b)] (.o 31 1 (W (dg B (nv B a+nv B b)))):=by
 refine d_ aX bV Tryz.func70 ?_
 generalize hm:max a.length b.length=m
 have hw:(fl B m (nv B a+nv B b)).length=m:=bg _ _
 refine aJ @aC ?_
 try simp only[Sv,↓reduceIte,Nat.reduceEqDiff]
 refine ay (fun K hK=>?_)
 refine dM @aC ?_
 refine pY @aC (DY a b ha hb om om) ?_
 simp only[hm]
 refine dM @aC ?_
 refine hK _ ?_
 clear hK K
 try (refine hK _ ?_;clear hK K)
 refine aJ @aC ?_
 try simp only[Sv,↓reduceIte,Nat.reduceEqDiff]
 refine ay (fun K hK=>?_)
 refine dM @aC ?_
 refine pY @aC (kF (fl B m (nv B a+nv B b)) om) ?_
 refine dM (ai @xk @aC) ?_
 refine pY @aC (su (fl B m (nv B a+nv B b)++[(nv B a+nv B b)/B^m]) (by rw[List.length_append,hw];simp;omega)) ?_
 refine dM @aC ?_
 refine hK _ ?_
 clear hK K
 try (refine hK _ ?_;clear hK K)
 refine aJ @aC ?_
 have hlt:nv B a+nv B b<B^(m+1):=by
  have h1:=bY ha;have h2:=bY hb;have h3:B^a.length≤B^m:=Nat.pow_le_pow_right B0 om;have h4:B^b.length≤B^m:=Nat.pow_le_pow_right B0 om;have h5:B^m*2≤B^(m+1):=by rw[Nat.pow_succ];exact Nat.mul_le_mul_left _ B2
  omega
 have e:tz (fl B m (nv B a+nv B b)++[(nv B a+nv B b)/B^m])=dg B (nv B a+nv B b):=by
  rw[←qM B2 hlt,dO,Nat.mod_eq_of_lt ((Nat.div_lt_iff_lt_mul (Nat.pow_pos B0)).2 (by rw[Nat.mul_comm,←Nat.pow_succ];exact hlt))]
 exact jX (ai @e @aC)
noncomputable def a71:AC:=gc Tryz.prog Tryz.f71
theorem ND(a b:List Nat)(ha:Wd a)(hb:Wd b)(la:a.length≤1099511627776)(lb:b.length≤1099511627776):
 ah Tryz.prog J0 71 [.l 1 (W a),.l 1 (W b)] (.t [.l 1 (W (if nv B a<nv B b then dg B (nv B b-nv B a)else dg B (nv B a-nv B b))),.b (decide (nv B a<nv B b))]):=by
 refine d_ aX bV Tryz.func71 ?_
 refine aJ @aC ?_
 try simp only[Sv,↓reduceIte,Nat.reduceEqDiff]
 refine ay (fun K hK=>?_)
 refine dM @aC ?_
 refine pY @aC (Ap a b ha hb la lb) ?_
 by_cases h:nv B a<nv B b
 ·simp only[h,↓reduceIte];refine dM @aC ?_;refine hK _ ?_;clear hK K;try (refine hK _ ?_;clear hK K)
  refine aJ @aC ?_;try simp only[Sv,↓reduceIte,Nat.reduceEqDiff]
  refine ay (fun K hK=>?_);refine dM @aC ?_;refine pY @aC (Ap b a hb ha lb la) ?_;simp only[show¬nv B b<nv B a from om,↓reduceIte];refine dM @aC ?_;refine hK _ ?_;clear hK K;try (refine hK _ ?_;clear hK K)
  refine aJ @aC ?_;exact jX (ai @h @aC)
 ·simp only[h,↓reduceIte];refine dM @aC ?_;refine hK _ ?_;clear hK K;try (refine hK _ ?_;clear hK K)
  refine aJ @aC ?_;exact jX (ai @h @aC)
