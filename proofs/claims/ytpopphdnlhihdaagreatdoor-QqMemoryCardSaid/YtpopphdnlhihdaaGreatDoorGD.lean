import Derived.Test.YtpopphdnlhihdaaGreatDoorRows
import Derived.Laws.Externs
import Derived.Test.YtpopphdnlhihdaaGreatDoorGC
set_option linter.all false
set_option maxRecDepth 2000000
set_option maxHeartbeats 10000000
namespace Go.Proofs.YtpopphdnlhihdaaGreatDoor
def nv(b:Nat):List Nat→Nat
 |[]=>0
 |x::r=>x+b*nv b r
def tz:List Nat→List Nat
 |[]=>[]
 |x::r=>if x=0∧tz r=[]then[]else x::tz r
def fl(b:Nat):Nat→Nat→List Nat
 |0,_=>[]
 |n+1,v=>v%b::fl b n (v/b)
def dg(b v:Nat):List Nat:=tz (fl b v v)
def Lt(b:Nat)(l:List Nat):Prop:=∀x,x∈l→x<b
section
variable {b:Nat}
theorem Lt_nil:Lt b []:=fun x h=>by cases h
variable{x:Nat}{l:List Nat}
theorem Dy:Lt b (x::l)↔x<b∧Lt b l:=by simp[Lt]
theorem Lt_app{r:List Nat}:Lt b (l++r)↔Lt b l∧Lt b r:=by simp only[Lt,nC];exact⟨fun h=>⟨fun x a=>h x (.inl a),fun x a=>h x (.inr a)⟩,fun h x a=>a.elim (h.1 x) (h.2 x)⟩
theorem SH(h:Lt b l)(i:Nat):Lt b (l.take i):=fun x a=>h x (List.mem_of_mem_take a)
theorem FY(h:Lt b l)(i:Nat):Lt b (l.drop i):=fun x a=>h x (List.mem_of_mem_drop a)
theorem uA(h:Lt b l)(hb:0<b)(i:Nat):l.getD i 0<b:=by
 rw[dN];cases e:l[i]? with
 |none=>simpa using hb
 |some x=>exact h x (dP e)
theorem BP{n:Nat}(hb:0<b):Lt b (List.replicate n 0):=fun x a=>by rw[List.mem_replicate]at a;omega
theorem yC(h:Lt b l)(i x:Nat)(f:x<b):Lt b (l.set i x):=fun y c=>by
 rcases List.mem_or_eq_of_mem_set c with a|a
 ·exact h y a
 ·omega
theorem yM:nv b (x::l)=x+b*nv b l:=rfl
theorem Qa:nv b [x]=x:=by simp[nv]
theorem yF:∀(l r:List Nat),nv b (l++r)=nv b l+b^l.length*nv b r
 |[],r=>by simp[nv]
 |x::l,r=>by
  simp only[tZ,nv,yF l r,dX,dO];rw[fQ,tY,bV (b^l.length) b,fB]
theorem yB(n:Nat):nv b (List.replicate n 0)=0:=by
 induction n with
 |zero=>rfl
 |succ n a=>rw[nR,yM,a];simp
theorem eP:∀{l:List Nat},Lt b l→nv b l<b^l.length
 |[],_=>by simp[nv]
 |x::l,h=>by
  have c:=(Dy.1 h).1;have a:=eP (Dy.1 h).2;simp only[nv,dX,dO];have:b*(nv b l+1)≤b*b^l.length:=iZ _ a;rw[bV (b^l.length)];rw[fQ]at this;omega
theorem yN(l:List Nat)(i:Nat)(a:i≤l.length):nv b l=nv b (l.take i)+b^i*nv b (l.drop i):=by
 have h:=yF (b:=b) (l.take i) (l.drop i);rw[List.take_append_drop,jo,pR a]at h;exact h
theorem jd(l:List Nat)(i:Nat)(a:i<l.length):nv b (l.take (i+1))=nv b (l.take i)+b^i*l.getD i 0:=by
 rw[y7 a,yF,jo,pR (qC a),Qa,dN,bC a];rfl
theorem wZ(l:List Nat)(i:Nat)(a:i<l.length):nv b (l.drop i)=l.getD i 0+b*nv b (l.drop (i+1)):=by
 rw[Dc a,yM,dN,bC a];rfl
theorem az(l:List Nat)(i:Nat):nv b (l.take (i+1))=nv b (l.take i)+b^i*l.getD i 0:=by
 rcases dW i l.length with h|h
 ·exact jd l i h
 ·rw[jB om,jB h,dN,ng h];simp
theorem bH:∀(n v:Nat),(fl b n v).length=n
 |0,_=>rfl
 |n+1,v=>by simp[fl,bH n]
theorem oN(hb:0<b):∀(n v:Nat),Lt b (fl b n v)
 |0,_=>Lt_nil
 |n+1,v=>Dy.2 ⟨cu _ hb,oN hb n _⟩
theorem qj:∀(n v:Nat),nv b (fl b n v)=v%b^n
 |0,v=>by simp[fl,nv,Nat.mod_one]
 |n+1,v=>by rw[fl,yM,qj n,dO,bV (b^n),Nat.mod_mul]
theorem CY:∀{l:List Nat},Lt b l→fl b l.length (nv b l)=l
 |[],_=>rfl
 |x::l,h=>by
  have a:=(Dy.1 h).1;simp only[dX,fl,nv];rw[uy,bD a,oP _ _ (by omega:0<b),jQ a,eY,CY (Dy.1 h).2]
theorem fl_zero(n:Nat):fl b n 0=List.replicate n 0:=by
 induction n with
 |zero=>rfl
 |succ n a=>simp[fl,a,nR]
theorem X3(hb:0<b)(n v:Nat):fl b n (v%b^n)=fl b n v:=by
 have a:=CY (oN hb n v);rw[bH,qj]at a;exact a
theorem GL(n k v:Nat):fl b (n+k) v=fl b n v++fl b k (v/b^n):=by
 induction n generalizing v with
 |zero=>simp[fl]
 |succ n a=>
  rw[show n+1+k=(n+k)+1 from om];simp only[fl,tZ];rw[a,lZ,dO,bV b]
theorem iY(n v:Nat):fl b (n+1) v=fl b n v++[v/b^n%b]:=by rw[GL];rfl
theorem X4(n k v:Nat)(a:v<b^n):fl b (n+k) v=fl b n v++List.replicate k 0:=by rw[GL,jQ a,fl_zero]
theorem tz_rep(n:Nat):tz (List.replicate n 0)=[]:=by
 induction n with
 |zero=>rfl
 |succ n a=>rw[nR,tz,a];simp
theorem vZ:∀(l:List Nat) (n:Nat),tz (l++List.replicate n 0)=tz l
 |[],n=>tz_rep n
 |x::l,n=>by simp only[tZ,tz,vZ l n]
theorem xY:∀(l:List Nat),∃n,l=tz l++List.replicate n 0
 |[]=>⟨0,rfl⟩
 |x::l=>by
  obtain⟨n,h⟩:=xY l;simp only[tz];split
  ·rename_i a;refine⟨n+1,?_⟩;rw[a.2]at h;rw[nR,h,a.1];simp
  ·exact⟨n,by rw[tZ,←h]⟩
theorem r_(l:List Nat):(tz l).length≤l.length:=by
 obtain⟨n,h⟩:=xY l;have:=congrArg List.length h;simp at this;omega
theorem FX(l:List Nat):l.take (tz l).length=tz l:=by
 obtain⟨n,h⟩:=xY l;have:(tz l++List.replicate n 0).take (tz l).length=tz l:=sy;rw[←h]at this;exact this
theorem wX(l:List Nat):nv b (tz l)=nv b l:=by
 obtain⟨n,h⟩:=xY l;have:nv b (tz l++List.replicate n 0)=nv b (tz l):=by rw[yF,yB];simp
 rw[←h]at this;exact this.symm
theorem xJ(h:Lt b l):Lt b (tz l):=by rw[←FX];exact SH h _
theorem Jh(l:List Nat):tz (tz l)=tz l:=by
 obtain⟨n,h⟩:=xY l;have:tz (tz l++List.replicate n 0)=tz (tz l):=vZ _ _;rw[←h]at this;exact this.symm
theorem Ap(l:List Nat)(i:Nat)(a:i<l.length)(h0:l.getD i 0=0):tz (l.take (i+1))=tz (l.take i):=by
 rw[y7 a];have:l[i]=0:=by rw[dN,bC a]at h0;exact h0
 rw[this];exact vZ _ 1
theorem Kw:∀(l:List Nat) (x:Nat),x≠0→tz (l++[x])=l++[x]
 |[],x,h=>by simp[tz,h]
 |y::l,x,h=>by simp[tz,Kw l x h]
theorem OW(l:List Nat)(i:Nat)(a:i<l.length)(h0:l.getD i 0≠0):(tz (l.take (i+1))).length=i+1:=by
 rw[y7 a,Kw _ _ (by rw[dN,bC a]at h0;exact h0)];simp;omega
theorem EY(hb:2≤b)(h:Lt b l):tz l=dg b (nv b l):=by
 unfold dg;have key:∀n,nv b l<b^n→tz (fl b n (nv b l))=tz l:=fun n a=>by
  rcases Nat.le_total l.length n with c|c
  ·have:n=l.length+(n-l.length):=om;rw[this,X4 _ _ _ (eP h),CY h,vZ]
  ·have:l.length=n+(l.length-n):=om;have e:l=fl b n (nv b l)++List.replicate (l.length-n) 0:=by
    rw[←X4 _ _ _ a,←this,CY h]
   have:=vZ (fl b n (nv b l)) (l.length-n);rw[←e]at this;exact this.symm
 exact(key _ (eu Nat.lt_two_pow_self (Nat.pow_le_pow_left hb _))).symm
theorem uK(hb:0<b)(v:Nat):Lt b (dg b v):=xJ (oN hb _ _)
theorem qU(hb:2≤b)(v:Nat):nv b (dg b v)=v:=by
 unfold dg;rw[wX,qj,bD (eu Nat.lt_two_pow_self (Nat.pow_le_pow_left hb _))]
theorem BO(v:Nat):tz (dg b v)=dg b v:=Jh _
theorem xI(hb:2≤b){n v:Nat}(h:v<b^n):tz (fl b n v)=dg b v:=by
 rw[EY hb (oN om _ _),qj,bD h]
theorem uX:dg b 0=[]:=rfl
theorem dg_inj(hb:2≤b){v u:Nat}(h:dg b v=dg b u):v=u:=by rw[←qU hb v,h,qU hb]
theorem uz(hb:2≤b){v:Nat}:dg b v=[]↔v=0:=⟨fun h=>dg_inj hb (h.trans uX.symm),fun h=>by rw[h,uX]⟩
theorem BK(hb:2≤b){n v:Nat}(h:v<b^n):(dg b v).length≤n:=by rw[←xI hb h];exact bK (r_ _) (by rw[bH];exact aY _)
end
open Ab Go Go.RowKit
def J0:World→Prop:=fun _=>True
abbrev aT:=fC Tryz.prog J0
theorem a_:∀(w:World) (e:Nat→Prop) (w':World),J0 w→bT w e w'→J0 w':=fun _ _ _ _ _=>trivial
theorem aN:Tryz.prog.follows .mixedOrders=true:=by kernel_rfl
def W(a:List Nat):List V:=a.map fun x:Nat=> .i .u64 (x:Int)
def D(a:List Nat):List V:=a.map fun x:Nat=> .i .i64 (x:Int)
def B:Nat:=18446744073709551616
def Wd(a:List Nat):Prop:=Lt B a
theorem aQ(a:List Nat):(W a).length=a.length:=by simp[W]
theorem fK(a:List Nat):(D a).length=a.length:=by simp[D]
theorem dH(a:List Nat)(i:Nat)(h:i<a.length):(W a).getD i .un= .i .u64 (a.getD i 0:Nat):=by
 simp[W,dN,h]
theorem wW(a:List Nat)(i:Nat)(h:i<a.length):(D a).getD i .un= .i .i64 (a.getD i 0:Nat):=by
 simp[D,dN,h]
theorem mW(a:List Nat)(i:Nat):(W a).take i=W (a.take i):=by simp[W]
theorem yO(a:List Nat)(i:Nat):(W a).drop i=W (a.drop i):=by simp[W]
theorem V5(a:List Nat)(i:Nat):(D a).take i=D (a.take i):=by simp[D]
theorem Hf(a b:List Nat):W a++W b=W (a++b):=by simp[W]
theorem EC(a:List Nat)(x:Nat):W a++[V.i .u64 (x:Int)]=W (a++[x]):=by simp[W]
theorem di(a:List Nat):(W a).all V.cell=true:=by simp[W,V.cell]
theorem ny(a:List Nat)(i x:Nat):(W a).set i (.i .u64 (x:Int))=W (a.set i x):=by simp[W]
theorem fZ(a:List Nat):uh (W a)=false:=by
 induction a with
 |nil=>rfl
 |cons x r c=>simpa[W,uh,V.nf]using c
theorem mJ(a:List Nat):uh (D a)=false:=by
 induction a with
 |nil=>rfl
 |cons x r c=>simpa[D,uh,V.nf]using c
theorem dR:W []=[]:=rfl
theorem iL:D []=[]:=rfl
variable{a l:List Nat}{x r low kU vH u32 u1 q Y N Ky y:Nat}
theorem fV(h:Wd a)(i:Nat):a.getD i 0<18446744073709551616:=by
 rw[dN];cases e:a[i]? with
 |none=>simp
 |some x=>exact h x (dP e)
theorem u_(h:Wd a)(i:Nat):Wd (a.take i):=fun x c=>h x (List.mem_of_mem_take c)
theorem Wd_drop(h:Wd a)(i:Nat):Wd (a.drop i):=fun x c=>h x (List.mem_of_mem_drop c)
theorem X5{b:List Nat}(h:Wd a)(k:Wd b):Wd (a++b):=fun x c=>(nC.1 c).elim (h x) (k x)
theorem BZ:Wd []:=fun x a=>by cases a
theorem wi{n:Int}(h: -9223372036854775808≤n∧n<9223372036854775808):IntKind.i64.wrap n=n:=by
 rw[IntKind.wrap_i64];omega
theorem wu{n:Int}(h:0≤n∧n<18446744073709551616):IntKind.u64.wrap n=n:=by
 rw[IntKind.wrap_u64];omega
theorem c0:((0:Nat):Int)=0:=rfl
theorem c2:((2:Nat):Int)=2:=rfl
theorem c3:((3:Nat):Int)=3:=rfl
theorem c13:((13:Nat):Int)=13:=rfl
theorem c1:((1:Nat):Int)=1:=rfl
theorem Am(n:Nat):((n:Int)-1).toNat=n-1:=om
theorem aI(n:Nat):(n:Int).toNat=n:=rfl
def S1:=an S0 (an c0 (an c1 (an c2 (an c3 c13))))
def sub64Entry:Array Value→Sem Value:=fun args=>do
 let (x,y,b) ←Extern.MathBitsCarry.three "Sub64" args
 pure (Extern.MathBitsCarry.pair ((x+Extern.MathBitsCarry.m64-y-b)%Extern.MathBitsCarry.m64) (if x<y+b then 1 else 0))
theorem xh(x y:Nat):mG Tryz.prog 193 [.i .u64 (x:Int),.i .u64 (y:Int),.i .u64 0] (.t [.i .u64 (((x+y)%18446744073709551616:Nat):Int),.i .u64 (((x+y)/18446744073709551616:Nat):Int)]):=by
 intro w H C m hl g;match m,hl with
 |[a,b,c],_=>
  have A:=(g 0 a _ rfl rfl).dU;have z:=(g 1 b _ rfl rfl).dU;have u:=(g 2 c _ rfl rfl).dU;subst A z u;refine⟨_,by rw[run_callFunc_extern Tryz.func193 (e:=add64Entry) kf kf kf kf,run_add64 _ _ _ om om om om];rfl,.up (.t [.int .u64 _,.int .u64 _] _ rfl ?_)⟩;intro j v x f l;match j with
  |0=>cases f;cases l;simp only[Int.add_zero];exact .i _ _
  |1=>cases f;cases l;simp only[Int.add_zero];exact .i _ _
  |(k+2)=>cases f
theorem F9(x y:Nat)(E:y<18446744073709551616):mG Tryz.prog 191 [.i .u64 (x:Int),.i .u64 (y:Int),.i .u64 0] (.t [.i .u64 (((x+18446744073709551616-y)%18446744073709551616:Nat):Int),.i .u64 ((if x<y then 1 else 0:Nat):Int)]):=by
 intro w H C m hl g;match m,hl with
 |[a,b,c],_=>
  have A:=(g 0 a _ rfl rfl).dU;have z:=(g 1 b _ rfl rfl).dU;have u:=(g 2 c _ rfl rfl).dU;subst A z u;have run:(sub64Entry #[.int .u64 (x:Int),.int .u64 (y:Int),.int .u64 0]).run Tryz.prog w= .ok (Extern.MathBitsCarry.pair ((x+Extern.MathBitsCarry.m64-y-0)%Extern.MathBitsCarry.m64) (if x<y+0 then 1 else 0)) w:=rfl;refine⟨_,by rw[run_callFunc_extern Tryz.func191 (e:=sub64Entry) kf kf kf kf,run];rfl,.up (.t [.int .u64 _,.int .u64 _] _ rfl ?_)⟩;intro j v x f l;match j with
  |0=>cases f;cases l;exact .i _ _
  |1=>cases f;cases l;exact .i _ _
  |(k+2)=>cases f
section
variable {b:Nat}
theorem dD(hb:0<b)(h:Lt b l)(i:Nat):nv b (l.take i)<b^i:=by
 have a:=eP (SH h i);exact eu a (gX hb (by rw[jo];exact Nat.min_le_left _ _))
variable{P A Y x y:Nat}{l:List Nat}
theorem MF(g:0<P)(u:A<P)(m:Y<P)(l:x<b)(j:y<b):
 ((A+P*x+P*b-(Y+P*y))/P%b=(x+b-(y+if A<Y then 1 else 0))%b)∧((A+P*x+P*b-(Y+P*y))%P=(A+P-Y)%P)∧((A+P*x<Y+P*y)↔(x<y+if A<Y then 1 else 0)):=by
 have e:A+P*x+P*b-(Y+P*y)=(A+P-Y)+P*(x+b-y-1):=by
  have f:P*x+P*b=P*(x+b):=(fQ _ _ _).symm;have c:P*(x+b)=P*y+P*(x+b-y-1)+P:=by rw[←fQ,←Nat.mul_succ];congr 1;omega
  omega
 have lt:(A+P*x<Y+P*y)↔(x<y+if A<Y then 1 else 0):=by
  constructor
  ·intro h;rcases dW x y with f|f
   ·split<;>omega
   ·have:=iZ P f;rcases dW y x with c|c
    ·have a:P*(y+1)≤P*x:=iZ P c;rw[Nat.mul_succ]at a;omega
    ·have a:x=y:=om;subst a;rw[au om];omega
  ·intro h;rcases dW x y with f|f
   ·have a:P*(x+1)≤P*y:=iZ P f;rw[Nat.mul_succ]at a;omega
   ·by_cases c:A<Y
    ·rw[au c]at h;have a:x=y:=om;subst a;omega
    ·rw[ah c]at h;omega
 refine⟨?_,?_,lt⟩
 ·rw[e,oP _ _ g];by_cases c:A<Y
  ·rw[au c,jQ om];congr 1;omega
  ·rw[ah c];have:(A+P-Y)/P=1:=by
    have a:A+P-Y=(A-Y)+P*1:=om;rw[a,oP _ _ g,jQ om]
   rw[this];congr 1;omega
 ·rw[e,uy]
theorem zu(a:0<P)(hb:0<b):
 (A+P*x+(Y+P*y))/P%b=(x+y+(A+Y)/P)%b∧(A+P*x+(Y+P*y))%P=(A+Y)%P∧(A+P*x+(Y+P*y))/(P*b)=(x+y+(A+Y)/P)/b:=by
 have e:A+P*x+(Y+P*y)=(A+Y)+P*(x+y):=by rw[fQ];omega
 refine⟨?_,?_,?_⟩
 ·rw[e,oP _ _ a];congr 1;omega
 ·rw[e,uy]
 ·rw[e,←lZ,oP _ _ a];congr 1;omega
theorem jg(hb:0<b){n v u:Nat}(h:v%b^n=u%b^n):fl b n v=fl b n u:=by rw[←X3 hb,h,X3 hb]
theorem JZ{r:List Nat}(hb:0<b)(hl:Lt b l)(c:Lt b r)(i:Nat)(h:l.getD i 0<r.getD i 0):nv b (l.take (i+1))<nv b (r.take (i+1)):=by
 rw[az,az];have f:=dD hb hl i;have a:b^i*(l.getD i 0+1)≤b^i*r.getD i 0:=iZ _ h;rw[Nat.mul_succ]at a;omega
end
theorem yE{b:Nat}(hb:0<b)(h:Lt b l)(i:Nat):nv b l/b^i=nv b (l.drop i):=by
 rcases dW l.length i with a|a
 ·rw[List.drop_of_length_le om,jQ (eu (eP h) (gX hb om))];rfl
 ·rw[yN l i a,oP _ _ (bg hb),jQ (dD hb h i),eY]
theorem qP{b:Nat}(hb:0<b)(h:Lt b l)(i:Nat):l.getD i 0=nv b l/b^i%b:=by
 rw[yE hb h];rcases dW i l.length with a|a
 ·rw[wZ l i a,uy,bD (uA h hb i)]
 ·rw[List.drop_of_length_le a,dN,ng a];simp[nv]
theorem CX{b i v:Nat}(hb:2≤b)(h:i=0∨b^(i-1)≤v)(a:v<b^i):fl b i v=dg b v:=by
 rw[←xI hb a];rcases kz i with c|c
 ·subst c;rfl
 ·obtain⟨n,rfl⟩:∃n,i=n+1:=⟨i-1,om⟩;rw[iY,Kw];have f:b^n≤v:=by
   rcases h with h|h
   ·omega
   ·simpa using h
  rw[bD ((fP (bg om)).2 (by rw[bV,←dO];exact a))];have:=(rZ (bg (by omega:0<b))).2 (by rw[iV];exact f:1*b^n≤v);omega
theorem yz{b:Nat}(h:tz l=l)(hl:l≠[]):b^(l.length-1)≤nv b l:=by
 obtain⟨n,f⟩:∃n,l.length=n+1:=⟨l.length-1,by have:=yD.2 hl;omega⟩;have c:=jd (b:=b) l n om;rw[jB om]at c;have u:l.getD n 0≠0:=fun j=>by
  have a:=Ap l n om j;rw[jB om,h]at a;have m:=congrArg List.length a;have g:=r_ (l.take n);rw[jo]at g;omega
 rw[c,f];have:b^n*1≤b^n*l.getD n 0:=iZ _ om;simp at this ⊢;omega
theorem zt{B:Nat}{r:List Nat}(i:Nat)(h:∀j,i≤j→l.getD j 0=r.getD j 0):(nv B (l.take i)<nv B (r.take i)↔nv B l<nv B r)∧(nv B (l.take i)=nv B (r.take i)↔nv B l=nv B r):=by
 have key:∀k,∃t,nv B (l.take (i+k))=nv B (l.take i)+t∧nv B (r.take (i+k))=nv B (r.take i)+t:=fun k=>by
  induction k with
  |zero=>exact⟨0,rfl,rfl⟩
  |succ k f=>
   obtain⟨t,c,a⟩:=f;refine⟨t+B^(i+k)*l.getD (i+k) 0,?_,?_⟩
   ·rw[←tY i k 1,az,c,tY]
   ·rw[←tY i k 1,az,a,tY,h _ om]
 obtain⟨t,c,a⟩:=key (l.length+r.length);rw[jB om]at c;rw[jB om]at a;omega
theorem B64:B=2^64:=rfl
theorem ND(a b:Nat)(c:a<18446744073709551616)(hb:b<18446744073709551616):bits .or .u64 (a:Int) (b:Int)=((a|||b:Nat):Int):=by
 have h:a|||b<2^64:=Nat.or_lt_two_pow c hb
 have e:(BitVec.ofNat 64 a|||BitVec.ofNat 64 b).toNat=a|||b:=by rw[BitVec.toNat_or,BitVec.toNat_ofNat,BitVec.toNat_ofNat,bD c,bD hb]
 have k:bits .or .u64 (a:Int) (b:Int)=IntKind.u64.wrap (((BitVec.ofInt 64 (a:Int)|||BitVec.ofInt 64 (b:Int)).toNat:Nat):Int):=rfl;rw[k,BitVec.ofInt_natCast,BitVec.ofInt_natCast,e];exact wu ⟨om,om⟩
theorem X6(a b:Nat)(c:a<18446744073709551616)(hb:b<18446744073709551616):bits .and .u64 (a:Int) (b:Int)=((a&&&b:Nat):Int):=by
 have h:a&&&b<2^64:=cZ Nat.and_le_left c;have e:(BitVec.ofNat 64 a&&&BitVec.ofNat 64 b).toNat=a&&&b:=by rw[BitVec.toNat_and,BitVec.toNat_ofNat,BitVec.toNat_ofNat,bD c,bD hb]
 have k:bits .and .u64 (a:Int) (b:Int)=IntKind.u64.wrap (((BitVec.ofInt 64 (a:Int)&&&BitVec.ofInt 64 (b:Int)).toNat:Nat):Int):=rfl;rw[k,BitVec.ofInt_natCast,BitVec.ofInt_natCast,e];exact wu ⟨om,om⟩
theorem Jr(x r:Nat)(h:r≤64):IntKind.u64.wrap ((x:Int)*2^(min r IntKind.u64.bits))=((x*2^r%18446744073709551616:Nat):Int):=by
 rw[show min r IntKind.u64.bits=r from pR h,IntKind.wrap_u64];have:(x:Int)*2^r=((x*2^r:Nat):Int):=sy;rw[this];omega
theorem qV(x r:Nat)(h:r≤64):(x:Int).fdiv (2^(min r IntKind.u64.bits))=((x/2^r:Nat):Int):=by
 rw[show min r IntKind.u64.bits=r from pR h];have:(2:Int)^r=((2^r:Nat):Int):=sy;rw[this,yG _ (Int.natCast_nonneg _)];rfl
theorem Js(r:Nat):(64-(r:Int)).toNat=64-r:=om
theorem SI(n:Nat):(n:Int).tmod 64=((n%64:Nat):Int):=rfl
theorem SK(n:Nat):(n:Int).tdiv 64=((n/64:Nat):Int):=rfl
theorem Qb(a:r≤64)(hl:low<2^r):(x*2^r%18446744073709551616)|||low=x*2^r%18446744073709551616+low:=by
 have e:x*2^r%18446744073709551616=2^r*(x%2^(64-r)):=by
  rw[show 18446744073709551616=2^r*2^(64-r)from by rw[←dn,show r+(64-r)=64 from om],bV x,Nat.mul_mod_mul_left]
 rw[e,←Nat.two_pow_add_eq_or_of_lt hl]
theorem Kz(a:r≤64)(hl:low<2^r):low|||(x*2^r%18446744073709551616)=low+x*2^r%18446744073709551616:=by
 rw[Nat.or_comm,Qb a hl,Nat.add_comm]
theorem X7{V P:Nat}(c:0<P)(g:V<P)(u:x<B)(y:r≤64):
 ((V+P*x)*2^r)/P%B=x*2^r%18446744073709551616+V*2^r/P∧((V+P*x)*2^r)/(P*B)=x/2^(64-r)∧((V+P*x)*2^r)%P=(V*2^r)%P∧V*2^r/P<2^r:=by
 have hl:V*2^r/P<2^r:=(fP c).2 (by rw[bV];exact Nat.mul_lt_mul_of_pos_left g (bg dc))
 have e:(V+P*x)*2^r=V*2^r+P*(x*2^r):=by rw[kQ,fB]
 have f:B=2^(64-r)*2^r:=by rw[←dn,show 64-r+r=64 from om];rfl
 have em:x*2^r%18446744073709551616=2^r*(x%2^(64-r)):=by
  rw[show 18446744073709551616=2^r*2^(64-r)from by rw[←dn,show r+(64-r)=64 from om],bV x,Nat.mul_mod_mul_left]
 have e1:(V+P*x)*2^r/P=V*2^r/P+x*2^r:=by rw[e,oP _ _ c]
 have hq:x*2^r/B=x/2^(64-r):=by rw[f,Nat.mul_div_mul_right _ _ (bg dc)]
 have hsum:V*2^r/P+x*2^r=(x*2^r%B+V*2^r/P)+B*(x*2^r/B):=by have:=Nat.mod_add_div (x*2^r) B;omega
 have a:x*2^r%B+V*2^r/P<B:=by
  have m:x%2^(64-r)<2^(64-r):=cu _ (bg dc);have l:2^r*(x%2^(64-r)+1)≤2^r*2^(64-r):=iZ _ m;rw[show x*2^r%B=2^r*(x%2^(64-r))from em];rw[fQ,aO,bV (2^r) (2^(64-r)),←f]at l;omega
 have j:0<B:=dc
 refine⟨?_,?_,?_,hl⟩
 ·rw[e1,hsum,uy,bD a];rfl
 ·rw[←lZ,e1,hsum,oP _ _ j,jQ a,eY,hq]
 ·rw[e,uy]
theorem Hg{X:Nat}(h0:0<r)(z:r<64):X/2^r%B=X%B/2^r+(X/B%B)*2^(64-r)%18446744073709551616∧X%B/2^r<2^(64-r):=by
 have a:B=2^r*2^(64-r):=by rw[←dn,show r+(64-r)=64 from om];rfl
 have c:X%B/2^r<2^(64-r):=(fP (bg dc)).2 (by rw[bV,←a];exact cu _ dc);refine⟨?_,c⟩;have e1:X/2^r=X%B/2^r+2^(64-r)*(X/B):=by
  have A:=Nat.mod_add_div X B;have u:X=X%B+2^r*(2^(64-r)*(X/B)):=by rw[←fB,←a];omega
  calc X/2^r=(X%B+2^r*(2^(64-r)*(X/B)))/2^r:=by rw[←u]
   _=_:=oP _ _ (bg dc)
 have em:∀y,y*2^(64-r)%B=2^(64-r)*(y%2^r):=fun y=>by rw[a,bV y,bV (2^r),Nat.mul_mod_mul_left]
 have g:X/B%B*2^(64-r)%18446744073709551616=2^(64-r)*(X/B%2^r):=by
  rw[show(18446744073709551616:Nat)=B from rfl,em,a,Nat.mod_mul_right_mod]
 have f:2^(64-r)*(X/B)%B=2^(64-r)*(X/B%2^r):=by rw[bV,em]
 rw[g,e1];have m:X%B/2^r+2^(64-r)*(X/B%2^r)<B:=by
  have l:X/B%2^r<2^r:=cu _ (bg dc);have j:2^(64-r)*(X/B%2^r+1)≤2^(64-r)*2^r:=iZ _ l;rw[fQ,aO,bV _ (2^r),←a]at j;omega
 rw[Nat.add_mod,f,bD (show X%B/2^r<B from om),bD m]
def qg(a:List Nat)(n:Nat):List Nat:=List.replicate (n/64) 0++(if n%64=0 then a else fl B (a.length+1) (nv B a*2^(n%64)))
theorem Hl(a:List Nat)(n:Nat):(qg a n).length≤n/64+a.length+1:=by
 unfold qg;rw[bZ,nS];split
 ·omega
 ·rw[bH];omega
theorem Jt(c:Wd a)(n:Nat):Wd (qg a n):=by
 unfold qg;refine Lt_app.2 ⟨BP dc,?_⟩;split
 ·exact c
 ·exact oN dc _ _
theorem Ju(c:Wd a)(n:Nat):nv B (qg a n)=nv B a*2^n:=by
 have e:(2:Nat)^n=B^(n/64)*2^(n%64):=by rw[B64,←Nat.pow_mul,←dn,qo]
 unfold qg;rw[yF,yB,eY,nS,e];split
 ·rename_i h;rw[h,Nat.pow_zero,aO,bV]
 ·rw[qj,bD,Nat.mul_left_comm];have g:=eP c;have f:2^(n%64)≤B:=by rw[B64];exact gX dc om
  rw[dO];exact eu (Nat.mul_lt_mul_of_pos_right g (bg dc)) (iZ _ f)
theorem ED(n:Nat):(2:Nat)^n=B^(n/64)*2^(n%64):=by rw[B64,←Nat.pow_mul,←dn,qo]
theorem U_{A n i:Nat}:A/2^n/B^i%B=A/B^(n/64+i)/2^(n%64)%B:=by
 rw[ED,lZ,lZ,dn];congr 2;rw[Nat.mul_right_comm]
def bl(x:Nat):Nat:=if x=0 then 0 else x.log2+1
theorem zJ(x:Nat):x<2^bl x:=by
 unfold bl;split
 ·omega
 ·exact Nat.lt_log2_self
theorem Dz(h:x≠0):2^(bl x-1)≤x∧1≤bl x:=by
 unfold bl;rw[ah h];exact⟨Nat.log2_self_le h,om⟩
theorem KA{k:Nat}(h1:2^k≤x)(h2:x<2^(k+1)):bl x=k+1:=by
 have a:x≠0:=by have:=t_ k;omega
 obtain⟨g,f⟩:=Dz a;have c:=zJ x;rcases Nat.lt_trichotomy (bl x) (k+1)with h|h|h
 ·have:=gX (show 0<2 by decide) (show bl x≤k by omega);omega
 ·exact h
 ·have:=gX (show 0<2 by decide) (show k+1≤bl x-1 by omega);omega
theorem Hm{n:Nat}(h:2^n≤x):bl x=n+bl (x/2^n):=by
 have a:=t_ n;have hq:x/2^n≠0:=by have:=(rZ a).2 (by simpa using h:1*2^n≤x);omega
 obtain⟨f,j⟩:=Dz hq;have c:=zJ (x/2^n);obtain⟨k,g⟩:∃k,bl (x/2^n)=k+1:=⟨bl (x/2^n)-1,om⟩;rw[g]at f c ⊢;rw[←tY];refine KA ?_ ?_
 ·rw[Nat.add_comm,dn];exact(rZ a).1 f
 ·rw[show n+k+1=(k+1)+n from om,dn];exact(fP a).1 c
theorem y9(h:x<18446744073709551616):bl x≤64:=by
 by_cases c:x=0
 ·subst c;decide
 ·obtain⟨g,f⟩:=Dz c;rcases dW 64 (bl x)with a|a
  ·have:=gX (show 0<2 by decide) (show 64≤bl x-1 by omega);omega
  ·exact a
theorem X8(h:x≠0):0<bl x:=(Dz h).2
theorem X9(h:q*kU+r=u32)(h2:q*vH≤4294967296*r+u1):q*(kU*4294967296+vH)≤u32*4294967296+u1:=by
 have e:q*(kU*4294967296+vH)=q*kU*4294967296+q*vH:=by rw[fQ,fB]
 rw[e];generalize q*kU=a at *;generalize q*vH=c at *;omega
theorem X_(h:q*kU+r=u32)(h2:4294967296*r+u1<q*vH):u32*4294967296+u1<q*(kU*4294967296+vH):=by
 have e:q*(kU*4294967296+vH)=q*kU*4294967296+q*vH:=by rw[fQ,fB]
 rw[e];generalize q*kU=a at *;generalize q*vH=c at *;omega
theorem F_(a:u32<Y)(h1:u1<4294967296)(hq:4294967296≤q):u32*4294967296+u1<q*Y:=by
 have:=tX hq (show u32+1≤Y from a);omega
theorem Ya(f:2147483648≤kU)(h0:vH<4294967296)(g:u32<kU*4294967296+vH)(h1:u1<4294967296):
 u32/kU*kU+u32%kU=u32∧u32*4294967296+u1<(u32/kU+1)*(kU*4294967296+vH)∧u32/kU≤4294967297:=by
 have e:=qo u32 kU
 have j:=cu u32 (show 0<kU by omega)
 rw[bV]at e
 refine⟨e,?_,?_⟩
 ·have h:(u32/kU+1)*(kU*4294967296+vH)=(u32/kU*kU+kU)*4294967296+(u32/kU+1)*vH:=by rw[fQ,←fB,kQ _ 1 kU,iV]
  rw[h];generalize u32/kU*kU=a at*
  generalize (u32/kU+1)*vH=c at*
  omega
 ·have:u32/kU<4294967298:=(fP om).2 om;omega
theorem pK(h1:q*Y≤N)(h2:N<(q+1)*Y):q=N/Y:=by
 have a:0<Y:=by
  rcases kz Y with h|h
  ·subst h;simp at h2
  ·exact h
 exact(Nat.div_eq_of_lt_le h1 h2).symm
theorem Yb(a:0<Y)(e:Y*q+r=N):(N*4294967296+Ky)/Y=q*4294967296+(r*4294967296+Ky)/Y∧(N*4294967296+Ky)%Y=(r*4294967296+Ky)%Y:=by
 have h:N*4294967296+Ky=(r*4294967296+Ky)+Y*(q*4294967296):=by
  rw[←e,←fB];omega
 rw[h,oP _ _ a,uy,Nat.add_comm];exact⟨rfl,rfl⟩
theorem ve(a:0<Y):(N*4294967296+Ky)/Y=N/Y*4294967296+(N%Y*4294967296+Ky)/Y∧(N*4294967296+Ky)%Y=(N%Y*4294967296+Ky)%Y:=
 Yb a (qo N Y)
theorem Va(h0:y≠0)(a:y<18446744073709551616):9223372036854775808≤y*2^(64-bl y)∧y*2^(64-bl y)<18446744073709551616:=by
 obtain⟨f,j⟩:=Dz h0;have c:=zJ y;have g:=y9 a;constructor
 ·have:=kF (2^(64-bl y)) f;rw[←dn,show bl y-1+(64-bl y)=63 from om]at this;exact this
 ·have:=(Nat.mul_lt_mul_right (t_ (64-bl y))).2 c;rw[←dn,show bl y+(64-bl y)=64 from om]at this;exact this
theorem Vb{lo s:Nat}(c:s≤64):lo*2^s=lo/2^(64-s)*18446744073709551616+lo*2^s%18446744073709551616:=by
 have e:(18446744073709551616:Nat)=2^s*2^(64-s):=by rw[←dn,show s+(64-s)=64 from om]
 have h:=qo (lo*2^s) 18446744073709551616;have a:lo*2^s/18446744073709551616=lo/2^(64-s):=by rw[e,bV lo,Nat.mul_div_mul_left _ _ (t_ s)]
 rw[a]at h;omega
theorem shr_lt{lo s:Nat}(a:s≤64)(hl:lo<18446744073709551616):lo/2^(64-s)<2^s:=by
 refine(fP (t_ _)).2 ?_;rw[←dn,show s+(64-s)=64 from om];exact hl
theorem EE{U s:Nat}:U*2^s/(y*2^s)=U/y∧U*2^s%(y*2^s)/2^s=U%y:=by
 refine⟨Nat.mul_div_mul_right _ _ (t_ s),?_⟩;rw[Nat.mul_mod_mul_right,Nat.mul_div_cancel _ (t_ s)]
theorem sW(a:List Nat)(f:a.length≤1099511627776):aT 163 [.l 1 (W a)] (.o 49 1 (W a)):=by
 refine f_ aN a_ Tryz.func163 ?_;rw[XD];try simp only[Sv,↓reduceIte,Nat.reduceEqDiff]
 refine ay (fun K hK=>?_);refine iw trivial ?_;refine hK _ ?_;clear hK K;simp only[Sv];try simp only[Sv,↓reduceIte,Nat.reduceEqDiff]
 refine ay (fun K hK=>?_);refine iw trivial ?_;refine isp_mk fun t ht=>?_
 refine iw trivial ?_;refine hK _ ?_;clear hK K;simp only[Sv,↓reduceIte];refine vmc_mk (fun c=>?_) (fun c=>?_)
 ·try (refine hK _ ?_;clear hK K)
  refine aX trivial ?_;simp only[bne_eq_false_iff_eq,ne_eq,ku,Bool.not_eq_false]at c;have:=ht c;exact rP @this
 ·try (refine hK _ ?_;clear hK K)
  refine aX (ai @C9<|ai @di<|ai @aW @aQ) ?_;exact rP trivial
theorem xZ(a:List Nat)(y:a.length≤1099511627776):aT 155 [.l 1 (W a)] (.i .i64 ((tz a).length:Int)):=by
 refine f_ aN a_ Tryz.func155 ?_;refine aX (ai @aW @aQ) ?_;refine Dx Nat (fun n=>⟨[(0,.l 1 (W a)),(3,.i .i64 (n:Int))],[],0⟩) (fun n=>n≤a.length∧tz a=tz (a.take n)) (fun n=>n) a.length [] ⟨om,by rw[iH]⟩ (by
  simp(disch:=(first|omega|assumption)) only[Sl,Sa,Sw,↓reduceIte,Nat.reduceEqDiff,Nat.reduceLT,jH,iI,Nat.reduceBneDiff,Nat.reduceAdd,ku,ne_eq,reduceCtorEq,kP,mZ,jf,jP,bW,bY,and_self]
  ) ?_
 intro n ⟨u,ht⟩ z g f j;by_cases h0:0<(n:Int)
 ·by_cases c:((a.getD (n-1) 0:Nat):Int)=0
  ·refine aX (ai @aO<|ai @Am<|ai @wi<|ai @dH<|ai @aQ<|ai @c @h0) ?_;refine g _ (n-1) [] ⟨om,?_⟩ om ?_
   ·obtain⟨m,rfl⟩:∃m,n=m+1:=⟨n-1,om⟩;rw[ht];exact Ap a m om (by simpa using c)
   ·refine tV trivial ?_;omega
  ·refine aX (ai @aO<|ai @Am<|ai @wi<|ai @dH<|ai @aQ<|ai @c @h0) ?_;refine f _ _ ?_;refine aX trivial ?_;refine BL @m_ ?_;obtain⟨m,rfl⟩:∃m,n=m+1:=⟨n-1,om⟩;rw[ht,OW a m om (by simpa using c)]
 ·refine aX @h0 ?_;refine f _ _ ?_;refine aX trivial ?_;refine BL @m_ ?_;obtain rfl:n=0:=om;rw[ht];rfl
theorem vI(a:List Nat)(c:a.length≤1099511627776):aT 152 [.l 1 (W a)] (.o 49 1 (W (tz a))):=by
 refine f_ aN a_ Tryz.func152 ?_;have hl:=r_ a;refine aX trivial ?_;try simp only[Sv,↓reduceIte,Nat.reduceEqDiff]
 refine ay (fun K hK=>?_);refine iw trivial ?_;refine yw trivial (xZ a c) ?_;refine iw (ai @FX<|ai @mW<|ai @aI<|ai @aO @aQ) ?_;refine yw trivial (sW (tz a) om) ?_;refine iw (ai @aW @aQ) ?_;refine hK _ ?_;clear hK K;try (refine hK _ ?_;clear hK K)
 refine aX trivial ?_;exact rP trivial
theorem pM(a:List Nat)(i:Nat):aT 174 [.l 1 (W a),.i .i64 i] (.i .u64 ((a.getD i 0:Nat):Int)):=by
 refine f_ aN a_ Tryz.func174 ?_;by_cases h:(i:Int)<a.length
 ·refine aX (ai @aI<|ai @aO<|ai @aW<|ai @dH<|ai @aQ @h) ?_;exact rP trivial
 ·refine aX (ai @aI<|ai @aO<|ai @aW<|ai @dH<|ai @aQ @h) ?_;refine BL @m_ ?_;rw[dN,ng om];rfl
theorem x_(x y c:Nat)(f:x<18446744073709551616)(a:y<18446744073709551616)(g:c<18446744073709551616):
 aT 180 [.i .u64 x,.i .u64 y,.i .u64 c] (.t [.i .u64 (((x+y+c)%18446744073709551616:Nat):Int),.i .u64 (((x+y+c)/18446744073709551616:Nat):Int)]):=by
 refine f_ aN a_ Tryz.func180 ?_
 refine aX trivial ?_
 try simp only[Sv,↓reduceIte,Nat.reduceEqDiff]
 refine ay (fun K hK=>?_)
 refine iw trivial ?_
 refine uG _ (xh x y) ?_
 refine iw trivial ?_
 refine hK _ ?_
 clear hK K
 try (refine hK _ ?_;clear hK K)
 refine aX trivial ?_
 try simp only[Sv,↓reduceIte,Nat.reduceEqDiff]
 refine ay (fun K hK=>?_)
 refine iw trivial ?_
 refine uG _ (xh ((x+y)%18446744073709551616) c) ?_
 refine iw trivial ?_
 refine hK _ ?_
 clear hK K
 try (refine hK _ ?_;clear hK K)
 refine aX @wu ?_
 refine BL @m_ ?_
 omega
theorem Jv(x y c:Nat)(f:x<18446744073709551616)(a:y<18446744073709551616)(g:c≤1):
 aT 194 [.i .u64 x,.i .u64 y,.i .u64 c] (.t [.i .u64 (((x+18446744073709551616-(y+c))%18446744073709551616:Nat):Int),.i .u64 ((if x<y+c then 1 else 0:Nat):Int)]):=by
 refine f_ aN a_ Tryz.func194 ?_
 refine aX trivial ?_
 try simp only[Sv,↓reduceIte,Nat.reduceEqDiff]
 refine ay (fun K hK=>?_)
 refine iw trivial ?_
 refine uG _ (F9 x y a) ?_
 refine iw trivial ?_
 refine hK _ ?_
 clear hK K
 try (refine hK _ ?_;clear hK K)
 refine aX trivial ?_
 try simp only[Sv,↓reduceIte,Nat.reduceEqDiff]
 refine ay (fun K hK=>?_)
 refine iw trivial ?_
 refine uG _ (F9 ((x+18446744073709551616-y)%18446744073709551616) c om) ?_
 refine iw trivial ?_
 refine hK _ ?_
 clear hK K
 try (refine hK _ ?_;clear hK K)
 refine aX trivial ?_
 refine BL @m_ ?_
 constructor
 ·omega
 ·rw[wu (by split<;>split<;>omega)];split<;>split<;>split<;>omega
theorem EF(n:Nat):(List.replicate n [V.i .u64 0]).flatten=W (List.replicate n 0):=by
 induction n with
 |zero=>rfl
 |succ n a=>rw[nR,xx,a,nR];rfl
theorem mx(a b:Nat):max (a:Int) (b:Int)=((max a b:Nat):Int):=om
theorem NF{b:List Nat}(h:a=b):W a=W b:=by rw[h]
theorem rep_len(n x:Nat):(List.replicate n x).length=n:=sy
theorem yP(a b:List Nat)(g:Wd a)(hb:Wd b)(H:a.length≤1099511627776)(G:b.length≤1099511627776):
 aT 181 [.l 1 (W a),.l 1 (W b)] (.t [.l 1 (W (fl B (max a.length b.length) (nv B a+B^(max a.length b.length)-nv B b))),.i .u64 ((if nv B a<nv B b then 1 else 0:Nat):Int)]):=by
 refine f_ aN a_ Tryz.func181 ?_
 generalize A:max a.length b.length=m
 have z:m≤1099511627776:=om
 refine aX (ai @aI<|ai @EF<|ai @A<|ai @mx<|ai @aW @aQ) ?_
 refine Dx Nat (fun i=>⟨[(0,.l 1 (W a)),(1,.l 1 (W b)),(6,.ow 1 0 m),(7,.i .u64 ((if nv B (a.take i)<nv B (b.take i)then 1 else 0:Nat):Int)),(16,.i .i64 (m:Int)),(17,.i .i64 (i:Int))],
  [(0,some ⟨49,1,W (fl B i (nv B (a.take i)+B^i-nv B (b.take i))++List.replicate (m-i) 0),true,false⟩)],1⟩)
  (fun i=>i≤m) (fun i=>m-i) 0 [(0,7)] (aG _) (by
  simp(disch:=(first|omega|assumption)) only[Sl,Sa,Sw,↓reduceIte,Nat.reduceEqDiff,Nat.reduceLT,jH,iI,Nat.reduceBneDiff,Nat.reduceAdd,ku,ne_eq,reduceCtorEq,kP,mZ,jf,jP,bW,bY,and_self]
  exact⟨⟨by simp[nv],rfl⟩,NF (by simp[fl])⟩) ?_
 intro i J L F E I
 by_cases h:(i:Int)<m
 ·have lf:(fl B i (nv B (a.take i)+B^i-nv B (b.take i))).length=i:=bH _ _;generalize j:(if nv B (a.take i)<nv B (b.take i)then 1 else 0:Nat)=c;have f:c≤1:=by rw[←j];split<;>omega
  generalize hl:fl B i (nv B (a.take i)+B^i-nv B (b.take i))=l at lf;refine aX @h ?_;try simp only[Sv,↓reduceIte,Nat.reduceEqDiff]
  refine ay (fun K hK=>?_);refine iw trivial ?_;refine yw trivial (pM a i) ?_;refine iw trivial ?_;refine yw trivial (pM b i) ?_;refine iw trivial ?_;refine yw trivial (Jv (a.getD i 0) (b.getD i 0) c (fV g i) (fV hb i) f) ?_;have y:(l++List.replicate (m-i) 0).length=m:=by rw[bZ,lf,rep_len];omega
  refine iw (ai @y<|ai @ny<|ai @aO<|ai @aI @aQ) ?_;refine hK _ ?_;clear hK K;try (refine hK _ ?_;clear hK K)
  refine aX @wi ?_;refine F _ (i+1) [] om om ?_;have st:=MF (b:=B) (P:=B^i) (bg dc) (dD (b:=B) dc g i) (dD (b:=B) dc hb i) (show a.getD i 0<B from fV g i) (show b.getD i 0<B from fV hb i);rw[j]at st;obtain⟨s1,s2,u⟩:=st;refine tV trivial ?_;refine⟨⟨?_,om⟩,NF ?_⟩
  ·rw[az,az];simp only[u]
  ·have e:nv B (a.take (i+1))+B^(i+1)-nv B (b.take (i+1))=nv B (a.take i)+B^i*a.getD i 0+B^i*B-(nv B (b.take i)+B^i*b.getD i 0):=by rw[az,az,dO]
   rw[e,iY,jg dc s2,hl,s1];obtain⟨k,C⟩:∃k,m-i=k+1:=⟨m-i-1,om⟩;rw[C,nR,show m-(i+1)=k from om,nZ _ _ om,lf,gW,List.set_cons_zero,nY];rfl
 ·obtain rfl:i=m:=om;try (refine hK _ ?_;clear hK K)
  refine aX @h ?_;refine E _ _ ?_;try (refine hK _ ?_;clear hK K)
  refine aX trivial ?_;refine BL @U2 ?_;rw[jB om,jB om];simp
def sg(x y:Nat):Int:=if x<y then-1 else if x=y then 0 else 1
theorem KC(a b:List Nat)(y:Wd a)(hb:Wd b)(H:a.length≤1099511627776)(G:b.length≤1099511627776):
 aT 154 [.l 1 (W a),.l 1 (W b)] (.i .i64 (sg (nv B a) (nv B b))):=by
 refine f_ aN a_ Tryz.func154 ?_
 generalize A:max a.length b.length=m
 refine aX (ai @wi<|ai @A<|ai @mx<|ai @aW @aQ) ?_
 refine Dx Nat (fun i=>⟨[(0,.l 1 (W a)),(1,.l 1 (W b)),(6,.i .i64 ((i:Int)-1))],[],0⟩)
  (fun i=>i≤m∧∀j,i≤j→a.getD j 0=b.getD j 0) (fun i=>i) m [] ⟨aY _,fun j c=>by rw[dN,dN,ng om,ng om]⟩ (by exact oL) ?_
 intro i ⟨I,c⟩ L E C u
 by_cases h:(0:Int)≤(i:Int)-1
 ·obtain⟨n,rfl⟩:∃n,i=n+1:=⟨i-1,om⟩;have e:((n+1:Nat):Int)-1=(n:Int):=om;have h:(0:Int)≤(n:Int):=om;simp only[e];refine aX @h ?_;try simp only[Sv,↓reduceIte,Nat.reduceEqDiff]
  refine ay (fun K hK=>?_);refine iw trivial ?_;refine yw trivial (pM a n) ?_;refine iw trivial ?_;refine yw trivial (pM b n) ?_;refine iw trivial ?_;refine hK _ ?_;clear hK K;by_cases h1:((a.getD n 0:Nat):Int)=((b.getD n 0:Nat):Int)
  ·have f:∀j,n≤j→a.getD j 0=b.getD j 0:=fun j J=>by
    rcases dW n j with z|z
    ·exact c j z
    ·obtain rfl:j=n:=om;omega
   simp only[h1];try (refine hK _ ?_;clear hK K)
   refine aX @wi ?_;exact E _ n [] ⟨om,f⟩ om (by exact oL)
  ·have c1:=(zt (B:=B) (n+1) c).1;have c2:=(zt (B:=B) (n+1) c).2;by_cases h2:((a.getD n 0:Nat):Int)<((b.getD n 0:Nat):Int)
   ·try (refine hK _ ?_;clear hK K)
    refine aX (ai @h2 @h1) ?_;refine u _ ?_;have c3:=JZ (b:=B) dc y hb n om;have g:nv B a<nv B b:=c1.1 c3;refine BL @m_ ?_;simp[sg,g]
   ·try (refine hK _ ?_;clear hK K)
    refine aX (ai @h2 @h1) ?_;refine u _ ?_;have c3:=JZ (b:=B) dc hb y n om;have g:¬nv B a<nv B b:=fun h=>by have:=c1.2 h;omega
    have F:¬nv B a=nv B b:=fun h=>by have:=c2.2 h;omega
    refine BL @m_ ?_;simp[sg,g,F]
 ·obtain rfl:i=0:=om;try (refine hK _ ?_;clear hK K)
  refine aX @h ?_;refine C _ _ ?_;try (refine hK _ ?_;clear hK K)
  refine aX trivial ?_;have c2:=(zt (B:=B) 0 c).2.1 rfl;refine BL @m_ ?_;simp[sg,c2]
theorem Yc{b:List Nat}{i:Nat}(j:Wd a)(l:b.length≤i)(f:i≤a.length)(m:(nv B (a.take i)+nv B (b.take i))/B^i=0):
 fl B i (nv B (a.take i)+nv B (b.take i))++a.drop i=fl B a.length (nv B a+nv B b)∧(nv B a+nv B b)/B^a.length=0:=by
 rw[jB l]at m ⊢
 have u:nv B (a.take i)+nv B b<B^i:=by
  rcases dW (nv B (a.take i)+nv B b) (B^i)with h|h
  ·exact h
  ·have:=(rZ (bg (by decide:0<B))).2 (by simpa using h:1*B^i≤_);omega
 have y:=yN (b:=B) a i f
 have g:=eP (FY j i)
 rw[uM]at g
 have e:nv B a+nv B b=(nv B (a.take i)+nv B b)+B^i*nv B (a.drop i):=om
 have hl:a.length=i+(a.length-i):=om
 have c:nv B a+nv B b<B^a.length:=by
  rw[e,hl,dn];have:=iZ (B^i) g;rw[Nat.mul_succ]at this;omega
 refine⟨?_,jQ c⟩
 rw[hl,GL,e,oP _ _ (bg dc),jQ u,eY]
 congr 1
 ·exact jg dc (by rw[uy])
 ·have:=CY (FY j i);rw[uM]at this;exact this.symm
theorem B_(a b:List Nat)(u:Wd a)(hb:Wd b)(M:a.length≤1099511627776)(L:b.length≤1099511627776):
 aT 165 [.l 1 (W a),.l 1 (W b)] (.fr (.t [.l 1 (W (fl B (max a.length b.length) (nv B a+nv B b))),.i .u64 (((nv B a+nv B b)/B^(max a.length b.length):Nat):Int)])):=by
 refine f_ aN a_ Tryz.func165 ?_
 by_cases hab:(a.length:Int)<b.length
 ·refine aX (ai @hab<|ai @aW @aQ) ?_;try simp only[Sv,↓reduceIte,Nat.reduceEqDiff]
  refine ay (fun K hK=>?_);refine iw trivial ?_;refine yw trivial (sW b om) ?_;refine iw (ai @fZ<|ai @aW @aQ) ?_;refine hK _ ?_;clear hK K;try (refine hK _ ?_;clear hK K)
  refine aX (ai @aW @aQ) ?_;refine Dx Nat (fun i=>⟨[(0,.l 1 (W b)),(1,.l 1 (W a)),(6,.ow 1 0 b.length),(7,.i .u64 (((nv B (b.take i)+nv B (a.take i))/B^i:Nat):Int)),(19,.i .i64 (b.length:Int)),(20,.i .i64 (i:Int))],
   [(0,some ⟨49,1,W (fl B i (nv B (b.take i)+nv B (a.take i))++b.drop i),true,false⟩)],1⟩)
   (fun i=>i≤b.length) (fun i=>b.length-i) 0 [(0,12)] (aG _) (by
   simp(disch:=(first|omega|assumption)) only[Sl,Sa,Sw,↓reduceIte,Nat.reduceEqDiff,Nat.reduceLT,jH,iI,Nat.reduceBneDiff,Nat.reduceAdd,ku,ne_eq,reduceCtorEq,kP,mZ,jf,jP,bW,bY,and_self]
   exact⟨⟨by simp[nv],rfl⟩,NF (by simp[fl])⟩) ?_
  intro i G J E C I;have em:max a.length b.length=b.length:=om;have F:nv B a+nv B b=nv B b+nv B a:=om;have lf:(fl B i (nv B (b.take i)+nv B (a.take i))).length=i:=bH _ _;generalize g:(nv B (b.take i)+nv B (a.take i))/B^i=c;have hcB:c≤1:=by
   have j:=dD (b:=B) dc hb i;have z:=dD (b:=B) dc u i;rw[←g];exact Nat.le_of_lt_succ ((fP (bg dc)).2 om)
  by_cases h:(i:Int)<b.length
  ·by_cases j:(a.length:Int)≤i
   ·by_cases z:(c:Int)=0
    ·try (refine hK _ ?_;clear hK K)
     refine aX (ai @aW<|ai @aQ<|ai @z<|ai @j @h) ?_;refine C _ _ ?_;try (refine hK _ ?_;clear hK K)
     refine aX trivial ?_;obtain⟨e1,H⟩:=Yc (a:=b) (b:=a) (i:=i) hb om G om;refine BL (ai @m_<|ai @fZ @U2) ?_;rw[em,F,e1,H];exact⟨rfl,rfl⟩
    ·try (refine hK _ ?_;clear hK K)
     refine aX (ai @aW<|ai @aQ<|ai @z<|ai @j @h) ?_;try simp only[Sv,↓reduceIte,Nat.reduceEqDiff]
     first|refine ax (fun K hK=>?_)|refine ak (fun K hK=>?_)
     refine iw (ai @aO<|ai @aI<|ai @dH @aQ) ?_;refine yw trivial (pM a i) ?_;refine iw trivial ?_;refine yw trivial (x_ (b.getD i 0) (a.getD i 0) c (fV hb i) (fV u i) om) ?_;have m:(fl B i (nv B (b.take i)+nv B (a.take i))++b.drop i).length=b.length:=by rw[bZ,lf,uM];omega
     refine iw (ai @m<|ai @ny<|ai @aO<|ai @aI @aQ) ?_;refine hK _ ?_;clear hK K;try (refine hK _ ?_;clear hK K)
     refine aX @wi ?_;refine E _ (i+1) [] om om ?_;obtain⟨s1,s2,f⟩:=zu (b:=B) (P:=B^i) (A:=nv B (b.take i)) (Y:=nv B (a.take i)) (x:=b.getD i 0) (y:=a.getD i 0) (bg dc) dc;rw[g]at s1 f;refine tV trivial ?_;refine⟨⟨?_,om⟩,NF ?_⟩
     ·rw[az,az,dO,f];rfl
     ·rw[az,az,iY,jg dc s2,s1,Dc (by omega:i<b.length),nZ _ _ om,lf,gW,List.set_cons_zero,nY];rfl
   ·try (refine hK _ ?_;clear hK K)
    refine aX (ai @aW<|ai @aQ<|ai @j @h) ?_;try simp only[Sv,↓reduceIte,Nat.reduceEqDiff]
    first|refine ax (fun K hK=>?_)|refine ak (fun K hK=>?_)
    refine iw (ai @aO<|ai @aI<|ai @dH @aQ) ?_;refine yw trivial (pM a i) ?_;refine iw trivial ?_;refine yw trivial (x_ (b.getD i 0) (a.getD i 0) c (fV hb i) (fV u i) om) ?_;have m:(fl B i (nv B (b.take i)+nv B (a.take i))++b.drop i).length=b.length:=by rw[bZ,lf,uM];omega
    refine iw (ai @m<|ai @ny<|ai @aO<|ai @aI @aQ) ?_;refine hK _ ?_;clear hK K;try (refine hK _ ?_;clear hK K)
    refine aX @wi ?_;refine E _ (i+1) [] om om ?_;obtain⟨s1,s2,f⟩:=zu (b:=B) (P:=B^i) (A:=nv B (b.take i)) (Y:=nv B (a.take i)) (x:=b.getD i 0) (y:=a.getD i 0) (bg dc) dc;rw[g]at s1 f;refine tV trivial ?_;refine⟨⟨?_,om⟩,NF ?_⟩
    ·rw[az,az,dO,f];rfl
    ·rw[az,az,iY,jg dc s2,s1,Dc (by omega:i<b.length),nZ _ _ om,lf,gW,List.set_cons_zero,nY];rfl
  ·obtain rfl:i=b.length:=om;try (refine hK _ ?_;clear hK K)
   refine aX @h ?_;refine C _ _ ?_;try (refine hK _ ?_;clear hK K)
   refine aX trivial ?_;refine BL (ai @m_<|ai @fZ @U2) ?_;rw[em,F,←g,jB (aY _),jB om,List.drop_of_length_le (aY _),qF];exact⟨rfl,rfl⟩
 ·try (refine hK _ ?_;clear hK K)
  refine aX (ai @hab<|ai @aW @aQ) ?_;try simp only[Sv,↓reduceIte,Nat.reduceEqDiff]
  refine ay (fun K hK=>?_);refine iw trivial ?_;refine yw trivial (sW a om) ?_;refine iw (ai @fZ<|ai @aW @aQ) ?_;refine hK _ ?_;clear hK K;try (refine hK _ ?_;clear hK K)
  refine aX (ai @aW @aQ) ?_;refine Dx Nat (fun i=>⟨[(0,.l 1 (W a)),(1,.l 1 (W b)),(6,.ow 1 0 a.length),(7,.i .u64 (((nv B (a.take i)+nv B (b.take i))/B^i:Nat):Int)),(19,.i .i64 (a.length:Int)),(20,.i .i64 (i:Int))],
   [(0,some ⟨49,1,W (fl B i (nv B (a.take i)+nv B (b.take i))++a.drop i),true,false⟩)],1⟩)
   (fun i=>i≤a.length) (fun i=>a.length-i) 0 [(0,8)] (aG _) (by
   simp(disch:=(first|omega|assumption)) only[Sl,Sa,Sw,↓reduceIte,Nat.reduceEqDiff,Nat.reduceLT,jH,iI,Nat.reduceBneDiff,Nat.reduceAdd,ku,ne_eq,reduceCtorEq,kP,mZ,jf,jP,bW,bY,and_self]
   exact⟨⟨by simp[nv],rfl⟩,NF (by simp[fl])⟩) ?_
  intro i G J E C I;have em:max a.length b.length=a.length:=om;have F:nv B a+nv B b=nv B a+nv B b:=om;have lf:(fl B i (nv B (a.take i)+nv B (b.take i))).length=i:=bH _ _;generalize g:(nv B (a.take i)+nv B (b.take i))/B^i=c;have hcB:c≤1:=by
   have j:=dD (b:=B) dc u i;have z:=dD (b:=B) dc hb i;rw[←g];exact Nat.le_of_lt_succ ((fP (bg dc)).2 om)
  by_cases h:(i:Int)<a.length
  ·by_cases j:(b.length:Int)≤i
   ·by_cases z:(c:Int)=0
    ·try (refine hK _ ?_;clear hK K)
     refine aX (ai @aW<|ai @aQ<|ai @z<|ai @j @h) ?_;refine C _ _ ?_;try (refine hK _ ?_;clear hK K)
     refine aX trivial ?_;obtain⟨e1,H⟩:=Yc (a:=a) (b:=b) (i:=i) u om G om;refine BL (ai @m_<|ai @fZ @U2) ?_;rw[em,F,e1,H];exact⟨rfl,rfl⟩
    ·try (refine hK _ ?_;clear hK K)
     refine aX (ai @aW<|ai @aQ<|ai @z<|ai @j @h) ?_;try simp only[Sv,↓reduceIte,Nat.reduceEqDiff]
     first|refine ax (fun K hK=>?_)|refine ak (fun K hK=>?_)
     refine iw (ai @aO<|ai @aI<|ai @dH @aQ) ?_;refine yw trivial (pM b i) ?_;refine iw trivial ?_;refine yw trivial (x_ (a.getD i 0) (b.getD i 0) c (fV u i) (fV hb i) om) ?_;have m:(fl B i (nv B (a.take i)+nv B (b.take i))++a.drop i).length=a.length:=by rw[bZ,lf,uM];omega
     refine iw (ai @m<|ai @ny<|ai @aO<|ai @aI @aQ) ?_;refine hK _ ?_;clear hK K;try (refine hK _ ?_;clear hK K)
     refine aX @wi ?_;refine E _ (i+1) [] om om ?_;obtain⟨s1,s2,f⟩:=zu (b:=B) (P:=B^i) (A:=nv B (a.take i)) (Y:=nv B (b.take i)) (x:=a.getD i 0) (y:=b.getD i 0) (bg dc) dc;rw[g]at s1 f;refine tV trivial ?_;refine⟨⟨?_,om⟩,NF ?_⟩
     ·rw[az,az,dO,f];rfl
     ·rw[az,az,iY,jg dc s2,s1,Dc (by omega:i<a.length),nZ _ _ om,lf,gW,List.set_cons_zero,nY];rfl
   ·try (refine hK _ ?_;clear hK K)
    refine aX (ai @aW<|ai @aQ<|ai @j @h) ?_;try simp only[Sv,↓reduceIte,Nat.reduceEqDiff]
    first|refine ax (fun K hK=>?_)|refine ak (fun K hK=>?_)
    refine iw (ai @aO<|ai @aI<|ai @dH @aQ) ?_;refine yw trivial (pM b i) ?_;refine iw trivial ?_;refine yw trivial (x_ (a.getD i 0) (b.getD i 0) c (fV u i) (fV hb i) om) ?_;have m:(fl B i (nv B (a.take i)+nv B (b.take i))++a.drop i).length=a.length:=by rw[bZ,lf,uM];omega
    refine iw (ai @m<|ai @ny<|ai @aO<|ai @aI @aQ) ?_;refine hK _ ?_;clear hK K;try (refine hK _ ?_;clear hK K)
    refine aX @wi ?_;refine E _ (i+1) [] om om ?_;obtain⟨s1,s2,f⟩:=zu (b:=B) (P:=B^i) (A:=nv B (a.take i)) (Y:=nv B (b.take i)) (x:=a.getD i 0) (y:=b.getD i 0) (bg dc) dc;rw[g]at s1 f;refine tV trivial ?_;refine⟨⟨?_,om⟩,NF ?_⟩
    ·rw[az,az,dO,f];rfl
    ·rw[az,az,iY,jg dc s2,s1,Dc (by omega:i<a.length),nZ _ _ om,lf,gW,List.set_cons_zero,nY];rfl
  ·obtain rfl:i=a.length:=om;try (refine hK _ ?_;clear hK K)
   refine aX @h ?_;refine C _ _ ?_;try (refine hK _ ?_;clear hK K)
   refine aX trivial ?_;refine BL (ai @m_<|ai @fZ @U2) ?_;rw[em,F,←g,jB (aY _),jB om,List.drop_of_length_le (aY _),qF];exact⟨rfl,rfl⟩
theorem KD(a b:List Nat)(g:Wd a)(hb:Wd b)(f:a.length≤1099511627776)(c:b.length≤1099511627776):
 aT 165 [.l 1 (W a),.l 1 (W b)] (.t [.l 1 (W (fl B (max a.length b.length) (nv B a+nv B b))),.i .u64 (((nv B a+nv B b)/B^(max a.length b.length):Nat):Int)]):=
 (B_ a b g hb f c).plain
def aS:=an @aQ<|an @aW<|an @aO<|an @aI<|an @fZ @dR
theorem B2:2≤B:=dc
theorem B0:0<B:=dc
theorem zK(a:List Nat)(c:a.length≤1099511627776):aT 133 [.l 1 (W a)] (.o 49 1 (W (tz a))):=by
 refine f_ aN a_ Tryz.func133 ?_;have hl:=r_ a;refine aX @aS ?_;try simp only[Sv,↓reduceIte,Nat.reduceEqDiff]
 refine ay (fun K hK=>?_);refine iw @aS ?_;refine yw @aS (vI a c) ?_;refine iw (ai @fZ<|ai @aW<|ai @aQ @aS) ?_;refine hK _ ?_;clear hK K;by_cases h:((tz a).length:Int)=0
 ·try (refine hK _ ?_;clear hK K)
  refine aX (ai @h @aS) ?_;have e:tz a=[]:=nz om;exact rP (ai @e @aS)
 ·try (refine hK _ ?_;clear hK K)
  refine aX (ai @h @aS) ?_;try simp only[Sv,↓reduceIte,Nat.reduceEqDiff]
  refine ay (fun K hK=>?_);refine iw @aS ?_;refine yw @aS (sW (tz a) om) ?_;refine iw (ai @fZ<|ai @aW<|ai @aQ @aS) ?_;refine hK _ ?_;clear hK K;try (refine hK _ ?_;clear hK K)
  refine aX @aS ?_;exact rP @aS
theorem sZ(a:List Nat)(c:a.length≤1099511627776):aT 134 [.l 1 (W a)] (.o 49 1 (W (tz a))):=by
 refine f_ aN a_ Tryz.func134 ?_;refine aX @aS ?_;try simp only[Sv,↓reduceIte,Nat.reduceEqDiff]
 refine ay (fun K hK=>?_);refine iw @aS ?_;refine yw @aS (zK a c) ?_;refine iw (ai @fZ<|ai @aW<|ai @aQ @aS) ?_;refine hK _ ?_;clear hK K;try (refine hK _ ?_;clear hK K)
 refine aX @aS ?_;exact rP @aS
noncomputable def a166:AC:=gc Tryz.prog Tryz.f166
theorem Ho(a b:List Nat)(c:Wd a)(hb:Wd b)(g:a.length≤1099511627776)(f:b.length≤1099511627776):
 aT 166 [.l 1 (W a),.l 1 (W b)] (.t [.l 1 (W (if nv B a<nv B b then[]else dg B (nv B a-nv B b))),.i .i64 ((if nv B a<nv B b then 2 else 0:Nat):Int)]):=by
 refine f_ aN a_ Tryz.func166 ?_
 refine aX @aS ?_
 try simp only[Sv,↓reduceIte,Nat.reduceEqDiff]
 refine ay (fun K hK=>?_)
 refine iw @aS ?_
 refine yw @aS (yP a b c hb g f) ?_
 refine iw @aS ?_
 refine hK _ ?_
 clear hK K
 by_cases h:nv B a<nv B b
 ·simp only[h,↓reduceIte];try (refine hK _ ?_;clear hK K)
  refine aX @aS ?_;exact rP @aS
 ·have j:(fl B (max a.length b.length) (nv B a+B^max a.length b.length-nv B b)).length≤1099511627776:=by rw[bH];omega
  simp only[h,↓reduceIte];try (refine hK _ ?_;clear hK K)
  refine aX @aS ?_;try simp only[Sv,↓reduceIte,Nat.reduceEqDiff]
  refine ay (fun K hK=>?_);refine iw @aS ?_;refine yw @aS (zK _ j) ?_;refine iw @aS ?_;refine hK _ ?_;clear hK K;try (refine hK _ ?_;clear hK K)
  refine aX @aS ?_;have e:tz (fl B (max a.length b.length) (nv B a+B^max a.length b.length-nv B b))=dg B (nv B a-nv B b):=by
   have u:=eP c;have m:B^a.length≤B^max a.length b.length:=gX B0 om;rw[←xI B2 (n:=max a.length b.length) (by omega:nv B a-nv B b<_)];congr 1;exact jg B0 (by rw[show nv B a+B^max a.length b.length-nv B b=(nv B a-nv B b)+B^max a.length b.length from om,Nat.add_mod_right])
  exact rP (ai @e @aS)
theorem DC(a b:List Nat)(g:Wd a)(hb:Wd b)(f:a.length≤1099511627776)(c:b.length≤1099511627776):
 aT 119 [.l 1 (W a),.l 1 (W b)] (.i .i64 (sg (nv B a) (nv B b))):=by
 refine f_ aN a_ Tryz.func119 ?_
 refine aX @aS ?_
 try simp only[Sv,↓reduceIte,Nat.reduceEqDiff]
 refine ay (fun K hK=>?_)
 refine iw @aS ?_
 refine yw @aS (KC a b g hb f c) ?_
 refine iw @aS ?_
 refine hK _ ?_
 clear hK K
 try (refine hK _ ?_;clear hK K)
 refine aX @aS ?_
 exact rP @aS
theorem v_(a b:List Nat)(f:Wd a)(hb:Wd b)(y:a.length≤1099511627775)(u:b.length≤1099511627775):
 aT 137 [.l 1 (W a),.l 1 (W b)] (.o 49 1 (W (dg B (nv B a+nv B b)))):=by
 refine f_ aN a_ Tryz.func137 ?_
 generalize j:max a.length b.length=m
 have g:(fl B m (nv B a+nv B b)).length=m:=bH _ _
 refine aX @aS ?_
 try simp only[Sv,↓reduceIte,Nat.reduceEqDiff]
 refine ay (fun K hK=>?_)
 refine iw @aS ?_
 refine yw @aS (KD a b f hb om om) ?_
 simp only[j]
 refine iw @aS ?_
 refine hK _ ?_
 clear hK K
 try (refine hK _ ?_;clear hK K)
 refine aX @aS ?_
 try simp only[Sv,↓reduceIte,Nat.reduceEqDiff]
 refine ay (fun K hK=>?_)
 refine iw @aS ?_
 refine yw @aS (sW (fl B m (nv B a+nv B b)) om) ?_
 refine iw (ai @EC @aS) ?_
 refine yw @aS (zK (fl B m (nv B a+nv B b)++[(nv B a+nv B b)/B^m]) (by rw[bZ,g];simp;omega)) ?_
 refine iw @aS ?_
 refine hK _ ?_
 clear hK K
 try (refine hK _ ?_;clear hK K)
 refine aX @aS ?_
 have c:nv B a+nv B b<B^(m+1):=by
  have F:=eP f;have E:=eP hb;have C:B^a.length≤B^m:=gX B0 om;have A:B^b.length≤B^m:=gX B0 om;have z:B^m*2≤B^(m+1):=by rw[dO];exact iZ _ B2
  omega
 have e:tz (fl B m (nv B a+nv B b)++[(nv B a+nv B b)/B^m])=dg B (nv B a+nv B b):=by
  rw[←xI B2 c,iY,bD ((fP (bg B0)).2 (by rw[bV,←dO];exact c))]
 exact rP (ai @e @aS)
noncomputable def a138:AC:=gc Tryz.prog Tryz.f138
theorem Vd(a b:List Nat)(g:Wd a)(hb:Wd b)(f:a.length≤1099511627776)(c:b.length≤1099511627776):
 aT 138 [.l 1 (W a),.l 1 (W b)] (.t [.l 1 (W (if nv B a<nv B b then dg B (nv B b-nv B a)else dg B (nv B a-nv B b))),.b (decide (nv B a<nv B b))]):=by
 refine f_ aN a_ Tryz.func138 ?_
 refine aX @aS ?_
 try simp only[Sv,↓reduceIte,Nat.reduceEqDiff]
 refine ay (fun K hK=>?_)
 refine iw @aS ?_
 refine yw @aS (Ho a b g hb f c) ?_
 by_cases h:nv B a<nv B b
 ·simp only[h,↓reduceIte];refine iw @aS ?_;refine hK _ ?_;clear hK K;try (refine hK _ ?_;clear hK K)
  refine aX @aS ?_;try simp only[Sv,↓reduceIte,Nat.reduceEqDiff]
  refine ay (fun K hK=>?_);refine iw @aS ?_;refine yw @aS (Ho b a hb g c f) ?_;simp only[show¬nv B b<nv B a from om,↓reduceIte];refine iw @aS ?_;refine hK _ ?_;clear hK K;try (refine hK _ ?_;clear hK K)
  refine aX @aS ?_;exact rP (ai @h @aS)
 ·simp only[h,↓reduceIte];refine iw @aS ?_;refine hK _ ?_;clear hK K;try (refine hK _ ?_;clear hK K)
  refine aX @aS ?_;exact rP (ai @h @aS)
