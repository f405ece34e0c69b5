import Derived.Test.YtpopphdnlhihdaaGreatDoorFA
import Derived.Test.YtpopphdnlhihdaaGreatDoorU11
set_option linter.all false
set_option maxRecDepth 2000000
set_option maxHeartbeats 10000000
namespace Go.Proofs.YtpopphdnlhihdaaGreatDoor
open Go Go.RowKit Ab
def jS:=an @aQ<|an @fK<|an @aW<|an @aO<|an @aI<|an @fZ<|an @mJ<|an @dR<|an @iL<|an @wi<|an @wW<|an @lu<|an @gG @di
theorem uY(s:Bool)(a:List Nat)(g:Wd a)(m:a.length≤1000000000):aT 75 [.b s,.l 1 (W a)] (zN (zv s a)):=by
 have j:=(yA a g om).frozen;have e:=zN_I s (nv B a);unfold zv;rw[e];generalize nv B a=n at*
 refine b_ aN a_ Tryz.func75 [.c 4 true 2] ?_;cases s
 ·have f:=j;exact lV @jS
 ·by_cases h:0<n
  ·have e:decide (0<n)=true:=cO h;rw[e];exact lV (ai @h<|ai @BR @jS)
  ·have e:decide (0<n)=false:=aZ h;rw[e];exact lV (ai @h<|ai @BR @jS)
variable{m u:Nat}{r R:List Nat}
theorem VU(s:Bool){n:Nat}(h:n<B^m)(hm:m≤1000000000):aT 75 [.b s,.l 1 (W (dg B n))] (zN (zI s n)):=by
 have:=uY s (dg B n) (af _) (bK (aA h) hm);rwa[zv,ae]at this
theorem J5(n:Int)(h1: -9223372036854775808<n)(h2:n<9223372036854775808):aT 19 [.i .i64 n] (zN n):=by
 have u:=(kW n.natAbs om).frozen;have a:=VU (decide (n<0)) (n:=n.natAbs) (m:=1) (by rw[Nat.pow_one];show _<18446744073709551616;omega) dc;rw[Aq]at a;by_cases h:n<0
 ·have f:zN n= .g [.b true,.l 1 (W (dg B n.natAbs))]:=by show V.g [.b (decide (n<0)),_]=_;rw[cO h]
  rw[f]at a ⊢;rw[cO h]at a;have e: -n=(n.natAbs:Int):=om;have j:IntKind.i64.wrap (0-n)=(n.natAbs:Int):=by rw[wi om];omega
  refine b_ aN a_ Tryz.func19 [.c 2 true 2] ?_;exact lV (ai @j<|ai @h @jS)
 ·have f:zN n= .g [.b false,.l 1 (W (dg B n.natAbs))]:=by show V.g [.b (decide (n<0)),_]=_;rw[aZ h]
  rw[f]at a ⊢;rw[aZ h]at a;obtain⟨k,rfl⟩:∃k:Nat,n=(k:Int):=⟨n.natAbs,om⟩;simp only[vS]at u a ⊢;refine b_ aN a_ Tryz.func19 [.c 2 true 2] ?_;exact lV (ai @h @jS)
theorem Jk(s:Bool)(a:List Nat)(g:Wd a)(f:a.length≤1000000000):aT 104 [zL s a] (zN (-(zv s a))):=by
 have j:=uY (!s) a g f;rw[show zv (!s) a= -(zv s a)from by unfold zv zI;cases s<;>simp]at j;refine b_ aN a_ Tryz.func104 [.c 2 true 2] ?_;exact lV @jS
theorem We(s:Bool)(u v:Nat)(h:v≤u):zI s (u-v)=zI s u+zI (!s) v:=by
 unfold zI;cases s<;>simp<;>omega
theorem RF(u v:Nat):((0:Int)≤sg u v)=(v≤u):=by
 unfold sg;split
 ·rename_i h;exact propext ⟨fun a=>absurd a dc,fun a=>absurd a om⟩
 ·rename_i h;split<;>exact propext ⟨fun _=>om,fun _=>dc⟩
theorem OY(s t:Bool)(a b:List Nat)(m:Nat)(hm:m≤100000000)(j:Wd a)(hb:Wd b)(L:a.length≤m)(J:b.length≤m):aT 141 [zL s a,zL t b] (zN (zv s a+zv t b)):=by
 have l1:=bP j L;have y:=bP hb J;have p1:=(Ef a b j hb om om).frozen;have p2:=BM a b j hb om om;have I:=fun h=>(Jj a b j hb om om h).frozen
 have H:=fun h=>(Jj b a hb j om om h).frozen
 have G:=VU s (Bj l1 y) om;have F:=VU s (cZ (Nat.sub_le (nv B a) (nv B b)) l1) om;have E:=VU t (cZ (Nat.sub_le (nv B b) (nv B a)) y) om;have z:=RF (nv B a) (nv B b);have z1:=RG s t (nv B a) (nv B b);have C:=We s (nv B a) (nv B b);have A:=We t (nv B b) (nv B a);unfold zv;generalize nv B a=u at*
 generalize nv B b=v at*
 by_cases h:s=t
 ·subst h;have f:(s==s)=true:=by cases s<;>rfl
  rw[z1.1 rfl]at G;refine b_ aN a_ Tryz.func141 [.c 4 true 2] ?_;exact lV (ai @f @jS)
 ·have f:(s==t)=false:=by cases s<;>cases t<;>first|rfl|exact absurd rfl h
  by_cases l:v≤u
  ·have q:=I l;have g:(!s)=t:=by cases s<;>cases t<;>first|rfl|exact absurd rfl h
   rw[C l,g]at F;refine b_ aN a_ Tryz.func141 [.c 4 true 2] ?_;exact lV (ai @l<|ai @z<|ai @f @jS)
  ·have q:=H om;have g:(!t)=s:=by cases s<;>cases t<;>first|rfl|exact absurd rfl h
   rw[A om,g,Int.add_comm]at E;refine b_ aN a_ Tryz.func141 [.c 4 true 2] ?_;exact lV (ai @l<|ai @z<|ai @f @jS)
theorem sD(s t:Bool)(a b:List Nat)(m:Nat)(hm:m≤100000000)(f:Wd a)(hb:Wd b)(l:a.length≤m)(j:b.length≤m):aT 91 [zL s a,zL t b] (zN (zv s a*zv t b)):=by
 have y:=(vw a b f hb om om).frozen;have g:nv B a*nv B b<B^(m+m):=by rw[dn];exact BQ (bP f l) (bP hb j)
 have u:=VU (!(s==t)) g om;rw[RH]at u;refine b_ aN a_ Tryz.func91 [.c 4 true 2] ?_;repeat first|(refine hK _ ?_;clear hK K)|simp only[Sv,↓reduceIte,Nat.reduceEqDiff]|((first|refine ay (fun K hK=>?_)|refine ax (fun K hK=>?_)|refine ak (fun K hK=>?_)|refine fM ?_|refine dE (by assumption) ?_|refine fO ?_|(apply dF;assumption)|(apply dG;assumption));simp(disch:=(first|omega|assumption)) only[S1,seval,-Int.reduceToNat,-List.reduceReplicate,aK.sb,aK.mut,aU,↓aJ,aV,aC,jS,zv])
 simp(disch:=(first|omega|assumption)) only[rU,iy,fG,qp,qw,lJ,qA,qB,iC,lK,lL,fH,eF,dY,iF,iK,jv,fA,V.aP,bW,bY,S1,seval,-Int.reduceToNat,-List.reduceReplicate,aK.sb,aK.mut,aU,↓aJ,aV,aC,jS,zv]
theorem haddZ{x y:Int}(c:x.natAbs<B^m)(a:y.natAbs<B^m)(hm:m≤100000000):aT 141 [zN x,zN y] (zN (x+y)):=by
 have:=OY (decide (x<0)) (decide (y<0)) (dg B x.natAbs) (dg B y.natAbs) m hm (af _) (af _) (aA c) (aA a);rwa[fD,fD]at this
theorem hmulN{v:Nat}(c:u<B^m)(a:v<B^m)(hm:m≤100000000):aT 102 [.l 1 (W (dg B u)),.l 1 (W (dg B v))] (.o 49 1 (W (dg B (u*v)))):=by
 have:=vw (dg B u) (dg B v) (af _) (af _) (bK (aA c) om) (bK (aA a) om);rwa[ae,ae]at this
theorem Jl(u k m:Nat)(z:u<B^m)(hm:m*(k+1)≤100000000)(j:1≤m)(H:k<9223372036854775807):aT 99 [.l 1 (W (dg B u)),.i .i64 (k:Int)] (.o 49 1 (W (dg B (u^k)))):=by
 have F:=kW 1 dc;have y:∀i,i≤k→u^i<B^(m*(k+1)):=fun i c=>by
  refine eu (cZ (Nat.pow_le_pow_left (qC z) i) (Nat.pow_lt_pow_right (a:=B^m) ?_ (Nat.lt_succ_of_le c))) (by rw[←Nat.pow_mul];exact aY _);exact eu (by decide:1<B^1) (gX dc j)
 have f:u<B^(m*(k+1)):=eu z (gX dc (Nat.le_mul_of_pos_right _ om));have g:=fun i c=>hmulN (y i c) f hm
 refine f_ aN a_ Tryz.func99 ?_;refine pJ @jS ?_;refine aF [] Nat (fun i=>⟨[(0,.l 1 (W (dg B u))),(1,.i .i64 (k:Int)),(5,.ow 1 0 (dg B (u^i)).length),(6,.i .i64 (i:Int))],[(0,some ⟨49,1,W (dg B (u^i)),true,false⟩)],1⟩)
  (fun i=>i≤k) (fun i=>k-i) 0 (aG _) (by exact oL) (by
  exact lC) ?_
 intro i c I E A G;by_cases h:(i:Int)<(k:Int)
 ·have C:=g i c;rw[←dO]at C;refine pJ (ai @h @jS) ?_;refine E _ (i+1) om om ?_;exact lC
 ·obtain rfl:i=k:=om;refine aX (ai @h @jS) ?_;refine A _ _ ?_;refine aX @jS ?_;exact rP @jS
theorem MH(a b:List Nat)(E:a.length≤9223372036854775807)(C:b.length≤9223372036854775807):
 aT 121 [.l 1 (W a),.l 1 (W b)] (.b (decide (a=b))):=by
 refine f_ aN a_ Tryz.func121 ?_
 by_cases h:(a.length:Int)=(b.length:Int)
 ·refine aX (ai @h @jS) ?_;refine aF [] Nat (fun i=>⟨[(0,.l 1 (W a)),(1,.l 1 (W b)),(5,.i .i64 (i:Int))],[],0⟩) (fun i=>i≤a.length∧∀j,j<i→a.getD j 0=b.getD j 0) (fun i=>a.length-i) 0 ⟨om,om⟩ (by exact oL) (by
   refine tV trivial ?_;rfl) ?_
  intro i ⟨F,g⟩ G z y u;by_cases h1:(i:Int)<a.length
  ·refine aX (ai @h1 @jS) ?_;by_cases f:((a.getD i 0:Nat):Int)=((b.getD i 0:Nat):Int)
   ·refine aX (ai @wi<|ai @f<|ai @dH @jS) ?_;refine z _ (i+1) ⟨om,fun j m=>?_⟩ om ?_
    ·rcases dW j i with c|c
     ·exact g j c
     ·obtain rfl:j=i:=om;omega
    ·refine tV trivial ?_;omega
   ·refine aX (ai @f<|ai @dH @jS) ?_;refine aX @jS ?_;refine u _ ?_;have e:¬a=b:=fun h=>f (by rw[h])
    exact rP (ai @e @jS)
  ·refine aX (ai @h1 @jS) ?_;refine y _ _ ?_;refine aX @jS ?_;have e:a=b:=by
    refine List.ext_getElem om fun n m c=>?_
    have:=g n om;simpa[dN,m,c]using this
   exact rP (ai @e @jS)
 ·refine aX (ai @h @jS) ?_;have e:¬a=b:=fun A=>h (by rw[A])
  exact rP (ai @e @jS)
theorem pU(a b:List Nat)(f:a.length≤9223372036854775807)(c:b.length≤9223372036854775807):
 aT 66 [.l 1 (W a),.l 1 (W b)] (.b (decide (a=b))):=by
 have h:=MH a b f c
 refine f_ aN a_ Tryz.func66 ?_
 exact jO @jS
theorem zy(s t:Bool)(a b:List Nat)(g:a.length≤1000000000)(f:b.length≤1000000000):aT 23 [zL s a,zL t b] (.b ((s==t)&&decide (a=b))):=by
 have j:=pU a b om om;refine f_ aN a_ Tryz.func23 ?_;by_cases h:s=t
 ·have c:(s==t)=true:=by rw[h];cases t<;>rfl
  rw[c,jP];exact jO (ai @c @jS)
 ·have c:(s==t)=false:=by cases s<;>cases t<;>first|rfl|exact absurd rfl h
  rw[c,gG];refine aX (ai @c @jS) ?_;exact rP @jS
def zA:=an @aQ<|an @fK<|an @aW<|an @aO<|an @aI<|an @fZ<|an @mJ<|an @dR<|an @iL<|an @wi<|an @lu<|an @gG @di
theorem OZ(x s:Nat)(c:x<65536):∃d a:Nat,x+a*65536=d+s∧d<65536∧(s≤x→a=0)∧(x<s→a=(s+65535-x)/65536):=by
 refine⟨x+(s+65535-x)/65536*65536-s,(s+65535-x)/65536,?_,?_,?_,fun _=>rfl⟩
 ·omega
 ·omega
 ·intro h;omega
theorem Wh{n i j a k d:Nat}{b:List Nat}(u:i+j<n)(g:r.length=n)(l:R.length=n)(c:R.drop (i+j)=r.drop (i+j))
 (h:nv 65536 (r.take (i+j))+m*65536^(i+j)=nv 65536 (R.take (i+j))+k*65536^i*nv 65536 (b.take j))
 (hd:r.getD (i+j) 0+a*65536=d+(m+k*b.getD j 0)):
 nv 65536 (r.take (i+(j+1)))+a*65536^(i+(j+1))=nv 65536 ((R.set (i+j) d).take (i+(j+1)))+k*65536^i*nv 65536 (b.take (j+1))∧(R.set (i+j) d).drop (i+(j+1))=r.drop (i+(j+1)):=by
 rw[←tY]
 constructor
 ·rw[az r,az (R.set (i+j) d),az b,dO];have e1:(R.set (i+j) d).take (i+j)=R.take (i+j):=by rw[List.take_set_of_le (aY _)]
  have f:(R.set (i+j) d).getD (i+j) 0=d:=by rw[dN,zB om];rfl
  rw[e1,f,fQ,show k*65536^i*(65536^j*b.getD j 0)=65536^(i+j)*(k*b.getD j 0)from by rw[dn];simp only[fB,Nat.mul_left_comm]];generalize 65536^(i+j)=P at*
  have y:P*r.getD (i+j) 0+a*(P*65536)=P*d+(m*P+P*(k*b.getD j 0)):=by
   have:=congrArg (fun z=>P*z) hd;simp only[fQ]at this;rw[show a*(P*65536)=P*(a*65536)from by rw[Nat.mul_left_comm],this,bV m P]
  omega
 ·have:(R.drop (i+j)).drop 1=(r.drop (i+j)).drop 1:=by rw[c]
  rw[List.drop_drop,List.drop_drop]at this;rw[List.drop_set_of_lt om];exact this
theorem J6{n:Nat}(h:R.drop n=r.drop n):R.getD n 0=r.getD n 0:=by
 have:=congrArg (fun l=>l.getD 0 0) h;simp only[dN,uB,ik]at this;rw[dN,dN];exact this
noncomputable def a179:AC:=gc Tryz.prog Tryz.f179
theorem O0(r b:List Nat)(k i:Nat)(hr:Lt 65536 r)(hb:Lt 65536 b)(lr:r.length≤1000000000000)(hk:k<4294967296)(hi:i+b.length≤r.length)(hle:k*65536^i*nv 65536 b≤nv 65536 r):
 aT 179 [.o 3 1 (D r),.l 1 (D b),.i .i64 (k:Int),.i .i64 (i:Int)] (.mu (.t []) (D (fl 65536 r.length (nv 65536 r-k*65536^i*nv 65536 b)))):=by
 obtain⟨n,C⟩:∃n,n=r.length:=⟨_,rfl⟩
 rw[←C]at lr hi
 rw[←C]
 refine fC.mkm (m:=0) aN a_ Tryz.func179 rfl (ac:=a179) kf rfl rfl rfl rfl kf ?_
 apply gm
 unfold a179
 conv in gc _ _=>reduce
 simp only[Wj,eU,CZ,Int.reduceOfNat,Int.reduceNegSucc]
 rw[show(D r).length/1=n from by rw[fK,aW,C]]
 refine aX @zA ?_
 refine aF [] (Nat×Nat×List Nat) (fun x=>⟨[(0,.ow 1 0 n),(1,.l 1 (D b)),(2,.i .i64 (k:Int)),(3,.i .i64 (i:Int)),(8,.i .i64 (-(x.2.1:Int))),(9,.i .i64 (x.1:Int))],[(0,some ⟨3,1,D x.2.2,true,false⟩)],1⟩)
  (fun x=>i+x.1≤n∧x.2.1≤k∧x.2.2.length=n∧Lt 65536 x.2.2∧x.2.2.drop (i+x.1)=r.drop (i+x.1)∧nv 65536 (r.take (i+x.1))+x.2.1*65536^(i+x.1)=nv 65536 (x.2.2.take (i+x.1))+k*65536^i*nv 65536 (b.take x.1))
  (fun x=>n-x.1) (0,0,r) ⟨by simp only;omega,aG _,C.symm,hr,rfl,by simp[nv]⟩ (by exact oL) (by
  exact lC) ?_
 rintro⟨j,m,R⟩ ⟨hj,hm,u,N,U,y⟩ Q' hQ he hrr
 simp only[]at hj hm u N U y ⊢
 have A:(D R).length=n:=by rw[fK,u]
 by_cases h:(i:Int)+(j:Int)<(n:Int)
 ·have Z:=uA hr dc (i+j);have J:=J6 U;have hy:=uA hb dc j;obtain⟨d,c,e1,e2,T,Q⟩:=OZ (r.getD (i+j) 0) (m+k*b.getD j 0) Z;obtain⟨v1,v2⟩:=Wh om C.symm u U y e1;obtain⟨x,E⟩:∃x,x=r.getD (i+j) 0:=⟨_,rfl⟩;obtain⟨z,hz⟩:∃z,z=k*b.getD j 0:=⟨_,rfl⟩;have Y:z≤k*65535:=by rw[hz];exact iZ _ om
  have hzI:(k:Int)*((b.getD j 0:Nat):Int)=(z:Int):=by rw[hz,jC]
  rw[←E]at Z J e1 T Q;rw[←hz]at e1 T Q;have G:c≤k:=by
   by_cases hc:m+z≤x
   ·rw[T hc];exact aG _
   ·rw[Q om];omega
  obtain⟨a,hN⟩:∃a:Int,a=(x:Int)-(m+z:Nat):=⟨_,rfl⟩;have g:((i:Int)+(j:Int)).toNat=i+j:=om;have eA:(x:Int)+ -(m:Int)-(z:Int)=a:=om;have w1:IntKind.i64.wrap ((x:Int)+ -(m:Int))=(x:Int)+ -(m:Int):=wi om;have w2:IntKind.i64.wrap ((z:Nat):Int)=((z:Nat):Int):=wi om;have w3:IntKind.i64.wrap a=a:=wi om;have eB:¬(j:Int)<(b.length:Int)→(x:Int)+ -(m:Int)=a:=fun I=>by
   have:b.getD j 0=0:=by rw[dN,ng om];rfl
   rw[this,kG]at hz;omega
  have O:=wW R (i+j) om;rw[J]at O;have hlR:(R.set (i+j) d).length=n:=by rw[yZ,u]
  have hLR:Lt 65536 (R.set (i+j) d):=yC N _ _ e2;have hDb:(j:Int)<(b.length:Int)→(D b).getD j .un= .i .i64 ((b.getD j 0:Nat):Int):=fun h=>wW b j om
  have hpos:0≤a→c=0∧a=(d:Int):=fun P=>by
   have:=T om;subst this;exact⟨rfl,om⟩
  have hneg:a<0→(65535-a).tdiv 65536=(c:Int):=fun P=>by
   rw[Q om,show(65535-a)=((m+z+65535-x:Nat):Int)from om];rfl
  have hnd:a+(c:Int)*65536=(d:Int):=om;have w4:IntKind.i64.wrap (65535-a)=65535-a:=wi om;have w5:IntKind.i64.wrap (c:Int)=(c:Int):=wi om;have w6:IntKind.i64.wrap ((c:Int)*65536)=(c:Int)*65536:=wi om;have w7:IntKind.i64.wrap (d:Int)=(d:Int):=wi om;have w8:IntKind.i64.wrap (0-(c:Int))=0-(c:Int):=wi om;have M:¬(d:Int)<0:=om;have hset:=Ee R (i+j) d;clear e1 T Q hz Y hN Z E hy U y hle N hr hb;by_cases I:(j:Int)<(b.length:Int);all_goals
   refine aX (ai @w3<|ai @w2<|ai @w1<|ai @eB<|ai @eA<|ai @hzI<|ai @hDb<|ai @O<|ai @g<|ai @A<|ai @I<|ai @h @zA) ?_
   refine aF [] Bool (fun f=>match f with
    |false=>⟨[(0,.ow 1 0 n),(1,.l 1 (D b)),(2,.i .i64 (k:Int)),(3,.i .i64 (i:Int)),(8,.i .i64 0),(9,.i .i64 (j:Int)),(10,.i .i64 a)],[(0,some ⟨3,1,D R,true,false⟩)],1⟩
    |true=>⟨[(0,.ow 1 0 n),(1,.l 1 (D b)),(2,.i .i64 (k:Int)),(3,.i .i64 (i:Int)),(8,.i .i64 (0-(c:Int))),(9,.i .i64 (j:Int)),(10,.i .i64 (d:Int))],[(0,some ⟨3,1,D R,true,false⟩)],1⟩)
    (fun _=>True) (fun f=>match f with|false=>1|true=>0) false trivial (by exact oL) (by
    exact lC) ?_
   rintro f-Q2 hQ2 L hr2
   cases f
   ·simp only[];by_cases F:a<0
    ·repeat first
      |(refine hK _ ?_;clear hK K)
      |((first|refine ay (fun K hK=>?_)|refine ax (fun K hK=>?_)|refine ak (fun K hK=>?_));simp(disch:=(first|omega|assumption)) only[S1,seval,-Int.reduceToNat,-List.reduceReplicate,aK.sb,aK.mut,aU,↓aJ,aV,aC,zA,F,w4,hneg F,w5,w6,hnd,w7,w8];refine hK _ ?_;clear hK K)
      |simp only[Sv,↓reduceIte,Nat.reduceEqDiff]
     refine hQ2 _ true trivial dc ?_;exact lC
    ·obtain⟨H,hN0⟩:=hpos om;rw[hN0]at*
     refine aX (ai @M @zA) ?_;refine L _ _ ?_;refine aX (ai @hset<|ai @g<|ai @A @zA) ?_;refine hQ _ (j+1,c,R.set (i+j) d) ⟨by simp only;omega,G,hlR,hLR,v2,v1⟩ (by simp only;omega) ?_;exact lC
   ·simp only[];refine aX (ai @M @zA) ?_;refine L _ _ ?_;refine aX (ai @hset<|ai @g<|ai @A @zA) ?_;refine hQ _ (j+1,c,R.set (i+j) d) ⟨by simp only;omega,G,hlR,hLR,v2,v1⟩ (by simp only;omega) ?_;exact lC
 ·have hij:i+j=n:=om;have hbt:b.take j=b:=jB om;rw[hij,hbt,show r.take n=r from by rw[C,iH],show R.take n=R from by rw[←u,iH]]at y;have hRl:=eP N;rw[u]at hRl;have H:m=0:=by
   rcases kz m with P|P
   ·exact P
   ·have:65536^n*1≤65536^n*m:=iZ _ P;rw[bV m]at y;omega
  rw[H,iT,ik]at y;have e:R=fl 65536 n (nv 65536 r-k*65536^i*nv 65536 b):=by
   rw[y,CW,←u];exact(CY N).symm
  refine aX (ai @h @zA) ?_;refine he _ _ ?_;refine aX @zA ?_;exact⟨0,rfl,by rw[←e];rfl⟩
theorem J7(r b:List Nat)(i:Nat)(m:Lt 65536 r)(hb:Lt 65536 b)(y:r.length≤1099511627776)(j:b.length≤1099511627776)(z:i≤r.length):
 aT 178 [.l 1 (D r),.l 1 (D b),.i .i64 (i:Int)] (.b (decide (nv 65536 b≤nv 65536 (r.drop i)))):=by
 have A:=Jg (r.drop i) b (FY m i) hb (by rw[uM];omega) j
 have f:(D r).drop i=D (r.drop i):=by simp[D]
 have u:decide ((0:Int)≤sg (nv 65536 (r.drop i)) (nv 65536 b))=decide (nv 65536 b≤nv 65536 (r.drop i)):=by rw[decide_eq_decide];exact Iff.of_eq (RF _ _)
 rw[←u]
 generalize sg (nv 65536 (r.drop i)) (nv 65536 b)=c at*
 have a:(0:Int)≤(i:Int):=om
 have g:=fK r
 refine f_ aN a_ Tryz.func178 ?_
 repeat first|(refine hK _ ?_;clear hK K)|simp only[Sv,↓reduceIte,Nat.reduceEqDiff]|((first|refine ay (fun K hK=>?_)|refine ax (fun K hK=>?_)|refine ak (fun K hK=>?_)|refine fM ?_|refine dE (by assumption) ?_|refine fO ?_|(apply dF;assumption)|(apply dG;assumption));simp(disch:=(first|omega|assumption)) only[S1,seval,-Int.reduceToNat,-List.reduceReplicate,aK.sb,aK.mut,aU,↓aJ,aV,aC,zA,a,g,f,aO,aI])
 simp(disch:=(first|omega|assumption)) only[dY,iF,iK,jv,fA,V.aP,bW,bY,S1,seval,-Int.reduceToNat,-List.reduceReplicate,aK.sb,aK.mut,aU,↓aJ,aV,aC,zA,a,g,f,aO,aI]
def uN:=an @aQ<|an @fK<|an @aW<|an @aO<|an @aI<|an @fZ<|an @mJ<|an @dR<|an @iL<|an @wi<|an @lu<|an @gG @di
theorem lD(a:List Nat):(D a).all V.cell=true:=by simp[D,V.cell]
def dk(R b:List Nat)(i:Nat):Nat:=max 1 (nv 65536 (R.drop (i+b.length-1))/(b.getD (b.length-1) 0+1))
theorem dk_law{b:List Nat}{i:Nat}(c:Lt 65536 R)(hb:Lt 65536 b)(tb:tz b=b)(b0:b≠[])(h:nv 65536 b≤nv 65536 (R.drop i))(f:nv 65536 R<nv 65536 b*65536^(i+1)):
 i+b.length≤R.length∧nv 65536 (R.drop (i+b.length-1))<4294967296∧dk R b i<4294967296∧dk R b i*65536^i*nv 65536 b≤nv 65536 R:=by
 have z:0<b.length:=yD.2 b0
 have htop:=yz (b:=65536) tb b0
 have m:=eP hb
 have hdrop:=eP (FY c i)
 rw[uM]at hdrop
 have c1:i+b.length≤R.length:=by
  have a:65536^(b.length-1)<65536^(R.length-i):=om;have:=(BN (by decide:1<65536)).1 a;omega
 have e1:i+b.length-1=i+(b.length-1):=om
 have c2:nv 65536 (R.drop (i+b.length-1))<4294967296:=by
  rw[←yE dc c,fP (bg dc),e1];refine eu f ?_;have:nv 65536 b≤65536^(b.length-1)*65536:=by
   have e:65536^(b.length-1)*65536=65536^b.length:=by rw[←dO,show(b.length-1).succ=b.length from om]
   rw[e];omega
  refine bK (kF _ this) ?_;rw[dO,dn];have:65536^(b.length-1)*65536*(65536^i*65536)=4294967296*(65536^i*65536^(b.length-1)):=by
   generalize 65536^(b.length-1)=u;generalize 65536^i=v;rw[show 4294967296=65536*65536 from rfl];simp only[fB,bV,Nat.mul_left_comm]
  omega
 have hone:1*65536^i*nv 65536 b≤nv 65536 R:=by
  rw[iV];rw[←yE dc c]at h;have:=(rZ (bg dc)).1 h;rwa[bV]
 have l:nv 65536 (R.drop (i+b.length-1))/(b.getD (b.length-1) 0+1)*65536^i*nv 65536 b≤nv 65536 R:=by
  have g:nv 65536 b≤65536^(b.length-1)*(b.getD (b.length-1) 0+1):=by
   have a:=jd (b:=65536) b (b.length-1) om;rw[show b.length-1+1=b.length from om,iH]at a;have A:=dD (b:=65536) dc hb (b.length-1);rw[a,fQ,aO];omega
  have y:=Nat.div_mul_le_self (nv 65536 (R.drop (i+b.length-1))) (b.getD (b.length-1) 0+1);have j:nv 65536 (R.drop (i+b.length-1))*65536^(i+b.length-1)≤nv 65536 R:=by
   rw[←yE dc c];exact Nat.div_mul_le_self _ _
  refine bK ?_ j;generalize nv 65536 (R.drop (i+b.length-1))=H at*
  generalize b.getD (b.length-1) 0+1=T at*
  rw[e1,dn];refine bK (iZ _ g) ?_;have:=kF (65536^i*65536^(b.length-1)) y;refine bK (Nat.le_of_eq ?_) this;generalize H/T=q;simp only[fB,bV,Nat.mul_left_comm]
 refine⟨c1,c2,?_,?_⟩
 ·unfold dk;have:=fE (nv 65536 (R.drop (i+b.length-1))) (b.getD (b.length-1) 0+1);omega
 ·unfold dk;rcases Nat.le_total 1 (nv 65536 (R.drop (i+b.length-1))/(b.getD (b.length-1) 0+1))with a|a
  ·rw[Nat.max_eq_right a];exact l
  ·rw[Nat.max_eq_left a];exact hone
theorem J8(a b:List Nat)(ha:Lt 65536 a)(hb:Lt 65536 b)(ta:tz a=a)(tb:tz b=b)(b0:b≠[])(la:a.length≤100000000000)(lb:b.length≤100000000000):
 aT 164 [.l 1 (D a),.l 1 (D b)] (.t [.l 1 (D (fl 65536 (a.length+1-b.length) (nv 65536 a/nv 65536 b))),.l 1 (D (dg 65536 (nv 65536 a%nv 65536 b)))]):=by
 have hb1:0<b.length:=yD.2 b0
 have htop:=yz (b:=65536) tb b0
 have hbp:0<nv 65536 b:=eu (bg dc) htop
 by_cases hl:(a.length:Int)<(b.length:Int)
 ·have hal:=eP ha;have:nv 65536 a<nv 65536 b:=eu hal (bK (gX dc om) htop);rw[bD this,←EY H2 ha,ta,show a.length+1-b.length=0 from om,show fl 65536 0 (nv 65536 a/nv 65536 b)=[]from rfl];refine f_ aN a_ Tryz.func164 ?_;refine aX (ai @C9<|ai @hl<|ai @lD @uN) ?_;exact rP (ai @C9<|ai @lD @uN)
 ·obtain⟨L,hL⟩:∃L,L=a.length+1-b.length:=⟨_,rfl⟩;rw[←hL];have hLI:(a.length:Int)-(b.length:Int)+1=(L:Int):=om;have hL0:(0:Int)≤(L:Int):=om;have tb1:((b.length:Int)-1).toNat=b.length-1:=om;obtain⟨T,hT⟩:∃T,T=b.getD (b.length-1) 0+1:=⟨_,rfl⟩;have hT1:T≤65536:=by have:=uA hb dc (b.length-1);omega
  have hTI:((b.getD (b.length-1) 0:Nat):Int)+1=(T:Int):=om;have hDb:=wW b (b.length-1) om;refine f_ aN a_ Tryz.func164 ?_;refine aX (ai @eY<|ai @hTI<|ai @hDb<|ai @tb1<|ai @V4<|ai @hL0<|ai @hLI<|ai @C9<|ai @hl<|ai @lD @uN) ?_;have hQ0:Lt 65536 (List.replicate L 0):=BP dc;refine aF [] (Nat×List Nat×List Nat) (fun x=>⟨[(0,.l 1 (D a)),(1,.l 1 (D b)),(6,.ow 1 0 x.2.1.length),(7,.ow 1 1 L),(8,.i .i64 (T:Int)),(9,.i .i64 ((x.1:Int)-1))],
   [(0,some ⟨3,1,D x.2.1,true,false⟩),(1,some ⟨3,1,D x.2.2,true,false⟩)],2⟩)
   (fun x=>x.1≤L∧Lt 65536 x.2.1∧Lt 65536 x.2.2∧x.2.2.length=L∧x.1-1≤x.2.1.length∧x.2.1.length≤100000000000∧nv 65536 x.2.2*nv 65536 b+nv 65536 x.2.1=nv 65536 a∧nv 65536 x.2.1<nv 65536 b*65536^x.1∧(∀j,j<x.1→x.2.2.getD j 0=0)∧(x.1=0→tz x.2.1=x.2.1))
   (fun x=>x.1) (L,a,List.replicate L 0) ⟨aY _,ha,hQ0,sy,by simp only;omega,la,by simp only[yB,iT,eY],?_,fun j M=>by simp only[dN,List.getElem?_replicate];split<;>simp,fun h=>by simp only at h;omega⟩ (by exact oL) (by
   exact lC) ?_
  ·simp only;refine eu (eP ha) ?_;refine bK (Nat.le_of_eq ?_) (kF _ htop);rw[←dn];congr 1;omega
  rintro⟨t,R,Q⟩ ⟨ht,hR,F,lQ,tR,lR,hv,hvlt,hz,O⟩ Q' hQ he hrr;simp only[]at ht hR F lQ tR lR hv hvlt hz O ⊢;by_cases h:(0:Int)≤(t:Int)-1
  ·obtain⟨i,rfl⟩:∃i,t=i+1:=⟨t-1,om⟩;have ti:((i+1:Nat):Int)-1=(i:Int):=om;rw[ti]at h ⊢;obtain⟨n,hn⟩:∃n,n=R.length:=⟨_,rfl⟩;have A:=hz i om;refine aX (ai @h<|ai @lD @uN) ?_;refine aF [] (Nat×List Nat) (fun x=>⟨[(0,.l 1 (D a)),(1,.l 1 (D b)),(6,.ow 1 0 n),(7,.ow 1 1 L),(8,.i .i64 (T:Int)),(9,.i .i64 (i:Int))],
    [(0,some ⟨3,1,D x.2,true,false⟩),(1,some ⟨3,1,D (Q.set i x.1),true,false⟩)],2⟩)
    (fun x=>Lt 65536 x.2∧x.2.length=n∧x.1*65536^i*nv 65536 b+nv 65536 x.2=nv 65536 R∧x.1<65536)
    (fun x=>nv 65536 x.2) (0,R) ⟨hR,hn.symm,sy,by simp only;omega⟩ (by exact oL) (by
    refine tV trivial ?_
    rw[show Q.set i 0=Q from ?_]
    ·repeat' first|rfl|omega|(simp only[bZ,dX,dJ];done)|apply And.intro
    ·refine List.ext_getElem sy fun u h1 h2=>?_
     rw[List.getElem_set];split
     ·rename_i e;subst e;rw[dN,bC h2]at A;exact A.symm
     ·rfl) ?_
   rintro⟨c,U⟩ ⟨m,J,hc,y⟩ Q2 hQ2 he2 hr2;simp only[]at m J hc y ⊢;have hUlt:nv 65536 U<nv 65536 b*65536^(i+1):=om;have hhi:=J7 U b i m hb om om om;have hDU:=fK U;by_cases hh:nv 65536 b≤nv 65536 (U.drop i)
   ·rw[cO hh]at hhi;obtain⟨k1,k2,k3,k4⟩:=dk_law m hb tb b0 hh hUlt;refine pJ (ai @J<|ai @lD @uN) ?_;obtain⟨g,hg⟩:∃g,g=i+b.length-1:=⟨_,rfl⟩;have hgI:(i:Int)+(b.length:Int)-1=(g:Int):=om;rw[←hg]at k2;have hmono:∀j,g≤j→nv 65536 (U.drop j)<4294967296:=fun j M=>by
     refine cZ ?_ k2;rw[←yE dc m,←yE dc m];exact Nat.div_le_div_left (gX dc M) (bg dc)
    refine aF [] Nat (fun j=>⟨[(0,.l 1 (D a)),(1,.l 1 (D b)),(6,.ow 1 0 n),(7,.ow 1 1 L),(8,.i .i64 (T:Int)),(9,.i .i64 (i:Int)),(10,.i .i64 ((nv 65536 (U.drop j):Nat):Int)),(11,.i .i64 ((j:Int)-1))],
     [(0,some ⟨3,1,D U,true,false⟩),(1,some ⟨3,1,D (Q.set i c),true,false⟩)],2⟩)
     (fun j=>g≤j∧j≤n) (fun j=>j) n ⟨om,aY _⟩ (by exact oL) (by
     refine tV trivial ?_
     rw[show U.drop n=[]from List.drop_of_length_le om]
     repeat' first|rfl|omega|(simp only[bZ,dX,dJ];done)|apply And.intro) ?_
    rintro j ⟨hj1,hj2⟩ Q3 G E hr3;try simp only[]at hj1 hj2 ⊢
    by_cases M:(g:Int)≤(j:Int)-1
    ·obtain⟨u,rfl⟩:∃u,j=u+1:=⟨j-1,om⟩;have hju:((u+1:Nat):Int)-1=(u:Int):=om;have hDg:=wW U u om;have hnd:=wZ (b:=65536) U u om;have hm1:=hmono u om;have hgu:(g:Int)≤(u:Int):=om;obtain⟨N1,H⟩:∃N1,N1=nv 65536 (U.drop (u+1)):=⟨_,rfl⟩;have hval:(N1:Int)*65536+((U.getD u 0:Nat):Int)=((nv 65536 (U.drop u):Nat):Int):=by rw[hnd,H];omega
     rw[←H,hju];rw[←H]at hnd;have wv1:IntKind.i64.wrap ((N1:Int)*65536)=(N1:Int)*65536:=wi om;refine aX (ai @wv1<|ai @hval<|ai @hDg<|ai @J<|ai @hDU<|ai @hgu<|ai @hgI<|ai @lD @uN) ?_;refine G _ u ⟨om,om⟩ om ?_;exact lC
    ·obtain rfl:j=g:=om;have hTn:¬(T:Int)=0:=om;obtain⟨kk,C⟩:∃kk,kk=dk U b i:=⟨_,rfl⟩;rw[←C]at k3 k4;have hmx:max (1:Int) ((nv 65536 (U.drop j)/T:Nat):Int)=(kk:Int):=by
      rw[C];unfold dk;rw[←hg,←hT];omega
     have Z:((nv 65536 (U.drop j):Nat):Int).tdiv (T:Int)=((nv 65536 (U.drop j)/T:Nat):Int):=rfl;have wq:IntKind.i64.wrap ((nv 65536 (U.drop j)/T:Nat):Int)=((nv 65536 (U.drop j)/T:Nat):Int):=by
      have h1:=fE (nv 65536 (U.drop j)) T;clear hmx Z;generalize nv 65536 (U.drop j)/T=qq at*
      exact wi om
     have hk1:1≤kk:=by rw[C];unfold dk;omega
     have P:=O0 U b kk i m hb om k3 k1 k4;rw[J]at P;obtain⟨I,hKK⟩:∃I,I=kk*65536^i*nv 65536 b:=⟨_,rfl⟩;rw[←hKK]at P k4;have hKp:0<I:=by rw[hKK];exact Nat.mul_pos (Nat.mul_pos hk1 (bg dc)) hbp
     have hUl:=eP m;rw[J]at hUl;have hnew:nv 65536 (fl 65536 n (nv 65536 U-I))=nv 65536 U-I:=by rw[qj,bD om]
     have hsum:(c+kk)*65536^i*nv 65536 b=c*65536^i*nv 65536 b+I:=by rw[hKK,kQ,kQ]
     have hck:c+kk<65536:=by
      refine Nat.lt_of_not_le fun hge=>?_
      have h1:=kF (nv 65536 b) (kF (65536^i) hge);have h2:65536*65536^i*nv 65536 b=nv 65536 b*65536^(i+1):=by rw[dO,bV (nv 65536 b),bV 65536]
      omega
     have z:(Q.set i c).length=L:=by rw[yZ,lQ]
     have hDq:=wW (Q.set i c) i om;have hDql:=fK (Q.set i c);rw[show(Q.set i c).getD i 0=c from by rw[dN,zB om];rfl]at hDq;have Y:=Ee (Q.set i c) i (c+kk);rw[List.set_set]at Y;have hckI:(c:Int)+(kk:Int)=((c+kk:Nat):Int):=om;have hi0:(0:Int)≤(i:Int):=om;clear hmono;refine aX (ai @M<|ai @hgI<|ai @lD @uN) ?_;refine E _ _ ?_;refine pJ (ai @Y<|ai @hckI<|ai @z<|ai @hDql<|ai @hDq<|ai @J<|ai @hmx<|ai @wq<|ai @Z<|ai @hTn<|ai @lD @uN) ?_;refine hQ2 _ (c+kk,fl 65536 n (nv 65536 U-I)) ⟨oN dc _ _,bH _ _,?_,hck⟩ ?_ ?_
     ·simp only[];rw[hnew,hsum];omega
     ·simp only[];rw[hnew];omega
     ·exact lC
   ·rw[aZ hh]at hhi;have hcu:=Ak U om;have tzl:=r_ U;have z:(Q.set i c).length=L:=by rw[yZ,lQ]
    refine pJ (ai @lD @uN) ?_;refine he2 _ _ ?_;refine pJ (ai @eY<|ai @C9<|ai @lD @uN) ?_;refine aF [] Nat (fun p=>⟨[(0,.l 1 (D a)),(1,.l 1 (D b)),(6,.ow 1 0 ((tz U).length+p)),(7,.ow 1 1 L),(8,.i .i64 (T:Int)),(9,.i .i64 (i:Int))],
     [(0,some ⟨3,1,D (tz U++List.replicate p 0),true,false⟩),(1,some ⟨3,1,D (Q.set i c),true,false⟩)],2⟩)
     (fun p=>p=0∨(tz U).length+p≤i) (fun p=>i-p) 0 (.inl rfl) (by exact oL) (by
     refine tV trivial ?_
     rw[show tz U++List.replicate 0 0=tz U from sy]
     repeat' first|rfl|omega|(simp only[bZ,dX,dJ];done)|apply And.intro) ?_
    rintro p hp Q3 G E hr3;try simp only[]at hp ⊢
    have f:(tz U++List.replicate p 0).length=(tz U).length+p:=sy;have MI:=BJ (tz U++List.replicate p 0) 0;rw[nY,←List.replicate_succ']at MI;have hcl:=fK (tz U++List.replicate p 0);rw[f]at hcl;by_cases hlt:(((tz U).length+p:Nat):Int)<(i:Int)
    ·refine aX (ai @hcl<|ai @MI<|ai @hlt<|ai @lD @uN) ?_;refine G _ (p+1) (.inr om) om ?_;exact lC
    ·have hnR:nv 65536 (tz U++List.replicate p 0)=nv 65536 U:=by rw[yF,yB,kG,ik,wX]
     have hns:=zx (b:=65536) Q i c om;rw[A,kG,ik]at hns;refine aX (ai @hlt<|ai @lD @uN) ?_;refine E _ _ ?_;refine aX (ai @lD @uN) ?_;refine hQ _ (i,tz U++List.replicate p 0,Q.set i c) ⟨by simp only;omega,?_,yC F _ _ y,z,by simp only[f];omega,by simp only[f];omega,?_,?_,fun j M=>?_,fun h0=>?_⟩ (by simp only;omega) ?_
     ·intro x N;rcases nC.1 N with N|N
      ·exact xJ m x N
      ·rw[List.eq_of_mem_replicate N];decide
     ·simp only[];rw[hnR,hns,kQ,bV (65536^i) c];omega
     ·simp only[];rw[hnR];rw[←yE dc m]at hh;have:=(fP (bg dc)).1 (Nat.lt_of_not_le hh);omega
     ·simp only[]at M ⊢;rw[getD_set_ne _ _ _ _ om];exact hz j om
     ·simp only[]at h0 ⊢;obtain rfl:p=0:=om;rw[List.replicate_zero,qF];exact Jh U
     ·first|exact lcQ @f|refine tV @f ?_
      repeat' first|rfl|omega|(simp only[bZ,dX,dJ];done)|apply And.intro
  ·obtain rfl:t=0:=om;rw[Nat.pow_zero,aO]at hvlt;obtain⟨q1,q2⟩:=(Nat.div_mod_unique (a:=nv 65536 a) (b:=nv 65536 b) (c:=nv 65536 R) (d:=nv 65536 Q) hbp).2 ⟨by rw[bV (nv 65536 b)];omega,hvlt⟩;have eQ:fl 65536 L (nv 65536 a/nv 65536 b)=Q:=by rw[q1,←lQ];exact CY F
   have eR:dg 65536 (nv 65536 a%nv 65536 b)=R:=by rw[q2,←EY H2 hR];exact O rfl
   refine aX (ai @h<|ai @lD @uN) ?_;refine he _ _ ?_;refine aX (ai @lD @uN) ?_;exact rP (ai @eR<|ai @eQ<|ai @lD @uN)
def y5:=an @aQ<|an @fK<|an @aW<|an @aO<|an @aI<|an @fZ<|an @mJ<|an @dR<|an @iL<|an @wi<|an @lu<|an @gG @di
theorem quo_fit{v f a:Nat}(j:u<65536^f)(g:65536^(a-1)≤v)(l:0<a):nv 65536 (fl 65536 (f+1-a) (u/v))=u/v:=by
 have c:0<v:=eu (bg dc) g;rw[qj];refine bD ?_;rw[fP c];refine eu j (bK ?_ (iZ _ g));rw[←dn];exact gX dc om
theorem hdivN(u v m:Nat)(j:u<B^m)(g:v<B^m)(hm:m≤10000000000)(h0:v≠0):
 ∃q:List Nat,Lt 65536 q∧nv 65536 q=u/v∧q.length≤4*m+1∧aT 164 [.l 1 (D (dg 65536 u)),.l 1 (D (dg 65536 v))] (.t [.l 1 (D q),.l 1 (D (dg 65536 (u%v)))]):=by
 have c:dg 65536 v≠[]:=fun h=>h0 ((uz H2).1 h)
 have z:=GK j
 have y:=GK g
 have f:=J8 (dg 65536 u) (dg 65536 v) (uK dc _) (uK dc _) (BO _) (BO _) c om om
 rw[qU H2,qU H2]at f
 have ht:=yz (b:=65536) (BO v) c
 rw[qU H2]at ht
 have a:=eP (uK (b:=65536) dc u)
 rw[qU H2]at a
 exact⟨_,oN dc _ _,quo_fit a ht (yD.2 c),by rw[bH];omega,f⟩
theorem xM(a b:List Nat)(j:Wd a)(hb:Wd b)(A:a.length≤1000000000)(y:b.length≤1000000000)(h0:nv B b≠0):aT 136 [.l 1 (W a),.l 1 (W b)] (.t [.l 1 (W (dg B (nv B a/nv B b))),.l 1 (W (dg B (nv B a%nv B b)))]):=by
 have F:=vP a b 63 dc j hb om om;have N:=fF a j om;have M:=fF b hb om;obtain⟨m,J⟩:∃m,m=1000000000:=⟨_,rfl⟩;rw[←J]at A y;have C:=bP j A;have I:=bP hb y;generalize nv B a=u at*
 generalize nv B b=v at*
 have P:B=18446744073709551616:=rfl;obtain⟨q,q1,q2,O,L⟩:=hdivN u v m C I om h0;have n1:=(jI q q1 om).frozen;have f:(dg 65536 (u%v)).length≤4*m:=GK (cZ (Nat.mod_le _ _) C);have n2:=(jI (dg 65536 (u%v)) (uK dc _) om).frozen;rw[q2]at n1;rw[qU H2]at n2;by_cases h:u<9223372036854775808∧v<9223372036854775808
 ·rw[cO (show u<2^63∧v<2^63 from h),bD (by omega:u<B),bD (by omega:v<B)]at F;have T:=fE u v;have Q:=Nat.mod_le u v;have g:=(xK (u/v) om).frozen;have c:=(xK (u%v) om).frozen;have h0I:¬(v:Int)=0:=om;have hq:(u:Int).tdiv (v:Int)=((u/v:Nat):Int):=rfl;have E:(u:Int).tmod (v:Int)=((u%v:Nat):Int):=rfl;have H:IntKind.u64.wrap ((u/v:Nat):Int)=((u/v:Nat):Int):=by
   clear hq g n1 q2;generalize u/v=z at*
   rw[wu om]
  have G:IntKind.u64.wrap ((u%v:Nat):Int)=((u%v:Nat):Int):=by
   clear E c n2 f;generalize u%v=z at*
   rw[wu om]
  clear N M n1 n2 L;refine f_ aN a_ Tryz.func136 ?_;exact jO (ai @G<|ai @H<|ai @E<|ai @hq<|ai @h0I @y5)
 ·rw[aZ (show¬(u<2^63∧v<2^63)from h)]at F;refine f_ aN a_ Tryz.func136 ?_;exact jO @y5
theorem Ue(a b:List Nat)(L:Wd a)(hb:Wd b)(O:a.length≤1000000000)(N:b.length≤1000000000):aT 135 [.l 1 (W a),.l 1 (W b)] (.l 1 (W (dg B (Nat.gcd (nv B a) (nv B b))))):=by
 have P:=vP a b 63 dc L hb om om;have d1:=fF a L om;have d2:=fF b hb om;obtain⟨m,hm⟩:∃m,m=1000000000:=⟨_,rfl⟩;rw[←hm]at O N;have hu:=bP L O;have Z:=bP hb N;generalize nv B a=u at*
 generalize nv B b=v at*
 have hB:B=18446744073709551616:=rfl;by_cases h:u<9223372036854775808∧v<9223372036854775808
 ·rw[cO (show u<2^63∧v<2^63 from h),bD (by omega:u<B),bD (by omega:v<B)]at P;clear d1 d2;refine f_ aN a_ Tryz.func135 ?_;refine pJ @y5 ?_;refine aF [] (Nat×Nat) (fun x=>⟨[(0,.l 1 (W a)),(1,.l 1 (W b)),(5,.i .u64 (x.1:Int)),(6,.i .u64 (x.2:Int)),(7,.b true)],[],0⟩)
   (fun x=>x.1<9223372036854775808∧x.2<9223372036854775808∧Nat.gcd x.1 x.2=Nat.gcd u v) (fun x=>x.2) (u,v) ⟨h.1,h.2,rfl⟩ (by exact oL) (by
   exact lC) ?_
  rintro⟨x,y⟩ ⟨A,g,f⟩ Q' Q I hr;simp only[]at A g f ⊢;by_cases j:y=0
  ·subst j;rw[Nat.gcd_zero_right]at f;have hn:¬(0:Int)<((0:Nat):Int):=dc;have G:=(xK x om).frozen;rw[f]at G;refine aX (ai @hn @y5) ?_;refine I _ _ ?_;rw[f];exact jO @y5
  ·have E:0<y:=C_ j;have hpI:(0:Int)<(y:Int):=om;have h0I:¬(y:Int)=0:=om;have C:(x:Int).tmod (y:Int)=((x%y:Nat):Int):=rfl;have c:=cu x E;have T:IntKind.u64.wrap ((x%y:Nat):Int)=((x%y:Nat):Int):=by
    clear C;generalize x%y=z at*
    rw[wu om]
   refine aX (ai @T<|ai @C<|ai @h0I<|ai @hpI @y5) ?_;refine Q _ (y,x%y) ⟨g,by simp only;omega,?_⟩ c ?_
   ·simp only[];rw[←f,kH x y,Nat.gcd_rec y x,kH]
   ·exact lC
 ·rw[aZ (show¬(u<2^63∧v<2^63)from h)]at P;refine f_ aN a_ Tryz.func135 ?_;refine pJ @y5 ?_;refine aF [] Unit (fun _=>⟨[(0,.l 1 (W a)),(1,.l 1 (W b)),(7,.b false)],[],0⟩) (fun _=>True) (fun _=>0) () trivial (by exact oL) (by
   simp(disch:=(first|omega|assumption)) only[Sl,Sa,Sw,↓reduceIte,Nat.reduceEqDiff,Nat.reduceLT,jH,iI,Nat.reduceBneDiff,Nat.reduceAdd,ku,ne_eq,reduceCtorEq,kP,mZ,jf,jP,bW,bY,and_self,m_];try rfl) ?_
  rintro- -Q' Q I hr;refine aX @y5 ?_;refine I _ _ ?_;refine pJ @y5 ?_;refine aF [] (Nat×Nat) (fun x=>⟨[(8,.l 1 (D (dg 65536 x.1))),(9,.l 1 (D (dg 65536 x.2)))],[],0⟩)
   (fun x=>x.1<B^m∧x.2<B^m∧Nat.gcd x.1 x.2=Nat.gcd u v) (fun x=>x.2) (u,v) ⟨hu,Z,rfl⟩ (by exact oL) (by
   exact lC) ?_
  rintro⟨x,y⟩ ⟨A,g,f⟩ Q2 M H hr2;simp only[]at A g f ⊢;have Y:=GK A;by_cases j:y=0
  ·subst j;rw[Nat.gcd_zero_right]at f;have E:¬(0:Int)<(((dg 65536 0).length:Nat):Int):=by rw[uX];decide
   subst f;have n1:=(jI (dg 65536 (Nat.gcd u v)) (uK dc _) om).frozen;rw[qU H2]at n1;refine aX (ai @E @y5) ?_;refine H _ _ ?_;exact jO @y5
  ·have E:0<y:=C_ j;have F:(0:Int)<(((dg 65536 y).length:Nat):Int):=by
    have:dg 65536 y≠[]:=fun h=>j ((uz H2).1 h)
    have:=yD.2 this;omega
   have c:=cu x E;obtain⟨q,q1,q2,q3,hd⟩:=hdivN x y m A g om j;have U:(dg 65536 (x%y)).length≤4*m:=GK (oh c g);have J:=Ak (dg 65536 (x%y)) om;rw[BO]at J;refine pJ (ai @F @y5) ?_;refine M _ (y,x%y) ⟨g,oh c g,?_⟩ c ?_
   ·simp only[];rw[←f,kH x y,Nat.gcd_rec y x,kH]
   ·exact lC
