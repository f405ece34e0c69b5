import Derived.Test.YtpopphdnlhihdaaGreatDoorU9
set_option linter.all false
set_option maxRecDepth 2000000
set_option maxHeartbeats 10000000
namespace Go.Proofs.YtpopphdnlhihdaaGreatDoor
open Go Go.RowKit Ab
def j_:=an @aQ<|an @fK<|an @aW<|an @aO<|an @aI<|an @fZ<|an @mJ<|an @dR<|an @iL<|an @wi @wW
theorem H2:2≤65536:=dc
theorem B_H(i:Nat):B^i=65536^(4*i):=by rw[Nat.pow_mul];rfl
theorem Ec(a:Nat):(a:Int).tmod 65536=((a%65536:Nat):Int):=rfl
theorem Ed(a:Nat):(a:Int).tdiv 65536=((a/65536:Nat):Int):=rfl
theorem BJ(a:List Nat)(x:Nat):D a++[V.i .i64 (x:Int)]=D (a++[x]):=by simp[D]
theorem Ee(a:List Nat)(i x:Nat):(D a).set i (.i .i64 (x:Int))=D (a.set i x):=by simp[D]
theorem V4(n:Nat):(List.replicate n [V.i .i64 0]).flatten=D (List.replicate n 0):=by
 induction n with
 |zero=>rfl
 |succ n a=>rw[nR,xx,a,nR];rfl
theorem mk_W5(n:Nat):(List.replicate n [V.i .u64 0]).flatten=W (List.replicate n 0):=by
 induction n with
 |zero=>rfl
 |succ n a=>rw[nR,xx,a,nR];rfl
variable{a x y:List Nat}{m:Nat}
theorem uV(c:Wd a):(dg 65536 (nv B a)).length≤4*a.length:=BK H2 (by rw[←B_H];exact eP c)
theorem GK{v:Nat}(h:v<B^m):(dg 65536 v).length≤4*m:=BK H2 (by rw[←B_H];exact h)
theorem Ak(a:List Nat)(u:a.length≤9223372036854775807):aT 160 [.l 1 (D a)] (.l 1 (D (tz a))):=by
 refine f_ aN a_ Tryz.func160 ?_;refine aX @j_ ?_;refine aF [] Nat (fun n=>⟨[(0,.l 1 (D a)),(3,.i .i64 (n:Int))],[],0⟩) (fun n=>n≤a.length∧tz a=tz (a.take n)) (fun n=>n) a.length ⟨om,by rw[iH]⟩ (by exact oL) (by
  simp(disch:=(first|omega|assumption)) only[Sl,Sa,Sw,↓reduceIte,Nat.reduceEqDiff,Nat.reduceLT,jH,iI,Nat.reduceBneDiff,Nat.reduceAdd,ku,ne_eq,reduceCtorEq,kP,mZ,jf,jP,bW,bY,and_self,m_];try rfl) ?_
 intro n ⟨j,ht⟩ y f c g;by_cases h0:0<(n:Int)
 ·obtain⟨m,rfl⟩:∃m,n=m+1:=⟨n-1,om⟩;by_cases h1:((a.getD m 0:Nat):Int)=0
  ·refine aX (ai @CW<|ai @Am<|ai @wi<|ai @wW<|ai @h1<|ai @h0 @j_) ?_;refine f _ m ⟨om,?_⟩ om ?_
   ·rw[ht];exact Ap a m om om
   ·refine tV trivial ?_;omega
  ·refine aX (ai @CW<|ai @Am<|ai @wi<|ai @wW<|ai @h1<|ai @h0 @j_) ?_;refine c _ _ ?_;refine aX (ai @V5 @j_) ?_;have e:=FX a;rw[ht,OW a m om om]at e;refine BL @j_ ?_;rw[e,ht]
 ·refine aX (ai @h0 @j_) ?_;refine c _ _ ?_;obtain rfl:n=0:=om;refine aX (ai @V5 @j_) ?_;refine BL (ai @ht @j_) ?_;rfl
theorem JY(a:List Nat)(j:Wd a)(E:a.length≤100000000000):aT 169 [.l 1 (W a)] (.l 1 (D (fl 65536 (4*a.length) (nv B a)))):=by
 refine f_ aN a_ Tryz.func169 ?_;refine aX @j_ ?_;refine aF [(3,3,1)] Nat (fun i=>⟨[(0,.l 1 (W a)),(3,.ow 1 0 (4*i)),(4,.i .i64 (i:Int))],[(0,some ⟨3,1,D (fl 65536 (4*i) (nv B (a.take i))),true,false⟩)],1⟩)
  (fun i=>i≤a.length) (fun i=>a.length-i) 0 (aG _) (by exact oL) (by
  refine tV trivial ?_
  exact⟨rfl,rfl⟩) ?_
 intro i H I A z F;by_cases h:(i:Int)<a.length
 ·refine aX (ai @dH<|ai @h @j_) ?_;refine aF [] Nat (fun k=>⟨[(0,.l 1 (W a)),(3,.ow 1 0 (4*i+k)),(4,.i .i64 (i:Int)),(5,.i .u64 ((a.getD i 0/65536^k:Nat):Int)),(6,.i .i64 (k:Int))],[(0,some ⟨3,1,D (fl 65536 (4*i) (nv B (a.take i))++fl 65536 k (a.getD i 0)),true,false⟩)],1⟩)
   (fun k=>k≤4) (fun k=>4-k) 0 (aG _) (by exact oL) (by
   refine tV trivial ?_
   exact⟨⟨rfl,sy,rfl⟩,by simp[fl]⟩) ?_
  intro k G C g f y;by_cases h1:(k:Int)<4
  ·have hq:a.getD i 0/65536^k<18446744073709551616:=cZ (fE _ _) (fV j i);have m:IntKind.u64.wrap ((a.getD i 0/65536^k/65536:Nat):Int)=((a.getD i 0/65536^k/65536:Nat):Int):=by
    generalize a.getD i 0/65536^k=q at hq ⊢;exact wu om
   refine aX (ai @BJ<|ai @m<|ai @wi<|ai @Ed<|ai @Ec<|ai @h1 @j_) ?_;refine g _ (k+1) om om ?_;refine tV trivial ?_;exact⟨⟨om,by rw[lZ,←dO],rfl⟩,by rw[iY,nY]⟩
  ·obtain rfl:k=4:=om;refine aX (ai @h1 @j_) ?_;refine f _ _ ?_;refine aX (ai @wi @j_) ?_;refine A _ (i+1) om om ?_;refine tV trivial ?_;refine⟨⟨om,rfl⟩,?_⟩;rw[show 4*(i+1)=4*i+4 from om,GL,az,B_H];have c:=dD (b:=B) dc j i;rw[B_H]at c;rw[oP _ _ (bg dc),jQ c,eY,jg (b:=65536) dc (n:=4*i) (v:=nv B (a.take i)+65536^(4*i)*a.getD i 0) (u:=nv B (a.take i)) (by rw[uy])]
 ·obtain rfl:i=a.length:=om;refine aX (ai @h @j_) ?_;refine z _ _ ?_;refine aX @j_ ?_;refine BL @j_ ?_;rw[iH]
theorem fF(a:List Nat)(c:Wd a)(f:a.length≤100000000000):aT 140 [.l 1 (W a)] (.l 1 (D (dg 65536 (nv B a)))):=by
 have j:=JY a c f;have g:=Ak (fl 65536 (4*a.length) (nv B a)) (by rw[bH];omega);rw[xI H2 (by rw[←B_H];exact eP c)]at g;refine f_ aN a_ Tryz.func140 ?_;exact jO @j_
theorem jh(a:List Nat)(i:Nat):aT 172 [.l 1 (D a),.i .i64 i] (.i .i64 ((a.getD i 0:Nat):Int)):=by
 refine f_ aN a_ Tryz.func172 ?_;by_cases h:(i:Int)<a.length
 ·refine aX (ai @wW<|ai @h @j_) ?_;exact rP @j_
 ·refine aX (ai @h @j_) ?_;refine BL (ai @m_ @j_) ?_;rw[dN,ng om];rfl
theorem Jg(a b:List Nat)(E:Lt 65536 a)(hb:Lt 65536 b)(O:a.length≤1099511627776)(N:b.length≤1099511627776):
 aT 146 [.l 1 (D a),.l 1 (D b)] (.i .i64 (sg (nv 65536 a) (nv 65536 b))):=by
 have A:=jh a
 have u:=jh b
 obtain⟨z,hz⟩:∃z,z=sg (nv 65536 a) (nv 65536 b):=⟨_,rfl⟩
 rw[←hz]
 refine f_ aN a_ Tryz.func146 ?_
 generalize H:max a.length b.length=m
 refine aX (ai @wi<|ai @H<|ai @mx @j_) ?_
 refine aF [] Nat (fun i=>⟨[(0,.l 1 (D a)),(1,.l 1 (D b)),(5,.i .i64 ((i:Int)-1))],[],0⟩)
  (fun i=>i≤m∧∀j,i≤j→a.getD j 0=b.getD j 0) (fun i=>i) m ⟨aY _,fun j c=>by rw[dN,dN,ng om,ng om]⟩ (by exact oL) (by
  simp(disch:=(first|omega|assumption)) only[Sl,Sa,Sw,↓reduceIte,Nat.reduceEqDiff,Nat.reduceLT,jH,iI,Nat.reduceBneDiff,Nat.reduceAdd,ku,ne_eq,reduceCtorEq,kP,mZ,jf,jP,bW,bY,and_self,m_]
  try rfl) ?_
 intro i ⟨P,c⟩ Y J I C
 by_cases h:(0:Int)≤(i:Int)-1
 ·obtain⟨n,rfl⟩:∃n,i=n+1:=⟨i-1,om⟩;have e:((n+1:Nat):Int)-1=(n:Int):=om;have h:(0:Int)≤(n:Int):=om;simp only[e];have U:=A n;have T:=u n;obtain⟨c1,c2⟩:=zt (B:=65536) (n+1) c;rcases Nat.lt_trichotomy (a.getD n 0) (b.getD n 0)with k|k|k
  ·have c3:=c1.1 (JZ (b:=65536) dc E hb n k);obtain rfl:z= -1:=by rw[hz];simp[sg,c3]
   generalize a.getD n 0=x at*
   generalize b.getD n 0=y at*
   have f:(x:Int)<(y:Int):=om;refine pJ (ai @f<|ai @h @j_) ?_;refine C _ ?_;exact rP @j_
  ·have g:∀j,n≤j→a.getD j 0=b.getD j 0:=fun j Q=>by
    rcases dW n j with F|F
    ·exact c j F
    ·obtain rfl:j=n:=om;exact k
   generalize a.getD n 0=x at*
   generalize b.getD n 0=y at*
   subst k;refine pJ (ai @Int.lt_irrefl<|ai @h @j_) ?_;refine J _ n ⟨om,g⟩ om ?_;simp(disch:=(first|omega|assumption)) only[Sl,Sa,Sw,↓reduceIte,Nat.reduceEqDiff,Nat.reduceLT,jH,iI,Nat.reduceBneDiff,Nat.reduceAdd,ku,ne_eq,reduceCtorEq,kP,mZ,jf,jP,bW,bY,and_self,m_];try omega
  ·have c3:=JZ (b:=65536) dc hb E n k;have M:¬nv 65536 a<nv 65536 b:=fun h=>by have:=c1.2 h;omega
   have L:¬nv 65536 a=nv 65536 b:=fun h=>by have:=c2.2 h;omega
   obtain rfl:z=1:=by rw[hz];simp[sg,M,L]
   generalize a.getD n 0=x at*
   generalize b.getD n 0=y at*
   have f:¬(x:Int)<(y:Int):=om;have G:(y:Int)<(x:Int):=om;refine pJ (ai @G<|ai @f<|ai @h @j_) ?_;refine C _ ?_;exact rP @j_
 ·obtain rfl:i=0:=om;have c2:=(zt (B:=65536) 0 c).2.1 rfl;obtain rfl:z=0:=by rw[hz];simp[sg,c2]
  refine aX (ai @h @j_) ?_;refine I _ _ ?_;refine aX @j_ ?_;exact rP @j_
def jb:=an @aQ<|an @fK<|an @aW<|an @aO<|an @aI<|an @fZ<|an @mJ<|an @dR<|an @iL<|an @wi @wW
theorem get_mid(l r:List Nat)(x n:Nat)(h:l.length=n):(l++x::r).getD n 0=x:=by
 rw[dN,rY om,h,gW];rfl
theorem set_mid(l r:List Nat)(x y n:Nat)(h:l.length=n):(l++x::r).set n y=l++y::r:=by
 rw[nZ _ _ om,h,gW,List.set_cons_zero]
theorem Me(d:List Nat)(n:Nat)(hd:Lt 65536 d)(ld:d.length≤1099511627776)(ln:n≤100000000000):
 aT 161 [.l 1 (D d),.i .i64 (n:Int)] (.o 49 1 (W (fl B n (nv 65536 d)))):=by
 have E:=jh d
 have A:(0:Int)≤(n:Int):=om
 obtain⟨v,J⟩:∃v,v=nv 65536 d:=⟨_,rfl⟩
 rw[←J]
 refine f_ aN a_ Tryz.func161 ?_
 refine aX (ai @mk_W5<|ai @A @jb) ?_
 refine aF [] Nat (fun i=>⟨[(0,.l 1 (D d)),(1,.i .i64 (n:Int)),(5,.ow 1 0 n),(6,.i .i64 (i:Int))],[(0,some ⟨49,1,W (fl B i v++List.replicate (n-i) 0),true,false⟩)],1⟩)
  (fun i=>i≤n) (fun i=>n-i) 0 (aG _) (by exact oL) (by
  exact lC) ?_
 intro i hi Q' T Q hr
 by_cases h:(i:Int)<(n:Int)
 ·obtain⟨w,u⟩:∃w,w=v/B^i%B:=⟨_,rfl⟩;have g:w<18446744073709551616:=by rw[u];exact cu _ B0
  obtain⟨r,a⟩:∃r,r=List.replicate (n-(i+1)) 0:=⟨_,rfl⟩;have z:r.length=n-(i+1):=by rw[a,nS]
  have c:(fl B i v).length=i:=bH _ _;have U:List.replicate (n-i) 0=0::r:=by rw[a,show n-i=(n-(i+1))+1 from om,nR]
  refine aX (ai @h @jb) ?_;refine aF [] Nat (fun k=>⟨[(0,.l 1 (D d)),(1,.i .i64 (n:Int)),(5,.ow 1 0 n),(6,.i .i64 (i:Int)),(7,.i .i64 ((k:Int)-1))],[(0,some ⟨49,1,W (fl B i v++(w/65536^k)::r),true,false⟩)],1⟩)
   (fun k=>k≤4) (fun k=>k) 4 om (by exact oL) (by
   refine tV trivial ?_
   rw[U,jQ g]
   repeat' first|rfl|omega|(simp only[bZ,dX,dJ];done)|apply And.intro) ?_
  intro k hk Z F C P;have lenk:∀x,(fl B i v++x::r).length=n:=fun x=>by rw[bZ,c,dX,z];omega
  by_cases G:(0:Int)≤(k:Int)-1
  ·obtain⟨m,rfl⟩:∃m,k=m+1:=⟨k-1,om⟩;have e:((m+1:Nat):Int)-1=(m:Int):=om;have G:(0:Int)≤(m:Int):=om;have H:d.getD (4*i+m) 0=w/65536^m%65536:=by
    rw[qP (b:=65536) dc hd,u,←J,dn,←lZ,←B_H];rw[show B=65536^m*65536^(4-m)from by rw[←dn,show m+(4-m)=4 from om];rfl,Nat.mod_mul_right_div_self];rw[show 65536^(4-m)=65536*65536^(3-m)from by rw[bV,←dO];congr 1;omega,Nat.mod_mul_right_mod]
   have O:w/65536^m<18446744073709551616:=cZ (fE _ _) g;have j:=E (4*i+m);rw[H]at j;have Y:(4:Int)*(i:Int)+(m:Int)=((4*i+m:Nat):Int):=om;have N:IntKind.i64.wrap (4*(i:Int))=4*(i:Int):=wi om;have L:=get_mid (fl B i v) r (w/65536^(m+1)) i c;have I:=fun y=>set_mid (fl B i v) r (w/65536^(m+1)) y i c
   have lk:=lenk (w/65536^(m+1));have ex:w/65536^(m+1)=w/65536^m/65536:=by rw[dO,lZ]
   obtain⟨x,f⟩:∃x,x=w/65536^m:=⟨_,rfl⟩;rw[←f]at j O ex;rw[ex]at L I lk ⊢;simp only[e];have wd:IntKind.u64.wrap ((x%65536:Nat):Int)=((x%65536:Nat):Int):=wu om;have M:IntKind.u64.wrap (((x/65536:Nat):Int)*65536)=((x/65536:Nat):Int)*65536:=wu om;have ws:IntKind.u64.wrap (((x/65536:Nat):Int)*65536+((x%65536:Nat):Int))=(x:Int):=by rw[wu om];omega
   repeat first|(refine hK _ ?_;clear hK K)|simp only[Sv,↓reduceIte,Nat.reduceEqDiff]|((first|refine ay (fun K hK=>?_)|refine ax (fun K hK=>?_)|refine ak (fun K hK=>?_)|refine fM ?_|refine dE (by assumption) ?_|refine fO ?_|(apply dF;assumption)|(apply dG;assumption));simp(disch:=(first|omega|assumption)) only[S1,seval,-Int.reduceToNat,-List.reduceReplicate,aK.sb,aK.mut,aU,↓aJ,aV,aC,jb,G,dH,L,lk,N,Y,wd,M,ws,ny,I])
   refine F _ m om om ?_;simp(disch:=(first|omega|assumption)) only[Sl,Sa,Sw,↓reduceIte,Nat.reduceEqDiff,Nat.reduceLT,jH,iI,Nat.reduceBneDiff,Nat.reduceAdd,ku,ne_eq,reduceCtorEq,kP,mZ,jf,jP,bW,bY,and_self,m_];try rw[f]
   repeat' first|rfl|omega|(simp only[bZ,dX,dJ];done)|apply And.intro
  ·obtain rfl:k=0:=om;refine aX (ai @G @jb) ?_;refine C _ _ ?_;refine aX @jb ?_;refine T _ (i+1) om om ?_;refine tV trivial ?_;rw[iY,←u,nY];refine⟨om,?_⟩;(first|rw[Nat.pow_zero,aW,a]|rw[a]);rfl
 ·obtain rfl:i=n:=om;refine aX (ai @h @jb) ?_;refine Q _ _ ?_;refine aX @jb ?_;refine BL @jb ?_;rw[gW];simp
theorem V6{d:List Nat}(hd:Lt 65536 d):fl B (((tz d).length+3)/4) (nv 65536 d)=dg B (nv 65536 d):=by
 have g:nv 65536 (tz d)=nv 65536 d:=wX d;have ht:=Jh d;have hl:=xJ hd;have f:=eP hl;rw[g]at f;generalize tz d=t at*
 generalize c:(t.length+3)/4=i;refine CX B2 ?_ ?_
 ·rcases kz i with h|h
  ·exact .inl h
  ·refine .inr ?_;have j:t≠[]:=fun a=>by rw[a]at c;simp at c;omega
   have a:=yz (b:=65536) ht j;rw[g]at a;rw[B_H];exact bK (gX dc om) a
 ·rw[B_H];exact eu f (gX dc om)
theorem jI(d:List Nat)(hd:Lt 65536 d)(ld:d.length≤100000000000):aT 130 [.l 1 (D d)] (.o 49 1 (W (dg B (nv 65536 d)))):=by
 have f:=Ak d om;have hl:=r_ d;have c:=Me (tz d) (((tz d).length+3)/4) (xJ hd) om om;rw[wX,V6 hd]at c;have e1:(((tz d).length:Int)+3).tdiv 4=((((tz d).length+3)/4:Nat):Int):=by
  rw[show((tz d).length:Int)+3=(((tz d).length+3:Nat):Int)from rfl];rfl
 have a:IntKind.i64.wrap ((((tz d).length+3)/4:Nat):Int)=((((tz d).length+3)/4:Nat):Int):=wi om;generalize tz d=t at*
 refine f_ aN a_ Tryz.func130 ?_;repeat first|(refine hK _ ?_;clear hK K)|simp only[Sv,↓reduceIte,Nat.reduceEqDiff]|((first|refine ay (fun K hK=>?_)|refine ax (fun K hK=>?_)|refine ak (fun K hK=>?_)|refine fM ?_|refine dE (by assumption) ?_|refine fO ?_|(apply dF;assumption)|(apply dG;assumption));simp(disch:=(first|omega|assumption)) only[S1,seval,-Int.reduceToNat,-List.reduceReplicate,aK.sb,aK.mut,aU,↓aJ,aV,aC,jb,e1,a])
 simp(disch:=(first|omega|assumption)) only[dY,iF,iK,jv,fA,V.aP,bW,bY,S1,seval,-Int.reduceToNat,-List.reduceReplicate,aK.sb,aK.mut,aU,↓aJ,aV,aC,jb,e1,a]
theorem yA(a:List Nat)(c:Wd a)(g:a.length≤10000000000):aT 106 [.l 1 (W a)] (.o 49 1 (W (dg B (nv B a)))):=by
 have j:=fF a c om;have hl:=uV c;have f:=jI (dg 65536 (nv B a)) (uK dc _) om;rw[qU H2]at f;refine f_ aN a_ Tryz.func106 ?_;exact jO @jb
theorem dgH_z{v:Nat}:((((dg 65536 v).length:Nat):Int)=0)=(v=0):=propext ⟨fun h=>(uz H2).1 (nz om),fun h=>by rw[h];rfl⟩
theorem n_(a:List Nat)(c:Wd a)(f:a.length≤10000000000):aT 88 [.l 1 (W a)] (.b (decide (nv B a=0))):=by
 have g:=fF a c om;refine f_ aN a_ Tryz.func88 ?_;exact jO (ai @dgH_z @jb)
theorem kW(n:Nat)(z:n<9223372036854775808):aT 76 [.i .i64 (n:Int)] (.o 49 1 (W (dg B n))):=by
 obtain⟨a,y⟩:∃a,a=n/65536:=⟨_,rfl⟩;obtain⟨b,hb⟩:∃b,b=a/65536:=⟨_,rfl⟩;obtain⟨c,u⟩:∃c,c=b/65536:=⟨_,rfl⟩;have f:=jI [n%65536,a%65536,b%65536,c] (by
  intro x m;simp only[dZ,og,or_false]at m;omega) sy
 rw[show nv 65536 [n%65536,a%65536,b%65536,c]=n from by simp only[nv];omega]at f;have e:D [n%65536,a%65536,b%65536,c]=[.i .i64 ((n%65536:Nat):Int),.i .i64 ((a%65536:Nat):Int),.i .i64 ((b%65536:Nat):Int),.i .i64 (c:Int)]:=rfl;have l:IntKind.i64.wrap (((n/65536:Nat)):Int)=(a:Int):=by rw[←y];exact wi om
 have j:IntKind.i64.wrap (((a/65536:Nat)):Int)=(b:Int):=by rw[←hb];exact wi om
 have g:IntKind.i64.wrap (((b/65536:Nat)):Int)=(c:Int):=by rw[←u];exact wi om
 rw[e]at f;refine f_ aN a_ Tryz.func76 ?_;exact jO (ai @g<|ai @j<|ai @l<|ai @Ed<|ai @Ec @jb)
theorem BM(a b:List Nat)(c:Wd a)(hb:Wd b)(u:a.length≤10000000000)(m:b.length≤10000000000):aT 107 [.l 1 (W a),.l 1 (W b)] (.i .i64 (sg (nv B a) (nv B b))):=by
 have z:=fF a c om;have y:=fF b hb om;have g:=uV c;have f:=uV hb;have j:=Jg (dg 65536 (nv B a)) (dg 65536 (nv B b)) (uK dc _) (uK dc _) om om;rw[qU H2,qU H2]at j;refine f_ aN a_ Tryz.func107 ?_;exact jO @jb
theorem xK(w:Nat)(a:w<18446744073709551616):aT 144 [.i .u64 (w:Int)] (.o 49 1 (W (dg B w))):=by
 rcases kz w with h|h
 ·subst h;rw[uX];refine f_ aN a_ Tryz.func144 ?_;refine aX @jb ?_;exact rP @jb
 ·rw[dg_one h a];have c:¬(w:Int)=0:=om;refine f_ aN a_ Tryz.func144 ?_;refine aX (ai @c @jb) ?_;exact rP (ai @W1 @jb)
theorem one_val(g:Wd a)(h:tz a=tz (a.take (m+1)))(hm:m<a.length)(h1:a.getD m 0≠0):
 a.getD 0 0=nv B a%B∧(decide (((m+1:Nat):Int)=1))=decide (nv B a<18446744073709551616):=by
 have u:=qP (b:=B) dc g 0
 rw[Nat.pow_zero,aW]at u
 refine⟨u,?_⟩
 have e:nv B a=nv B (a.take (m+1)):=by rw[←wX,h,wX]
 have ht:tz (a.take (m+1))=a.take (m+1):=by
  have A:=OW a m hm h1;have l:=FX (a.take (m+1));rw[A,List.take_take,Nat.min_self]at l;exact l.symm
 have c:a.take (m+1)≠[]:=fun h=>by have:=congrArg List.length h;rw[jo,dJ]at this;omega
 have z:=yz (b:=B) ht c
 rw[jo,pR om,CW,←e]at z
 have j:=dD (b:=B) dc g (m+1)
 rw[←e]at j
 rcases kz m with f|f
 ·subst f;rw[cO om,cO];exact j
 ·rw[aZ om,aZ];have y:B^1≤B^m:=gX dc f;rw[Nat.pow_one]at y;have:B=18446744073709551616:=rfl;omega
theorem Ji(a:List Nat)(A:Wd a)(F:a.length≤10000000000):aT 171 [.l 1 (W a)] (.t [.i .u64 ((nv B a%B:Nat):Int),.b (decide (nv B a<18446744073709551616))]):=by
 obtain⟨x,f⟩:∃x,x=nv B a%B:=⟨_,rfl⟩;obtain⟨y,c⟩:∃y,y=decide (nv B a<18446744073709551616):=⟨_,rfl⟩;rw[←f,←c];refine f_ aN a_ Tryz.func171 ?_;refine aX @jb ?_;refine aF [] Nat (fun n=>⟨[(0,.l 1 (W a)),(4,.i .i64 (n:Int))],[],0⟩) (fun n=>n≤a.length∧tz a=tz (a.take n)) (fun n=>n) a.length ⟨om,by rw[iH]⟩ (by exact oL) (by
  simp(disch:=(first|omega|assumption)) only[Sl,Sa,Sw,↓reduceIte,Nat.reduceEqDiff,Nat.reduceLT,jH,iI,Nat.reduceBneDiff,Nat.reduceAdd,ku,ne_eq,reduceCtorEq,kP,mZ,jf,jP,bW,bY,and_self,m_];try rfl) ?_
 intro n ⟨H,ht⟩ I C u G;by_cases h0:0<(n:Int)
 ·obtain⟨m,rfl⟩:∃m,n=m+1:=⟨n-1,om⟩;have g:m<a.length:=om;by_cases E:a.getD m 0=0
  ·have h1I:((a.getD m 0:Nat):Int)=0:=om;refine aX (ai @CW<|ai @Am<|ai @wi<|ai @dH<|ai @h1I<|ai @h0 @jb) ?_;refine C _ m ⟨om,?_⟩ om ?_
   ·rw[ht];exact Ap a m om om
   ·refine tV trivial ?_;omega
  ·have h1I:¬((a.getD m 0:Nat):Int)=0:=om;obtain⟨j,o2⟩:=one_val A ht g E;rw[←f]at j;rw[←c]at o2;have z:¬((m+1:Nat):Int)=0:=om;refine aX (ai @CW<|ai @Am<|ai @wi<|ai @dH<|ai @h1I<|ai @h0 @jb) ?_;refine u _ _ ?_;refine aX (ai @o2<|ai @j<|ai @dH<|ai @Int.toNat_zero<|ai @z @jb) ?_;exact rP @jb
 ·obtain rfl:n=0:=om;have e0:nv B a=0:=by rw[←wX,ht];rfl
  rw[e0]at f c;obtain rfl:x=0:=f;obtain rfl:y=true:=c;refine aX (ai @h0 @jb) ?_;refine u _ _ ?_;refine aX @jb ?_;exact rP @jb
theorem V7(x m:Nat):((((x/2^m:Nat)):Int)=0)=(x<2^m):=propext ⟨fun h=>by
 rcases dW x (2^m)with a|a
 ·exact a
 ·have:=(rZ (bg (by decide:0<2))).2 (by rw[iV];exact a:1*2^m≤x);omega,fun h=>by rw[jQ h];rfl⟩
theorem vP(a b:List Nat)(m:Nat)(hm:m≤64)(C:Wd a)(hb:Wd b)(A:a.length≤10000000000)(z:b.length≤10000000000):
 aT 143 [.l 1 (W a),.l 1 (W b),.i .i64 (m:Int)] (.t [.i .u64 ((nv B a%B:Nat):Int),.i .u64 ((nv B b%B:Nat):Int),.b (decide (nv B a<2^m∧nv B b<2^m))]):=by
 have y:=Ji a C A
 have j:=Ji b hb z
 have E:2^m≤18446744073709551616:=by have:2^m≤2^64:=gX dc hm;omega
 have F:B=18446744073709551616:=rfl
 have f:=fun x=>qV x m hm
 have sz:=fun x=>V7 x m
 have g:(0:Int)≤(m:Int):=om
 generalize nv B a=u at*
 generalize nv B b=v at*
 generalize 2^m=P at*
 by_cases c1:u<18446744073709551616
 ·rw[cO c1]at y;rw[bD (by omega:u<B)]at y ⊢;by_cases c2:v<18446744073709551616
  ·rw[cO c2]at j;rw[bD (by omega:v<B)]at j ⊢;by_cases c3:u<P
   ·by_cases c:v<P
    ·rw[cO ⟨c3,c⟩];refine f_ aN a_ Tryz.func143 ?_;refine pJ (ai @c<|ai @c3<|ai @sz<|ai @f<|ai @aI<|ai @g @jb) ?_;exact rP @jb
    ·rw[aZ (fun h=>c h.2)];refine f_ aN a_ Tryz.func143 ?_;refine pJ (ai @c<|ai @c3<|ai @sz<|ai @f<|ai @aI<|ai @g @jb) ?_;exact rP @jb
   ·rw[aZ (fun h=>c3 h.1)];refine f_ aN a_ Tryz.func143 ?_;refine pJ (ai @c3<|ai @sz<|ai @f<|ai @aI<|ai @g @jb) ?_;exact rP @jb
  ·rw[aZ c2]at j;rw[aZ (fun h=>c2 om)];refine f_ aN a_ Tryz.func143 ?_;refine pJ @jb ?_;exact rP @jb
 ·rw[aZ c1]at y;rw[aZ (fun h=>c1 om)];refine f_ aN a_ Tryz.func143 ?_;refine pJ @jb ?_;exact rP @jb
def jR:=an @aQ<|an @fK<|an @aW<|an @aO<|an @aI<|an @fZ<|an @mJ<|an @dR<|an @iL<|an @wi @wW
def J4(x y:List Nat):Nat:=if(nv 65536 x+nv 65536 y)/65536^(max x.length y.length)=0 then max x.length y.length else max x.length y.length+1
theorem OX(x y:List Nat)(u:Lt 65536 x)(j:Lt 65536 y)(U:x.length≤1000000000000)(T:y.length≤1000000000000):
 aT 147 [.l 1 (D x),.l 1 (D y)] (.o 3 1 (D (fl 65536 (J4 x y) (nv 65536 x+nv 65536 y)))):=by
 refine f_ aN a_ Tryz.func147 ?_
 generalize O:max x.length y.length=m
 have F:J4 x y=if(nv 65536 x+nv 65536 y)/65536^m=0 then m else m+1:=by unfold J4;rw[O]
 refine aX @jR ?_
 refine aF [(5,3,1)] Nat (fun i=>⟨[(0,.l 1 (D x)),(1,.l 1 (D y)),(5,.ow 1 0 i),(6,.i .i64 (((nv 65536 (x.take i)+nv 65536 (y.take i))/65536^i:Nat):Int)),(7,.i .i64 (i:Int))],[(0,some ⟨3,1,D (fl 65536 i (nv 65536 (x.take i)+nv 65536 (y.take i))),true,false⟩)],1⟩)
  (fun i=>i≤m+1∧(i=m+1→(nv 65536 x+nv 65536 y)/65536^m≠0)) (fun i=>m+1-i) 0 ⟨om,om⟩ (by exact oL) (by
  refine tV trivial ?_
  exact⟨⟨by simp[nv],rfl⟩,rfl⟩) ?_
 intro i ⟨hi,C⟩ Q' G Q Z
 generalize E:(nv 65536 (x.take i)+nv 65536 (y.take i))/65536^i=c
 have hcB:c≤1:=by
  have a:=dD (b:=65536) dc u i;have f:=dD (b:=65536) dc j i;rw[←E];exact Nat.le_of_lt_succ ((fP (bg dc)).2 om)
 have gx:=uA u (by decide:0<65536) i
 have gy:=uA j (by decide:0<65536) i
 obtain⟨n,N⟩:∃n,n=x.getD i 0+y.getD i 0+c:=⟨_,rfl⟩
 have z:(c:Int)+(((x.getD i 0:Nat):Int)+((y.getD i 0:Nat):Int))=(n:Int):=om
 obtain⟨s1,s2,g⟩:=zu (b:=65536) (P:=65536^i) (A:=nv 65536 (x.take i)) (Y:=nv 65536 (y.take i)) (x:=x.getD i 0) (y:=y.getD i 0) (bg dc) dc
 rw[E,←N]at s1 g
 have full:m≤i→c=(nv 65536 x+nv 65536 y)/65536^i:=fun h=>by
  rw[←E,jB om,jB om]
 have small:nv 65536 x+nv 65536 y<65536^(m+1):=by
  have a:=eP u;have f:=eP j;have J:65536^x.length≤65536^m:=gX dc om;have L:65536^y.length≤65536^m:=gX dc om;rw[dO];omega
 by_cases a:(i:Int)<x.length
 ·refine aX (ai @a @jR) ?_;try simp only[Sv,↓reduceIte,Nat.reduceEqDiff]
  refine ay (fun K hK=>?_);refine iw @jR ?_;refine yw @jR (jh x i) ?_;refine iw @jR ?_;refine yw @jR (jh y i) ?_;refine iw (ai @z<|ai @wi @jR) ?_;refine hK _ ?_;clear hK K;try (refine hK _ ?_;clear hK K)
  refine aX (ai @BJ<|ai @wi<|ai @Ed<|ai @Ec @jR) ?_;refine G _ (i+1) ⟨om,om⟩ om ?_;refine tV trivial ?_;refine⟨⟨?_,om⟩,?_⟩
  ·rw[az,az,dO,g]
  ·rw[az,az,iY,jg dc s2,s1]
 ·by_cases f:(i:Int)<y.length
  ·try (refine hK _ ?_;clear hK K)
   refine aX (ai @f<|ai @a @jR) ?_;try simp only[Sv,↓reduceIte,Nat.reduceEqDiff]
   refine ay (fun K hK=>?_);refine iw @jR ?_;refine yw @jR (jh x i) ?_;refine iw @jR ?_;refine yw @jR (jh y i) ?_;refine iw (ai @z<|ai @wi @jR) ?_;refine hK _ ?_;clear hK K;try (refine hK _ ?_;clear hK K)
   refine aX (ai @BJ<|ai @wi<|ai @Ed<|ai @Ec @jR) ?_;refine G _ (i+1) ⟨om,om⟩ om ?_;refine tV trivial ?_;refine⟨⟨?_,om⟩,?_⟩
   ·rw[az,az,dO,g]
   ·rw[az,az,iY,jg dc s2,s1]
  ·by_cases J:(0:Int)<c
   ·have M:i≠m+1:=fun h=>by
     have:=full om;rw[h,jQ small]at this;omega
    try (refine hK _ ?_;clear hK K)
    refine aX (ai @J<|ai @f<|ai @a @jR) ?_;try simp only[Sv,↓reduceIte,Nat.reduceEqDiff]
    refine ay (fun K hK=>?_);refine iw @jR ?_;refine yw @jR (jh x i) ?_;refine iw @jR ?_;refine yw @jR (jh y i) ?_;refine iw (ai @z<|ai @wi @jR) ?_;refine hK _ ?_;clear hK K;try (refine hK _ ?_;clear hK K)
    refine aX (ai @BJ<|ai @wi<|ai @Ed<|ai @Ec @jR) ?_;refine G _ (i+1) ⟨om,fun h=>by have:=full om;rw[show m=i from om,←this];omega⟩ om ?_;refine tV trivial ?_;refine⟨⟨?_,om⟩,?_⟩
    ·rw[az,az,dO,g]
    ·rw[az,az,iY,jg dc s2,s1]
   ·try (refine hK _ ?_;clear hK K)
    refine aX (ai @J<|ai @f<|ai @a @jR) ?_;refine Q _ _ ?_;try (refine hK _ ?_;clear hK K)
    refine aX @jR ?_;have e:fl 65536 i (nv 65536 (x.take i)+nv 65536 (y.take i))=fl 65536 (J4 x y) (nv 65536 x+nv 65536 y):=by
     rw[jB om,jB om,F];have L:=full om;congr 1;split
     ·rename_i I;rcases dW m i with H|H
      ·exact absurd I (C om)
      ·omega
     ·rename_i I;rcases dW m i with H|H
      ·omega
      ·exfalso;apply I;rw[show m=i from om,←L];omega
    exact rP (ai @e @jR)
theorem MB(x y:List Nat)(u:Lt 65536 x)(m:Lt 65536 y)(I:x.length≤1000000000000):
 aT 185 [.l 1 (D x),.l 1 (D y)] (.o 3 1 (D (fl 65536 x.length (nv 65536 x+65536^x.length-nv 65536 (y.take x.length))))):=by
 refine f_ aN a_ Tryz.func185 ?_
 refine aX @jR ?_
 refine aF [(5,3,1)] Nat (fun i=>⟨[(0,.l 1 (D x)),(1,.l 1 (D y)),(5,.ow 1 0 i),(6,.i .i64 ((if nv 65536 (x.take i)<nv 65536 (y.take i)then 1 else 0:Nat):Int)),(7,.i .i64 (i:Int))],[(0,some ⟨3,1,D (fl 65536 i (nv 65536 (x.take i)+65536^i-nv 65536 (y.take i))),true,false⟩)],1⟩)
  (fun i=>i≤x.length) (fun i=>x.length-i) 0 om (by exact oL) (by
  refine tV trivial ?_
  exact⟨⟨by simp[nv],rfl⟩,rfl⟩) ?_
 intro i L O z A J
 have H:=uA u (by decide:0<65536) i
 have G:=uA m (by decide:0<65536) i
 have st:=MF (b:=65536) (P:=65536^i) (bg dc) (dD (b:=65536) dc u i) (dD (b:=65536) dc m i) H G
 obtain⟨c,g⟩:∃c,c=(if nv 65536 (x.take i)<nv 65536 (y.take i)then 1 else 0:Nat):=⟨_,rfl⟩
 rw[←g]at st
 obtain⟨s1,s2,j⟩:=st
 have E:c≤1:=by rw[g];split<;>omega
 have e:nv 65536 (x.take (i+1))+65536^(i+1)-nv 65536 (y.take (i+1))=nv 65536 (x.take i)+65536^i*x.getD i 0+65536^i*65536-(nv 65536 (y.take i)+65536^i*y.getD i 0):=by rw[az,az,dO]
 have f:fl 65536 (i+1) (nv 65536 (x.take (i+1))+65536^(i+1)-nv 65536 (y.take (i+1)))=fl 65536 i (nv 65536 (x.take i)+65536^i-nv 65536 (y.take i))++[(x.getD i 0+65536-(y.getD i 0+c))%65536]:=by
  rw[e,iY,jg dc s2,s1]
 simp only[←g]
 have N:=jh x i
 have M:=jh y i
 by_cases h:(i:Int)<x.length
 ·by_cases h2:((x.getD i 0:Nat):Int)-((y.getD i 0:Nat):Int)-(c:Int)<0
  ·obtain⟨d,C⟩:∃d:Nat,d=x.getD i 0+65536-(y.getD i 0+c):=⟨_,rfl⟩;have a:((x.getD i 0:Nat):Int)-((y.getD i 0:Nat):Int)-(c:Int)+65536=(d:Int):=om;refine pJ (ai @BJ<|ai @a<|ai @wi<|ai @h2<|ai @h @jR) ?_;refine z _ (i+1) om om ?_;refine tV trivial ?_;refine⟨⟨?_,om⟩,?_⟩
   ·rw[az,az];simp only[j];split<;>omega
   ·rw[f];congr 3;omega
  ·obtain⟨d,C⟩:∃d:Nat,d=x.getD i 0-(y.getD i 0+c):=⟨_,rfl⟩;have a:((x.getD i 0:Nat):Int)-((y.getD i 0:Nat):Int)-(c:Int)=(d:Int):=om;have F:¬(d:Int)<0:=om;refine pJ (ai @BJ<|ai @a<|ai @wi<|ai @F<|ai @h2<|ai @h @jR) ?_;refine z _ (i+1) om om ?_;refine tV trivial ?_;refine⟨⟨?_,om⟩,?_⟩
   ·rw[az,az];simp only[j];split<;>omega
   ·rw[f];congr 3;omega
 ·obtain rfl:i=x.length:=om;refine aX (ai @h @jR) ?_;refine A _ _ ?_;refine aX @jR ?_;refine BL @jR ?_;rw[iH]
def wY:=an @aQ<|an @fK<|an @aW<|an @aO<|an @aI<|an @fZ<|an @mJ<|an @dR<|an @iL<|an @wi @wW
theorem V8(x y:List Nat):J4 x y≤max x.length y.length+1:=by unfold J4;split<;>omega
theorem V9(f:Lt 65536 x)(c:Lt 65536 y):nv 65536 (fl 65536 (J4 x y) (nv 65536 x+nv 65536 y))=nv 65536 x+nv 65536 y:=by
 rw[qj,bD];unfold J4;have m:=eP f;have l:=eP c;have j:65536^x.length≤65536^max x.length y.length:=gX dc om;have g:65536^y.length≤65536^max x.length y.length:=gX dc om;split
 ·rename_i h;rcases dW (nv 65536 x+nv 65536 y) (65536^max x.length y.length)with a|a
  ·exact a
  ·have:=(rZ (bg (by decide:0<65536))).2 (by rw[iV];exact a:1*65536^max x.length y.length≤_);omega
 ·rw[dO];omega
theorem V_(c:Lt 65536 x)(h:nv 65536 y≤nv 65536 x)(t:tz y=y):nv 65536 (fl 65536 x.length (nv 65536 x+65536^x.length-nv 65536 (y.take x.length)))=nv 65536 x-nv 65536 y:=by
 have j:=eP c;have hl:y.length≤x.length:=by
  rcases kz y.length with a|a
  ·omega
  ·have g:=yz (b:=65536) t (fun h=>by rw[h]at a;simp at a);have f:65536^(y.length-1)<65536^x.length:=om;have:=(BN (by decide:1<65536)).1 f;omega
 rw[qj,jB hl,show nv 65536 x+65536^x.length-nv 65536 y=(nv 65536 x-nv 65536 y)+65536^x.length from om,Nat.add_mod_right,bD om]
theorem Ef(a b:List Nat)(c:Wd a)(hb:Wd b)(F:a.length≤1000000000)(E:b.length≤1000000000):aT 108 [.l 1 (W a),.l 1 (W b)] (.o 49 1 (W (dg B (nv B a+nv B b)))):=by
 have f:=vP a b 63 dc c hb om om;have J:=fF a c om;have I:=fF b hb om;have l1:=uV c;have G:=uV hb;have e1:=qU H2 (nv B a);have g:=qU H2 (nv B b);have k1:=uK (b:=65536) dc (nv B a);have k2:=uK (b:=65536) dc (nv B b);generalize dg 65536 (nv B a)=x at*
 generalize dg 65536 (nv B b)=y at*
 generalize nv B a=u at*
 generalize nv B b=v at*
 have H:B=18446744073709551616:=rfl;have C:=V8 x y;have m:=(OX x y k1 k2 om om).frozen;have A:=jI (fl 65536 (J4 x y) (nv 65536 x+nv 65536 y)) (oN dc _ _) (by rw[bH];omega);rw[V9 k1 k2,e1,g]at A;rw[e1,g]at m;by_cases h:u<9223372036854775808∧v<9223372036854775808
 ·rw[cO (show u<2^63∧v<2^63 from h),bD (by omega:u<B),bD (by omega:v<B)]at f;have z:=xK (u+v) om;have j:IntKind.u64.wrap ((u:Int)+(v:Int))=((u+v:Nat):Int):=by rw[wu om];rfl
  refine f_ aN a_ Tryz.func108 ?_;exact jO (ai @j @wY)
 ·rw[aZ (show¬(u<2^63∧v<2^63)from h)]at f;refine f_ aN a_ Tryz.func108 ?_;exact jO @wY
theorem Jj(a b:List Nat)(c:Wd a)(hb:Wd b)(E:a.length≤1000000000)(C:b.length≤1000000000)(hle:nv B b≤nv B a):aT 170 [.l 1 (W a),.l 1 (W b)] (.o 49 1 (W (dg B (nv B a-nv B b)))):=by
 have f:=vP a b 63 dc c hb om om;have I:=fF a c om;have H:=fF b hb om;have l1:=uV c;have F:=uV hb;have e1:=qU H2 (nv B a);have A:=qU H2 (nv B b);have t2:=BO (b:=65536) (nv B b);have k1:=uK (b:=65536) dc (nv B a);have k2:=uK (b:=65536) dc (nv B b);generalize dg 65536 (nv B a)=x at*
 generalize dg 65536 (nv B b)=y at*
 generalize nv B a=u at*
 generalize nv B b=v at*
 have G:B=18446744073709551616:=rfl;have j:=(MB x y k1 k2 om).frozen;have z:=jI (fl 65536 x.length (nv 65536 x+65536^x.length-nv 65536 (y.take x.length))) (oN dc _ _) (by rw[bH];omega);rw[V_ k1 om t2,e1,A]at z;rw[e1]at j;by_cases h:u<9223372036854775808∧v<9223372036854775808
 ·rw[cO (show u<2^63∧v<2^63 from h),bD (by omega:u<B),bD (by omega:v<B)]at f;have m:=xK (u-v) om;have g:IntKind.u64.wrap ((u:Int)-(v:Int))=((u-v:Nat):Int):=by rw[wu om];omega
  refine f_ aN a_ Tryz.func170 ?_;exact jO (ai @g @wY)
 ·rw[aZ (show¬(u<2^63∧v<2^63)from h)]at f;refine f_ aN a_ Tryz.func170 ?_;exact jO @wY
theorem Ud{s x y c:Nat}(g:s<65536)(f:x<65536)(a:y<65536)(j:c<65536):c+(s+x*y)<4294967296:=by
 have l:x*y≤65535*65535:=tX om om;omega
theorem MG(x y:List Nat)(hx:Lt 65536 x)(Z:Lt 65536 y)(lx:x.length≤10000000000)(ly:y.length≤10000000000):
 aT 145 [.l 1 (D x),.l 1 (D y)] (.o 3 1 (D (fl 65536 (x.length+y.length) (nv 65536 x*nv 65536 y)))):=by
 obtain⟨p,a⟩:∃p,p=x.length:=⟨_,rfl⟩
 obtain⟨q,hq⟩:∃q,q=y.length:=⟨_,rfl⟩
 obtain⟨n,hn⟩:∃n,n=p+q:=⟨_,rfl⟩
 have hnI:(p:Int)+(q:Int)=(n:Int):=om
 have hn0:(0:Int)≤(n:Int):=om
 obtain⟨T,Y⟩:∃T,T=nv 65536 x*nv 65536 y:=⟨_,rfl⟩
 rw[←a,←hq,←hn,←Y]
 refine f_ aN a_ Tryz.func145 ?_
 refine aX (ai @V4<|ai @hnI (ai (Eq.symm hq) (ai (Eq.symm a) @wY))) ?_
 refine aF [] (Nat×List Nat) (fun s=>⟨[(0,.l 1 (D x)),(1,.l 1 (D y)),(5,.ow 1 0 n),(6,.i .i64 (s.1:Int))],
  [(0,some ⟨3,1,D s.2,true,false⟩)],1⟩)
  (fun s=>s.1≤p∧s.2.length=n∧nv 65536 s.2=nv 65536 (x.take s.1)*nv 65536 y∧Lt 65536 s.2∧∀j,s.1+q≤j→s.2.getD j 0=0) (fun s=>p-s.1) (0,List.replicate n 0)
  ⟨aG _,sy,by rw[yB,List.take_zero,show nv 65536 []=0 from rfl,iT],BP dc,fun j A=>by simp only[dN,List.getElem?_replicate];split<;>simp⟩ (by exact oL) (by
  exact lC) ?_
 rintro⟨i,S⟩ ⟨hi,I,F,G,zS⟩ Q' hQ he hr
 simp only[]at hi I F G zS ⊢
 by_cases hil:(i:Int)<(p:Int)
 ·have L:=uA hx dc i;refine aX (ai (Eq.symm hq) (ai (Eq.symm a) (ai @hil @wY))) ?_;refine aF [] (Nat×Nat×List Nat) (fun s=>⟨[(0,.l 1 (D x)),(1,.l 1 (D y)),(5,.ow 1 0 n),(6,.i .i64 (i:Int)),(7,.i .i64 (s.2.1:Int)),(8,.i .i64 (s.1:Int))],
   [(0,some ⟨3,1,D s.2.2,true,false⟩)],1⟩)
   (fun s=>s.1≤q∧s.2.2.length=n∧s.2.1<65536∧nv 65536 s.2.2+65536^(i+s.1)*s.2.1=nv 65536 (x.take i)*nv 65536 y+65536^i*(x.getD i 0*nv 65536 (y.take s.1))∧Lt 65536 s.2.2∧∀j,i+q≤j→s.2.2.getD j 0=0) (fun s=>q-s.1) (0,0,S)
   ⟨aG _,I,by simp only;omega,by simp only[List.take_zero,show nv 65536 []=0 from rfl,kG,ik];exact F,G,zS⟩ (by exact oL) (by
   exact lC) ?_
  rintro⟨k,c,U⟩ ⟨hk,u,O,H,E,C⟩ Q'' Q N hr';simp only[]at hk u O H E C ⊢;by_cases hkl:(k:Int)<(q:Int)
  ·have J:=uA Z dc k;have P:=uA E dc (i+k);have hb:=Ud P L J O;have M:=jd (b:=65536) y k om;obtain⟨z,hz⟩:∃z,z=x.getD i 0*y.getD k 0:=⟨_,rfl⟩;have hzI:((x.getD i 0:Nat):Int)*((y.getD k 0:Nat):Int)=(z:Int):=by rw[hz,jC]
   rw[←hz]at hb;obtain⟨m,hm⟩:∃m,m=c+(U.getD (i+k) 0+z):=⟨_,rfl⟩;have hmI:(c:Int)+(((U.getD (i+k) 0:Nat):Int)+(z:Int))=(m:Int):=om;have g:=zx (b:=65536) U (i+k) (m%65536) om;have f:((i:Int)+(k:Int)).toNat=i+k:=om;refine aX (ai @Ed<|ai @Ec<|ai @Ee<|ai @hmI<|ai @hzI<|ai @u<|ai @f (ai (Eq.symm hq) (ai (Eq.symm a) (ai @hkl @wY)))) ?_;refine Q _ (k+1,m/65536,U.set (i+k) (m%65536)) ⟨by simp only;omega,by simp only[yZ];exact u,by simp only;omega,?_,yC E _ _ (cu _ dc),fun j A=>?_⟩ (by simp only;omega) ?_
   ·simp only[];have e:65536^i*(x.getD i 0*(65536^k*y.getD k 0))=65536^(i+k)*z:=by rw[hz,dn,fB,Nat.mul_left_comm (x.getD i 0)]
    have e2:65536^(i+(k+1))*(m/65536)+65536^(i+k)*(m%65536)=65536^(i+k)*m:=by
     rw[←tY,dO,fB,←fQ,qo]
    rw[M,fQ,fQ,e];have e3:65536^(i+k)*m=65536^(i+k)*c+65536^(i+k)*U.getD (i+k) 0+65536^(i+k)*z:=by rw[hm,fQ,fQ,tY]
    omega
   ·simp only[]at A ⊢;rw[getD_set_ne _ _ _ _ om];exact C j A
   ·exact lC
  ·obtain rfl:k=q:=om;rw[show y.take k=y from by rw[hq,iH]]at H;have g:=zx (b:=65536) U (i+k) c om;rw[C (i+k) om,kG,ik]at g;have f:((i:Int)+(k:Int)).toNat=i+k:=om;refine aX (ai (Eq.symm hq) (ai (Eq.symm a) (ai @hkl @wY))) ?_;refine N _ _ ?_;refine aX (ai @Ee<|ai @u<|ai @f (ai (Eq.symm hq) (ai (Eq.symm a) @wY))) ?_;refine hQ _ (i+1,U.set (i+k) c) ⟨by simp only;omega,by simp only[yZ];exact u,?_,yC E _ _ O,fun j A=>?_⟩ (by simp only;omega) ?_
   ·simp only[];rw[g,H,jd (b:=65536) x i om,kQ,fB]
   ·simp only[]at A ⊢;rw[getD_set_ne _ _ _ _ om];exact C j om
   ·exact lC
 ·obtain rfl:i=p:=om;rw[show x.take i=x from by rw[a,iH],←Y]at F;have e:S=fl 65536 n T:=by rw[←F,←I];exact(CY G).symm
  refine aX (ai (Eq.symm hq) (ai (Eq.symm a) (ai @hil @wY))) ?_;refine he _ _ ?_;refine aX @wY ?_;exact rP (ai @e @wY)
theorem vw(a b:List Nat)(f:Wd a)(hb:Wd b)(F:a.length≤1000000000)(E:b.length≤1000000000):aT 102 [.l 1 (W a),.l 1 (W b)] (.o 49 1 (W (dg B (nv B a*nv B b)))):=by
 have g:=vP a b 32 dc f hb om om;have J:=fF a f om;have I:=fF b hb om;have l1:=uV f;have G:=uV hb;have e1:=qU H2 (nv B a);have j:=qU H2 (nv B b);have k1:=uK (b:=65536) dc (nv B a);have k2:=uK (b:=65536) dc (nv B b);generalize dg 65536 (nv B a)=x at*
 generalize dg 65536 (nv B b)=y at*
 generalize nv B a=u at*
 generalize nv B b=v at*
 have H:B=18446744073709551616:=rfl;have z:=(MG x y k1 k2 om om).frozen;have C:=jI (fl 65536 (x.length+y.length) (nv 65536 x*nv 65536 y)) (oN dc _ _) (by rw[bH];omega);rw[qj,bD (by rw[dn];exact BQ (eP k1) (eP k2)),e1,j]at C;rw[e1,j]at z;by_cases h:u<4294967296∧v<4294967296
 ·rw[cO (show u<2^32∧v<2^32 from h),bD (by omega:u<B),bD (by omega:v<B)]at g;have c:u*v<18446744073709551616:=BQ h.1 h.2;have A:=xK (u*v) c;have m:IntKind.u64.wrap ((u:Int)*(v:Int))=((u*v:Nat):Int):=by rw[←jC,wu om]
  refine f_ aN a_ Tryz.func102 ?_;exact jO (ai @m @wY)
 ·rw[aZ (show¬(u<2^32∧v<2^32)from h)]at g;refine f_ aN a_ Tryz.func102 ?_;exact jO @wY
