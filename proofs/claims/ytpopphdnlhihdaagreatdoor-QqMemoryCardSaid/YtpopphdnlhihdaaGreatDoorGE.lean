import Derived.Test.YtpopphdnlhihdaaGreatDoorGD
set_option linter.all false
set_option maxRecDepth 2000000
set_option maxHeartbeats 10000000
namespace Go.Proofs.YtpopphdnlhihdaaGreatDoor
open Go Go.RowKit Ab
theorem D2:2≤256:=dc
theorem SL{x y:Nat}:(sg x y<0)=(x<y):=by
 unfold sg;split
 ·rename_i h;simp[h]
 ·rename_i h;split<;>simp[h]
def Bl(a:List Nat):List V:=a.map fun x:Nat=> .b (decide (x=1))
theorem Yd(a:List Nat):(Bl a).length=a.length:=by simp[Bl]
theorem Ye:Bl []=[]:=rfl
theorem Bl_nf(a:List Nat):uh (Bl a)=false:=by
 induction a with
 |nil=>rfl
 |cons x r c=>simpa[Bl,uh,V.nf]using c
def eX:=an @aQ<|an @aW<|an @aO<|an @aI<|an @fZ<|an @dR<|an @SI<|an @SK<|an @wi<|an @wu @EF
theorem B1:0<B:=dc
theorem DD(a:List Nat)(n:Nat)(j:Wd a)(N:a.length≤1000000000000)(O:n≤1048576):aT 158 [.l 1 (W a),.i .i64 (n:Int)] (.t [.l 1 (W (qg a n)),.i .i64 0]):=by
 refine f_ aN a_ Tryz.func158 ?_;have z:¬(n:Int)<0:=om;have y:¬(1048576:Int)<(n:Int):=om;have u:n%64<64:=cu _ dc;by_cases h0:((n%64:Nat):Int)=0
 ·have e:qg a n=List.replicate (n/64) 0++a:=by unfold qg;rw[au om]
  refine aX (ai @di<|ai @Hf<|ai @h0<|ai @y<|ai @z @eX) ?_;exact rP (ai @e @eX)
 ·have e:qg a n=List.replicate (n/64) 0++fl B (a.length+1) (nv B a*2^(n%64)):=by unfold qg;rw[ah om]
  rw[e];generalize F:n/64=w at*
  generalize H:n%64=r at*
  have E:w≤1048576:=om;have lrep:(List.replicate w 0).length=w:=sy;refine aX (ai @H<|ai @F<|ai @h0<|ai @y<|ai @z @eX) ?_;refine aF [] Nat (fun i=>⟨[(8,.ow 1 0 (w+i)),(7,.i .u64 (r:Int)),(9,.i .u64 ((nv B (a.take i)*2^r/B^i:Nat):Int)),(35,.l 1 (W a)),(36,.i .i64 (a.length:Int)),(37,.i .i64 (i:Int))],[(0,some ⟨49,1,W (List.replicate w 0++fl B i (nv B (a.take i)*2^r)),true,false⟩)],1⟩)
   (fun i=>i≤a.length) (fun i=>a.length-i) 0 (aG _) (by exact oL) (by
   refine tV trivial ?_
   simp[nv,fl]) ?_
  intro i Q T J I G;obtain⟨s1,s2,A,m⟩:=X7 (P:=B^i) (V:=nv B (a.take i)) (x:=a.getD i 0) (r:=r) (bg B1) (dD B1 j i) (uA j B1 i) om;have C:=fV j i;have hlow:nv B (a.take i)*2^r/B^i<18446744073709551616:=eu m (by have:(18446744073709551616:Nat)=2^64:=rfl;rw[this];exact gX dc om);by_cases h:(i:Int)<a.length
  ·have f:=ND (a.getD i 0*2^r%18446744073709551616) (nv B (a.take i)*2^r/B^i) (cu _ dc) hlow;rw[Qb om m,←s1]at f;have g:=Jr (a.getD i 0) r om;have c:=qV (a.getD i 0) (64-r) om;rw[←s2]at c;have e1:fl B i (nv B (a.take i)*2^r)++[(nv B (a.take i)+B^i*a.getD i 0)*2^r/B^i%B]=fl B (i+1) (nv B (a.take (i+1))*2^r):=by
    rw[iY,az,jg B1 A]
   repeat first
    |(refine hK _ ?_;clear hK K)
    |((first|refine ay (fun K hK=>?_)|refine ax (fun K hK=>?_)|refine ak (fun K hK=>?_));simp(disch:=(first|omega|assumption)) only[S1,seval,-Int.reduceToNat,-List.reduceReplicate,aK.sb,aK.mut,aU,↓aJ,aV,aC,eX,h,dH,g,f,c,Js,EC,nY,e1];refine hK _ ?_;clear hK K)
    |simp only[Sv,↓reduceIte,Nat.reduceEqDiff]
   refine J _ (i+1) om om ?_;refine tV trivial ?_;refine⟨om,?_,om⟩;rw[az,dO]
  ·obtain rfl:i=a.length:=om;have M:nv B a*2^r/B^a.length%B=nv B a*2^r/B^a.length:=by
    rw[iH]at hlow;exact bD hlow
   refine aX (ai @h @eX) ?_;refine I _ _ ?_;rw[iH];have L:fl B a.length (nv B a*2^r)++[nv B a*2^r/B^a.length]=fl B (a.length+1) (nv B a*2^r):=by rw[iY,M]
   repeat first
    |(refine hK _ ?_;clear hK K)
    |((first|refine ay (fun K hK=>?_)|refine ax (fun K hK=>?_)|refine ak (fun K hK=>?_));simp(disch:=(first|omega|assumption)) only[S1,seval,-Int.reduceToNat,-List.reduceReplicate,aK.sb,aK.mut,aU,↓aJ,aV,aC,eX,EC,nY,L];refine hK _ ?_;clear hK K)
    |simp only[Sv,↓reduceIte,Nat.reduceEqDiff]
   exact rP @eX
theorem EG(a b:Nat):((a:Int)+(b:Int)).toNat=a+b:=om
variable{m k:Nat}
theorem EH{i v d:Nat}(c:i<m)(hd:d=v/B^i%B):(fl B i v++List.replicate (m-i) 0).set i d=fl B (i+1) v++List.replicate (m-(i+1)) 0:=by
 obtain⟨k,a⟩:∃k,m-i=k+1:=⟨m-i-1,om⟩;rw[iY,a,show m-(i+1)=k from om,nZ _ _ (by rw[bH];omega),bH,gW,nR,List.set_cons_zero,hd,nY];rfl
theorem Hq(l:List Nat)(i x:Nat)(h:i<l.length):(l.set i x).getD i 0=x:=by
 rw[dN,zB h];rfl
theorem DF(a:List Nat)(n:Nat)(F:Wd a)(la:a.length≤1000000000000)(hn:n<9223372036854775808):aT 198 [.l 1 (W a),.i .i64 (n:Int)] (.t [.l 1 (W (fl B (a.length-n/64) (nv B a/2^n))),.any,.i .i64 0]):=by
 refine f_ aN a_ Tryz.func198 ?_;have O:¬(n:Int)<0:=om;have P:n%64<64:=cu _ dc;have hdig:=fun i=>U_ (A:=nv B a) (n:=n) (i:=i)
 generalize nv B a/2^n=v at hdig ⊢;generalize M:n/64=w at*
 generalize N:n%64=r at*
 by_cases hge:(a.length:Int)≤(w:Int)
 ·have e:a.length-w=0:=om;have zc1:=xZ a om;refine wdO (ai @e<|ai @hge<|ai @N<|ai @M<|ai @O @eX) ?_;rfl
 ·obtain⟨m,hm⟩:∃m,a.length=w+m:=⟨a.length-w,om⟩;have em:a.length-w=m:=om;have hsub:(a.length:Int)-(w:Int)=(m:Int):=om;have H:=Jr (a.getD w 0) (64-r) om;have lrep:(List.replicate m 0).length=m:=sy;rw[em];by_cases g1:0<(((tz (a.take w)).length:Nat):Int)
  ·have zc2:=xZ (a.take w) (by rw[jo];omega);refine pJ (ai @lrep<|ai @hsub<|ai @g1<|ai @mW<|ai @hge<|ai @N<|ai @M<|ai @O @eX) ?_;refine aF [] Nat (fun i=>⟨[(0,.l 1 (W a)),(7,.i .i64 (w:Int)),(8,.i .u64 (r:Int)),(10,.ow 1 0 m),(51,.i .i64 (m:Int)),(52,.i .i64 (i:Int))],[(0,some ⟨49,1,W (fl B i v++List.replicate (m-i) 0),true,false⟩)],1⟩)
    (fun i=>i≤m) (fun i=>m-i) 0 (aG _) (by exact oL) (by
    refine tV trivial ?_
    simp[fl]) ?_
   intro i Q T G J I;by_cases h:(i:Int)<m
   ·have C:=hdig i;have j:=qP (b:=B) B1 F (w+i);have E:=qP (b:=B) B1 F (w+i+1);rw[dO,←lZ]at E;generalize nv B a/B^(w+i)=X at C j E;have y:(fl B i v++List.replicate (m-i) 0).length=m:=by rw[bZ,bH,nS];omega
    have c:=qV (a.getD (w+i) 0) r om;have L:w+i<a.length:=om;by_cases f:0<(r:Int)
    ·obtain⟨s1,s2⟩:=Hg (X:=X) (r:=r) om om;rw[←C,←j,←E]at s1;rw[←j]at s2;have g:=ND (a.getD (w+i) 0/2^r) (a.getD (w+i+1) 0*2^(64-r)%18446744073709551616) (cZ (fE _ _) (fV F _)) (cu _ dc);rw[Kz om s2,←s1]at g;have z:=Jr (a.getD (w+i+1) 0) (64-r) om;have u:((fl B i v++List.replicate (m-i) 0).set i (a.getD (w+i) 0/2^r)).length=m:=by rw[yZ,y]
     have hset:=EH (v:=v) (i:=i) (m:=m) om rfl;have zc3:=pM a (w+i+1);repeat first|(refine hK _ ?_;clear hK K)|simp only[Sv,↓reduceIte,Nat.reduceEqDiff]|((first|refine ay (fun K hK=>?_)|refine ax (fun K hK=>?_)|refine ak (fun K hK=>?_)|refine fM ?_|refine dE (by assumption) ?_|refine fO ?_|(apply dF;assumption)|(apply dG;assumption));simp(disch:=(first|omega|assumption)) only[S1,seval,-Int.reduceToNat,-List.reduceReplicate,aK.sb,aK.mut,aU,↓aJ,aV,aC,eX,h,f,c,EG,dH,ny,y,u,z,g,Js,Hq,List.set_set,hset])
     refine G _ (i+1) om om ?_;refine tV trivial ?_;omega
    ·have r0:r=0:=om;have hset:=EH (v:=v) (i:=i) (m:=m) (d:=a.getD (w+i) 0/2^r) om (by rw[C,j,r0];simp);refine aX (ai @hset<|ai @y<|ai @ny<|ai @c<|ai @dH<|ai @EG<|ai @f<|ai @h @eX) ?_;refine G _ (i+1) om om ?_;refine tV trivial ?_;omega
   ·obtain rfl:i=m:=om;refine aX (ai @h @eX) ?_;refine J _ _ ?_;refine aX @eX ?_;simp(disch:=(first|omega|assumption)) only[dY,iF,iK,jv,fA,V.aP,bW,bY,S1,seval,-Int.reduceToNat,-List.reduceReplicate,aK.sb,aK.mut,aU,↓aJ,aV,aC,eX,gW,List.replicate_zero]
  ·by_cases g2:((a.getD w 0*2^(64-r)%18446744073709551616:Nat):Int)=0
   ·have zc4:=xZ (a.take w) (by rw[jo];omega);refine pJ (ai @lrep<|ai @hsub<|ai @g2<|ai @H<|ai @Js<|ai @g1<|ai @dH<|ai @mW<|ai @hge<|ai @N<|ai @M<|ai @O @eX) ?_;refine aF [] Nat (fun i=>⟨[(0,.l 1 (W a)),(7,.i .i64 (w:Int)),(8,.i .u64 (r:Int)),(10,.ow 1 0 m),(51,.i .i64 (m:Int)),(52,.i .i64 (i:Int))],[(0,some ⟨49,1,W (fl B i v++List.replicate (m-i) 0),true,false⟩)],1⟩)
     (fun i=>i≤m) (fun i=>m-i) 0 (aG _) (by exact oL) (by
     refine tV trivial ?_
     simp[fl]) ?_
    intro i Q T G J I;by_cases h:(i:Int)<m
    ·have C:=hdig i;have j:=qP (b:=B) B1 F (w+i);have E:=qP (b:=B) B1 F (w+i+1);rw[dO,←lZ]at E;generalize nv B a/B^(w+i)=X at C j E;have y:(fl B i v++List.replicate (m-i) 0).length=m:=by rw[bZ,bH,nS];omega
     have c:=qV (a.getD (w+i) 0) r om;have L:w+i<a.length:=om;by_cases f:0<(r:Int)
     ·obtain⟨s1,s2⟩:=Hg (X:=X) (r:=r) om om;rw[←C,←j,←E]at s1;rw[←j]at s2;have g:=ND (a.getD (w+i) 0/2^r) (a.getD (w+i+1) 0*2^(64-r)%18446744073709551616) (cZ (fE _ _) (fV F _)) (cu _ dc);rw[Kz om s2,←s1]at g;have z:=Jr (a.getD (w+i+1) 0) (64-r) om;have u:((fl B i v++List.replicate (m-i) 0).set i (a.getD (w+i) 0/2^r)).length=m:=by rw[yZ,y]
      have hset:=EH (v:=v) (i:=i) (m:=m) om rfl;have Z:=pM a (w+i+1);repeat first|(refine hK _ ?_;clear hK K)|simp only[Sv,↓reduceIte,Nat.reduceEqDiff]|((first|refine ay (fun K hK=>?_)|refine ax (fun K hK=>?_)|refine ak (fun K hK=>?_)|refine fM ?_|refine dE (by assumption) ?_|refine fO ?_|(apply dF;assumption)|(apply dG;assumption));simp(disch:=(first|omega|assumption)) only[S1,seval,-Int.reduceToNat,-List.reduceReplicate,aK.sb,aK.mut,aU,↓aJ,aV,aC,eX,h,f,c,EG,dH,ny,y,u,z,g,Js,Hq,List.set_set,hset])
      refine G _ (i+1) om om ?_;refine tV trivial ?_;omega
     ·have r0:r=0:=om;have hset:=EH (v:=v) (i:=i) (m:=m) (d:=a.getD (w+i) 0/2^r) om (by rw[C,j,r0];simp);refine aX (ai @hset<|ai @y<|ai @ny<|ai @c<|ai @dH<|ai @EG<|ai @f<|ai @h @eX) ?_;refine G _ (i+1) om om ?_;refine tV trivial ?_;omega
    ·obtain rfl:i=m:=om;refine aX (ai @h @eX) ?_;refine J _ _ ?_;refine aX @eX ?_;simp(disch:=(first|omega|assumption)) only[dY,iF,iK,jv,fA,V.aP,bW,bY,S1,seval,-Int.reduceToNat,-List.reduceReplicate,aK.sb,aK.mut,aU,↓aJ,aV,aC,eX,gW,List.replicate_zero]
   ·have Y:=xZ (a.take w) (by rw[jo];omega);refine pJ (ai @lrep<|ai @hsub<|ai @g2<|ai @H<|ai @Js<|ai @g1<|ai @dH<|ai @mW<|ai @hge<|ai @N<|ai @M<|ai @O @eX) ?_;refine aF [] Nat (fun i=>⟨[(0,.l 1 (W a)),(7,.i .i64 (w:Int)),(8,.i .u64 (r:Int)),(10,.ow 1 0 m),(51,.i .i64 (m:Int)),(52,.i .i64 (i:Int))],[(0,some ⟨49,1,W (fl B i v++List.replicate (m-i) 0),true,false⟩)],1⟩)
     (fun i=>i≤m) (fun i=>m-i) 0 (aG _) (by exact oL) (by
     refine tV trivial ?_
     simp[fl]) ?_
    intro i Q T G J I;by_cases h:(i:Int)<m
    ·have C:=hdig i;have j:=qP (b:=B) B1 F (w+i);have E:=qP (b:=B) B1 F (w+i+1);rw[dO,←lZ]at E;generalize nv B a/B^(w+i)=X at C j E;have y:(fl B i v++List.replicate (m-i) 0).length=m:=by rw[bZ,bH,nS];omega
     have c:=qV (a.getD (w+i) 0) r om;have L:w+i<a.length:=om;by_cases f:0<(r:Int)
     ·obtain⟨s1,s2⟩:=Hg (X:=X) (r:=r) om om;rw[←C,←j,←E]at s1;rw[←j]at s2;have g:=ND (a.getD (w+i) 0/2^r) (a.getD (w+i+1) 0*2^(64-r)%18446744073709551616) (cZ (fE _ _) (fV F _)) (cu _ dc);rw[Kz om s2,←s1]at g;have z:=Jr (a.getD (w+i+1) 0) (64-r) om;have u:((fl B i v++List.replicate (m-i) 0).set i (a.getD (w+i) 0/2^r)).length=m:=by rw[yZ,y]
      have hset:=EH (v:=v) (i:=i) (m:=m) om rfl;have U:=pM a (w+i+1);repeat first|(refine hK _ ?_;clear hK K)|simp only[Sv,↓reduceIte,Nat.reduceEqDiff]|((first|refine ay (fun K hK=>?_)|refine ax (fun K hK=>?_)|refine ak (fun K hK=>?_)|refine fM ?_|refine dE (by assumption) ?_|refine fO ?_|(apply dF;assumption)|(apply dG;assumption));simp(disch:=(first|omega|assumption)) only[S1,seval,-Int.reduceToNat,-List.reduceReplicate,aK.sb,aK.mut,aU,↓aJ,aV,aC,eX,h,f,c,EG,dH,ny,y,u,z,g,Js,Hq,List.set_set,hset])
      refine G _ (i+1) om om ?_;refine tV trivial ?_;omega
     ·have r0:r=0:=om;have hset:=EH (v:=v) (i:=i) (m:=m) (d:=a.getD (w+i) 0/2^r) om (by rw[C,j,r0];simp);refine aX (ai @hset<|ai @y<|ai @ny<|ai @c<|ai @dH<|ai @EG<|ai @f<|ai @h @eX) ?_;refine G _ (i+1) om om ?_;refine tV trivial ?_;omega
    ·obtain rfl:i=m:=om;refine aX (ai @h @eX) ?_;refine J _ _ ?_;refine aX @eX ?_;simp(disch:=(first|omega|assumption)) only[dY,iF,iK,jv,fA,V.aP,bW,bY,S1,seval,-Int.reduceToNat,-List.reduceReplicate,aK.sb,aK.mut,aU,↓aJ,aV,aC,eX,gW,List.replicate_zero]
def yc:=an @aQ<|an @fK<|an @Yd<|an @aW<|an @aO<|an @aI<|an @fZ<|an @mJ<|an @Bl_nf<|an @dR<|an @iL<|an @Ye<|an @SI<|an @SK<|an @wi @wu
theorem ae(v:Nat):nv B (dg B v)=v:=qU B2 v
theorem af(v:Nat):Wd (dg B v):=uK B0 v
theorem aA{v:Nat}(h:v<B^k):(dg B v).length≤k:=BK B2 h
theorem bP{a:List Nat}(f:Wd a)(c:a.length≤m):nv B a<B^m:=eu (eP f) (gX B0 c)
theorem KE{v:Nat}(h:v<B^k)(a:k≤m):v<B^m:=eu h (gX B0 a)
theorem Bj{u v:Nat}(h:u<B^k)(c:v<B^k):u+v<B^(k+1):=by
 have a:B^k*2≤B^(k+1):=iZ _ B2;omega
theorem Hr(a:List Nat)(f:Wd a)(c:a.length≤1099511627776):aT 133 [.l 1 (W a)] (.o 49 1 (W (dg B (nv B a)))):=by
 have:=zK a c;rwa[EY B2 f]at this
theorem nv_mod{b:Nat}{l:List Nat}(hb:0<b)(h:Lt b l)(i:Nat):nv b (l.take i)=nv b l%b^i:=by
 rcases dW l.length i with a|a
 ·rw[jB om,bD (eu (eP h) (gX hb om))]
 ·rw[yN l i a,uy,bD (dD hb h i)]
def Cb(v:Nat)(n:Int):List Nat×Int:=if n<0∨1048576<n then([],3)else(dg B (v*2^n.toNat),0)
def I9(v:Nat)(n:Int):List Nat×Int:=if n<0 then([],3)else(dg B (v/2^n.toNat),0)
noncomputable def a127:AC:=gc Tryz.prog Tryz.f127
theorem wz(a:List Nat)(n:Int)(c:Wd a)(m:a.length≤100000000000):aT 127 [.l 1 (W a),.i .i64 n] (.t [.l 1 (W (Cb (nv B a) n).1),.i .i64 (Cb (nv B a) n).2]):=by
 refine f_ aN a_ Tryz.func127 ?_;by_cases h1:n<0
 ·rw[show Cb (nv B a) n=([],3)from au (.inl h1)];exact U8 (ai @h1<|ai @ae @yc)
 ·by_cases h2:1048576<n
  ·rw[show Cb (nv B a) n=([],3)from au (.inr h2)];exact U8 (ai @h2<|ai @h1<|ai @ae @yc)
  ·rw[show Cb (nv B a) n=(dg B (nv B a*2^n.toNat),0)from ah om];obtain⟨k,rfl⟩:∃k:Nat,n=(k:Int):=⟨n.toNat,om⟩;have lt:=r_ a;have lo:=Hl (tz a) k;have e:nv B (qg (tz a) k)=nv B a*2^k:=by rw[Ju (xJ c),wX]
   have j:=vI a om;have g:=DD (tz a) k (xJ c) om om;have f:=Hr (qg (tz a) k) (Jt (xJ c) k) om;exact jO (ai @e<|ai @h2<|ai @h1<|ai @ae @yc)
noncomputable def a192:AC:=gc Tryz.prog Tryz.f192
theorem Yf(a:List Nat)(n:Int)(c:Wd a)(j:a.length≤100000000000)(m:n<9223372036854775808):aT 192 [.l 1 (W a),.i .i64 n] (.t [.l 1 (W (I9 (nv B a) n).1),.i .i64 (I9 (nv B a) n).2]):=by
 refine f_ aN a_ Tryz.func192 ?_;by_cases h1:n<0
 ·rw[show I9 (nv B a) n=([],3)from au h1];exact U8 (ai @h1<|ai @ae @yc)
 ·rw[show I9 (nv B a) n=(dg B (nv B a/2^n.toNat),0)from ah h1];obtain⟨k,rfl⟩:∃k:Nat,n=(k:Int):=⟨n.toNat,om⟩;have e:nv B (fl B (a.length-k/64) (nv B a/2^k))=nv B a/2^k:=by
   rw[qj,bD];rw[ED,←lZ];refine cZ (fE _ _) ?_;rcases dW a.length (k/64)with h|h
   ·rw[jQ (eu (eP c) (gX B0 om))];exact bg B0
   ·rw[fP (bg B0),←dn,show a.length-k/64+k/64=a.length from om];exact eP c
  have g:=DF a k c om om;have f:=Hr (fl B (a.length-k/64) (nv B a/2^k)) (oN B0 _ _) (by rw[bH];omega);exact jO (ai @e<|ai @h1<|ai @ae @yc)
