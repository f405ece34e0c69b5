import Derived.Test.YtpopphdnlhihdaaGreatDoorQA
set_option linter.all false
set_option maxRecDepth 2000000
set_option maxHeartbeats 10000000
namespace Go.Proofs.YtpopphdnlhihdaaGreatDoor
open Go Go.RowKit Ab
def zh:=an @aQ<|an @fK<|an @aW<|an @aO<|an @aI<|an @fZ<|an @mJ<|an @dR<|an @iL<|an @wi<|an @lu<|an @gG @di
theorem EL{n:Int}(h1: -9223372036854775808≤n)(h2:n<9223372036854775808):n.natAbs<B^1:=by rw[Nat.pow_one];show _<18446744073709551616;omega
theorem YH(n k:Int)(h1: -9223372036854775808≤n)(h2:n<9223372036854775808)(k1: -9223372036854775808≤k)(k2:k<9223372036854775808):aT 16 [.i .i64 n,.i .i64 k] (.t [rv (mz n k) k.natAbs,.i .i64 (re k.natAbs)]):=by
 have g:=yl n h1 h2;have o2:=yl k k1 k2;have f:=H_ (decide (n<0)) (decide (k<0)) (dg B n.natAbs) (dg B k.natAbs) 1 dc (af _) (af _) (aA (EL h1 h2)) (aA (EL k1 k2));rw[fD,fD,ae]at f;obtain⟨s,a,d,e,_⟩:RV (rv (mz n k) k.natAbs) 1:=YE (by unfold mz;split;(rw[kX];exact EL h1 h2);exact EL h1 h2) (EL k1 k2);rw[e]at f ⊢;generalize re k.natAbs=j at*
 refine b_ aN a_ Tryz.func16 [.c 4 true 3,.t 5] ?_;exact lV @zh
theorem Ia(s:Bool)(a d:List Nat)(c:a.length≤1000000000)(ld:d.length≤1000000000):aT 24 [rL s a d,rL s a d] (.b true):=by
 have g:=zy s s a a c c;have f:=pU d d om om;rw[show(s==s)=true from by cases s<;>rfl,jP,cO rfl]at g;rw[cO rfl]at f;refine f_ aN a_ Tryz.func24 ?_;exact jO @zh
theorem two_val(n i:Nat)(a:i≤n%16):nv 65536 ((List.replicate (n/16+1) 0).set (n/16) (2^i))=2^(16*(n/16)+i):=by
 have h:=zx (b:=65536) (List.replicate (n/16+1) 0) (n/16) (2^i) sy;rw[yB,show(List.replicate (n/16+1) 0).getD (n/16) 0=0 from by simp[dN,List.getElem?_replicate],kG,ik,eY]at h;rw[h,dn,Nat.pow_mul]
theorem Ib(n:Nat):2^n<B^(n/64+1):=by
 rw[B64,←Nat.pow_mul];exact Nat.pow_lt_pow_right dc om
theorem AX(n:Nat)(O:n≤100000000):aT 89 [.i .i64 (n:Int)] (.o 49 1 (W (dg B (2^n)))):=by
 obtain⟨L,H⟩:∃L,L=n/16:=⟨_,rfl⟩;have hq:(n:Int).tdiv 16=(L:Int):=by rw[H];rfl
 have m:(n:Int).tmod 16=((n%16:Nat):Int):=rfl;have y:(0:Int)≤(L:Int)+1:=om;have u:((L:Int)+1).toNat=L+1:=om;have E:IntKind.i64.wrap (L:Int)=(L:Int):=wi om;have hset:=fun x=>Ee (List.replicate (L+1) 0) L x
 have h1s:=hset 1;have A:(D (List.replicate (L+1) 0)).length=L+1:=by rw[fK];simp
 have hval:nv 65536 ((List.replicate (L+1) 0).set L (2^(n%16)))=2^n:=by
  have:=two_val n (n%16) (aY _);rw[←H]at this;rw[this,show 16*L+n%16=n from om]
 have a:∀i,i≤n%16→2^i<65536:=fun i G=>eu (Nat.pow_lt_pow_right dc (show i<16 by omega)) dc
 have hnum:=jI ((List.replicate (L+1) 0).set L (2^(n%16))) (yC (BP dc) _ _ (a _ (aY _))) (by simp;omega);rw[hval]at hnum;refine f_ aN a_ Tryz.func89 ?_;refine aX (ai @h1s<|ai @A<|ai @V4<|ai @E<|ai @u<|ai @y<|ai @hq @zh) ?_;refine aF [] Nat (fun i=>⟨[(0,.i .i64 (n:Int)),(3,.ow 1 0 (L+1)),(4,.i .i64 (i:Int))],[(0,some ⟨3,1,D ((List.replicate (L+1) 0).set L (2^i)),true,false⟩)],1⟩)
  (fun i=>i≤n%16) (fun i=>n%16-i) 0 (aG _) (by exact oL) (by
  exact lC) ?_
 intro i G Q N M I;have wr:IntKind.i64.wrap ((n%16:Nat):Int)=((n%16:Nat):Int):=by
  have:=cu n (show 0<16 by decide);clear m;generalize n%16=z at*
  exact wi om
 by_cases h:(i:Int)<((n%16:Nat):Int)
 ·have l:=wW ((List.replicate (L+1) 0).set L (2^i)) L sy;rw[show((List.replicate (L+1) 0).set L (2^i)).getD L 0=2^i from by rw[dN,zB sy];rfl]at l;have j:(D ((List.replicate (L+1) 0).set L (2^i))).length=L+1:=by rw[fK];simp
  have P:=a i G;have c:=Ee ((List.replicate (L+1) 0).set L (2^i)) L (2^(i+1));rw[List.set_set]at c;have g:((2^i:Nat):Int)*2=((2^(i+1):Nat):Int):=by rw[dO];omega
  have J:2^(i+1)=2^i*2:=dO 2 i;have F:IntKind.i64.wrap ((2^(i+1):Nat):Int)=((2^(i+1):Nat):Int):=by
   generalize 2^(i+1)=z at*
   exact wi om
  obtain⟨C,f⟩:∃C,C=2^(i+1):=⟨_,rfl⟩;rw[←f]at c g F;generalize 2^i=z1 at*
  refine aX (ai @c<|ai @F<|ai @g<|ai @j<|ai @l<|ai @h<|ai @E<|ai @wr<|ai @m<|ai @hq @zh) ?_;refine N _ (i+1) om om ?_;rw[←f];exact lC
 ·obtain rfl:i=n%16:=om;refine aX (ai @h<|ai @wr<|ai @m @zh) ?_;refine M _ _ ?_;exact jO @zh
theorem Tc(s:Bool)(a:List Nat)(m:Nat)(hm:m≤100000000)(f:1≤m)(j:Wd a)(g:a.length≤m):aT 90 [zL s a] (rN (rz (zv s a) 1) (aH (zv s a) 1)):=by
 have u:=(kW 1 dc).frozen;have l:=oH s a (dg B 1) m hm j (af _) g (bK (aA (k:=1) dc) f) (by rw[ae];decide);rw[ae]at l;generalize rz (zv s a) 1=x at*
 generalize aH (zv s a) 1=y at*
 refine b_ aN a_ Tryz.func90 [.c 2 true 3] ?_;exact lV @zh
theorem xq(n:Int)(k:Nat)(h1: -9223372036854775808<n)(h2:n<9223372036854775808)(f:k<9223372036854775808)(a:k≠0):aT 21 [.i .i64 n,.i .i64 (k:Int)] (rN (rz n k) (aH n k)):=by
 have z1:=J5 n h1 h2;have g:=(kW k f).frozen;have r1:=oH (decide (n<0)) (dg B n.natAbs) (dg B k) 1 dc (af _) (af _) (aA (EL om h2)) (aA (by rw[Nat.pow_one];show _<18446744073709551616;omega)) (by rw[ae];exact a);rw[fD,ae]at r1;generalize rz n k=x at*
 generalize aH n k=y at*
 refine b_ aN a_ Tryz.func21 [.c 4 true 3] ?_;exact lV @zh
def dyV(z:Int)(e:Int):V:=if e< -1048576∨1048576<e then .g [.b false,.l 1 [],.l 1 []]else if e<0 then rN (rz z (2^(-e).toNat)) (aH z (2^(-e).toNat))else rN (rz (z*2^e.toNat) 1) (aH (z*2^e.toNat) 1)
def dyE(e:Int):Int:=if e< -1048576∨1048576<e then 3 else 0
theorem YI(s:Bool)(a:List Nat)(e:Int)(m:Nat)(hm:m≤10000000)(G:16385≤m)(u:Wd a)(j:a.length≤m):aT 30 [zL s a,.i .i64 e] (.t [dyV (zv s a) e,.i .i64 (dyE e)]):=by
 by_cases h1:e< -1048576
 ·rw[show dyV (zv s a) e= .g [.b false,.l 1 [],.l 1 []]from au (.inl h1),show dyE e=3 from au (.inl h1)];refine b_ aN a_ Tryz.func30 [.c 4 true 3,.t 5] ?_;exact pcQ (ai @h1 @zh)
 ·by_cases h2:1048576<e
  ·rw[show dyV (zv s a) e= .g [.b false,.l 1 [],.l 1 []]from au (.inr h2),show dyE e=3 from au (.inr h2)];refine b_ aN a_ Tryz.func30 [.c 4 true 3,.t 5] ?_;exact pcQ (ai @h2<|ai @h1 @zh)
  ·rw[show dyE e=0 from ah om];unfold dyV;rw[ah om];by_cases h3:e<0
   ·rw[au h3];obtain⟨n,H⟩:∃n:Nat,-e=(n:Int):=⟨(-e).toNat,om⟩;have C:IntKind.i64.wrap (0-e)=(n:Int):=by rw[wi om];omega
    rw[show(-e).toNat=n from om];have E:=(AX n om).frozen;have r1:=oH s a (dg B (2^n)) m om u (af _) j (bK (aA (Ib n)) om) (by rw[ae];exact Nat.pos_iff_ne_zero.1 (t_ n));rw[ae]at r1;generalize rz (zv s a) (2^n)=x at*
    generalize aH (zv s a) (2^n)=y at*
    generalize dg B (2^n)=t at*
    refine b_ aN a_ Tryz.func30 [.c 4 true 3,.t 5] ?_;exact lV (ai @C<|ai @h3<|ai @h2<|ai @h1 @zh)
   ·rw[ah h3];obtain⟨n,rfl⟩:∃n:Nat,e=(n:Int):=⟨e.toNat,om⟩;rw[show((n:Int)).toNat=n from rfl];have E:=(AX n om).frozen;have f:2^n<B^m:=KE (Ib n) om;have A:=VU false f om;rw[show zI false (2^n)=((2^n:Nat):Int)from rfl]at A;have F:=sD s (decide (((2^n:Nat):Int)<0)) a (dg B (((2^n:Nat):Int)).natAbs) m om u (af _) j (aA f);rw[fD,show((2^n:Nat):Int)=2^n from Int.natCast_pow 2 n]at F;rw[show((2^n:Nat):Int)=2^n from Int.natCast_pow 2 n]at A;have hb:(zv s a*2^n).natAbs<B^(m+16384):=by
     rw[jy,Int.natAbs_pow];exact yS (bF u j) om
    generalize zv s a*2^n=z at*
    have r1:=Tc (decide (z<0)) (dg B z.natAbs) (m+16384) om om (af _) (aA hb);rw[fD]at r1;generalize rz z 1=x at*
    generalize aH z 1=y at*
    refine b_ aN a_ Tryz.func30 [.c 4 true 3,.t 5] ?_;exact lV (ai @h3<|ai @h2<|ai @h1 @zh)
def YJ:=an @aQ<|an @fK<|an @aW<|an @aO<|an @aI<|an @fZ<|an @mJ<|an @dR<|an @iL<|an @wi<|an @lu<|an @gG @di
theorem NS(a:List Nat):(W a).take (min a.length 12)=W (a.take 12):=by
 rw[Nat.min_comm,←aQ a,←List.take_eq_take_min];simp[W]
theorem min12(n:Nat):min (n:Int) 12=((min n 12:Nat):Int):=om
theorem Cf(s:Bool)(a:List Nat):aT 26 [zL s a] (zL s (a.take 12)):=by
 have f:=NS a;have l:=min12 a.length;have m:min a.length 12≤a.length:=Nat.min_le_left _ _;have j:(0:Int)≤((min a.length 12:Nat):Int):=om;have g:((min a.length 12:Nat):Int)≤(a.length:Int):=om;generalize min a.length 12=k at*
 refine b_ aN a_ Tryz.func26 [.c 2 true 2] ?_;refine aX (ai @f<|ai @g<|ai @j<|ai @l @YJ) ?_;exact X0 (ai @f @YJ)
theorem AY(s:Bool)(a d:List Nat):aT 25 [rL s a d] (rL s (a.take 12) (d.take 12)):=by
 have u:=Cf s a;have l:=NS d;have j:=min12 d.length;have m:min d.length 12≤d.length:=Nat.min_le_left _ _;have g:(0:Int)≤((min d.length 12:Nat):Int):=om;have f:((min d.length 12:Nat):Int)≤(d.length:Int):=om;generalize min d.length 12=k at*
 refine b_ aN a_ Tryz.func25 [.c 2 true 3] ?_;exact lV (ai @l<|ai @f<|ai @g<|ai @j @YJ)
def nr(k:Int):Int:=if 3000<k∧k≤1048576∨k< -3000∧ -1048576≤k then k.tmod 3000 else k
def Fe:=an @YF<|an @aQ<|an @fK<|an @aW<|an @aO<|an @aI<|an @fZ<|an @mJ<|an @dR<|an @iL<|an @wi<|an @lu<|an @gG @di
def NT(p:Bool×List Nat×List Nat):Bool×List Nat×List Nat:=(p.1,p.2.1.take 12,p.2.2.take 12)
def KO(l:List (Bool×List Nat×List Nat)):List (Bool×List Nat×List Nat):=(l.take 30).map NT
theorem Qp:∀(l r:List (Bool×List Nat×List Nat)),RC (l++r)=RC l++RC r
 |[],r=>rfl
 |p::l,r=>by simp only[tZ,RC,Qp l r]
abbrev Ff(s0 s1 s2 s3 s4:Bool)(a0 d0 a1 d1 a2 d2 a3 a4:List Nat)(n m k:Int)(l:List (Bool×List Nat×List Nat))(st:List UInt8):V:=
 .g [.b s0,.l 1 (W a0),.l 1 (W d0),.b s1,.l 1 (W a1),.l 1 (W d1),.b s2,.l 1 (W a2),.l 1 (W d2),.b s3,.l 1 (W a3),.b s4,.l 1 (W a4),.i .i64 n,.i .i64 m,.i .i64 k,.l 3 (RC l),.s st]
theorem Qq(s0 s1 s2 s3 j:Bool)(a0 z a1 y A u a3 a4:List Nat)(n m k:Int)(l:List (Bool×List Nat×List Nat))(st:List UInt8):
 aT 5 [Ff s0 s1 s2 s3 j a0 z a1 y A u a3 a4 n m k l st]
  (Ff s0 s1 s2 s3 j (a0.take 12) (z.take 12) (a1.take 12) (y.take 12) (A.take 12) (u.take 12) (a3.take 12) (a4.take 12) n m k (KO l) st):=by
 have Q:=AY s0 a0 z
 have P:=AY s1 a1 y
 have O:=AY s2 A u
 have N:=Cf s3 a3
 have M:=Cf j a4
 have I:=fun p:Bool×List Nat×List Nat=>AY p.1 p.2.1 p.2.2
 generalize a0.take 12=b0 at*
 generalize z.take 12=e0 at*
 generalize a1.take 12=b1 at*
 generalize y.take 12=e1 at*
 generalize A.take 12=Z at*
 generalize u.take 12=T at*
 generalize a3.take 12=Y at*
 generalize a4.take 12=U at*
 have g:((2:Nat) != 0)=true:=rfl
 have hz:=qh l
 have E:l.length*3/3=l.length:=om
 refine b_ aN a_ Tryz.func5 [.c 2 true 18] ?_
 refine pJ @Fe ?_
 refine aF [(3,27,3)] Nat (fun i=>⟨[(1,.pt 0 0),(2,.pt 1 0),(3,.ow 3 2 i),(4,.i .i64 (i:Int))],
  [(0,some ⟨30,18,[.b s0,.l 1 (W b0),.l 1 (W e0),.b s1,.l 1 (W b1),.l 1 (W e1),.b s2,.l 1 (W Z),.l 1 (W T),.b s3,.l 1 (W Y),.b j,.l 1 (W U),.i .i64 n,.i .i64 m,.i .i64 k,.l 3 (RC l),.s st],true,true⟩),
   (1,some ⟨30,18,[.b false,.l 1 [],.l 1 [],.b false,.l 1 [],.l 1 [],.b false,.l 1 [],.l 1 [],.b false,.l 1 [],.b false,.l 1 [],.i .i64 0,.i .i64 0,.i .i64 0,.l 1 [],.s []],true,true⟩),
   (2,some ⟨27,3,RC ((l.take i).map NT),true,false⟩)],3⟩)
  (fun i=>i≤l.length∧i≤30) (fun i=>30-i) 0 ⟨aG _,aG _⟩ (by exact oL) (by
  exact lC) ?_
 intro i ⟨hi,J⟩ Q' L G hr
 by_cases h:(i:Int)<(l.length:Int)
 ·by_cases H:(i:Int)<30
  ·have row:=xA l i om;have F:RC ((l.take i).map NT)++[.b (l.getD i (false,[],[])).1,.l 1 (W ((l.getD i (false,[],[])).2.1.take 12)),.l 1 (W ((l.getD i (false,[],[])).2.2.take 12))]=RC ((l.take (i+1)).map NT):=by
    have a:i<l.length:=om;have C:l.getD i (false,[],[])=l[i]:=by simp[dN,a]
    rw[y7 a,w_,Qp,C];rfl
   have l0:=qh ((l.take i).map NT);have l1:=qh ((l.take (i+1)).map NT);rw[iJ,jo]at l0 l1;have hf:=I (l.getD i (false,[],[]));clear I Q P O N M;generalize l.getD i (false,[],[])=x at*
   repeat first|(refine hK _ ?_;clear hK K)|simp only[Sv,↓reduceIte,Nat.reduceEqDiff]|((first|refine ay (fun K hK=>?_)|refine ax (fun K hK=>?_)|refine ak (fun K hK=>?_)|refine fM ?_|refine dE (by assumption) ?_|refine fO ?_|(apply dF;assumption)|(apply dG;assumption));simp(disch:=(first|omega|assumption)) only[S1,seval,-Int.reduceToNat,-List.reduceReplicate,aK.sb,aK.mut,aU,↓aJ,aV,aC,Fe,h,H,hz,E,row,F])
   refine L _ (i+1) ⟨om,om⟩ om ?_;exact lC
  ·have f:i=30:=om;have e:(l.take i).map NT=KO l:=by rw[f];rfl
   rw[e];repeat first
    |(refine hK _ ?_;clear hK K)
    |((first|refine ay (fun K hK=>?_)|refine ax (fun K hK=>?_)|refine ak (fun K hK=>?_));simp(disch:=(first|omega|assumption)) only[S1,seval,-Int.reduceToNat,-List.reduceReplicate,aK.sb,aK.mut,aU,↓aJ,aV,aC,Fe,h,H,hz,E];refine hK _ ?_;clear hK K)
    |simp only[Sv,↓reduceIte,Nat.reduceEqDiff]
   refine G _ _ ?_;refine aX (ai @g @Fe) ?_;exact X0 @Fe
 ·obtain rfl:i=l.length:=om;have e:(l.take l.length).map NT=KO l:=by unfold KO;rw[iH,jB om]
  rw[e];repeat first
   |(refine hK _ ?_;clear hK K)
   |((first|refine ay (fun K hK=>?_)|refine ax (fun K hK=>?_)|refine ak (fun K hK=>?_));simp(disch:=(first|omega|assumption)) only[S1,seval,-Int.reduceToNat,-List.reduceReplicate,aK.sb,aK.mut,aU,↓aJ,aV,aC,Fe,h,hz,E];refine hK _ ?_;clear hK K)
   |simp only[Sv,↓reduceIte,Nat.reduceEqDiff]
  refine G _ _ ?_;refine aX (ai @g @Fe) ?_;exact X0 @Fe
def Td:=an @aQ<|an @fK<|an @aW<|an @aO<|an @aI<|an @fZ<|an @mJ<|an @dR<|an @iL<|an @wi<|an @lu<|an @gG @di
theorem NU(s:Bool)(a:List Nat)(f:a.length≤1000000000):aT 122 [zL s a] (zL s a):=by
 refine b_ aN a_ Tryz.func122 [.c 2 true 2] ?_;refine aX (ai @C9 @Td) ?_;exact X0 (ai @C9 @Td)
theorem Qr(s:Bool)(a d:List Nat)(f:a.length≤1000000000)(ld:d.length≤1000000000):aT 67 [rL s a d] (rL s a d):=by
 have h:=NU s a f;refine b_ aN a_ Tryz.func67 [.c 2 true 3] ?_;exact lV (ai @C9 @Td)
theorem lc_spec(s:Bool)(a d:List Nat)(f:a.length≤1000000000)(ld:d.length≤1000000000):aT 15 [rL s a d] (rL s a d):=by
 have g:=Qr s a d f ld;refine b_ aN a_ Tryz.func15 [.c 2 true 3] ?_;exact lV @Td
