import Derived.Test.YtpopphdnlhihdaaGreatDoorQE
set_option linter.all false
set_option maxHeartbeats 10000000
set_option maxRecDepth 2000000
namespace Go.Proofs.YtpopphdnlhihdaaGreatDoor
section
open Go Go.RowKit Ab
def cq(p q:Rat):Int:=if p<q then-1 else if p=q then 0 else 1
structure Smp(z:Int)(d:Nat)(w:Int)(e:Nat)(t:Int×Nat):Prop where
 n0:t.2≠0
 co:Nat.gcd t.1.natAbs t.2=1
 lo:z*(t.2:Int)≤t.1*(d:Int)
 hi:t.1*(e:Int)≤w*(t.2:Int)
 mi:∀(x:Int) (y:Nat),0<y→z*(y:Int)≤x*(d:Int)→x*(e:Int)≤w*(y:Int)→t.2≤y
 bn:t.1.natAbs≤z.natAbs
 bd:t.2≤d
end
section
open Go Go.RowKit Ab
def wQ:=an @aQ<|an @fK<|an @aW<|an @aO<|an @aI<|an @fZ<|an @mJ<|an @dR<|an @iL<|an @wi<|an @lu<|an @gG @di
theorem zv_dg(s:Bool)(n:Nat):zv s (dg B n)=zI s n:=by unfold zv;rw[ae]
theorem tmod_z2(s t:Bool)(u v:Nat):(zI s u).tmod (zI t v)=0↔u%v=0:=by
 rw[←K_];unfold zI;split<;>omega
theorem ffl(s t:Bool)(u v:Nat)(c:v≠0):(0≤gp (zI s u)*gp (zI t v)→(zI s u).fdiv (zI t v)=zI false (u/v))∧
 (¬0≤gp (zI s u)*gp (zI t v)→u%v≠0→(zI s u).fdiv (zI t v)=zI true (u/v+1))∧(¬0≤gp (zI s u)*gp (zI t v)→u%v=0→(zI s u).fdiv (zI t v)=zI true (u/v)):=by
 have h0:zI t v≠0:=by unfold zI;split<;>omega
 have e:=La (zI s u) (zI t v) h0
 simp only[ne_eq,tmod_z2,←Gm]at e
 rw[e]
 have hm:u=0→u%v=0∧u/v=0:=fun h=>by subst h;exact⟨Nat.zero_mod _,Nat.zero_div _⟩
 rw[sgz_I,sgz_I,ah c]
 generalize u/v=q at*
 generalize u%v=r at*
 by_cases a:u=0
 ·obtain⟨rfl,rfl⟩:=hm a;rw[au a];cases s<;>cases t<;>simp[zI]
 ·rw[ah a];cases s<;>cases t<;>simp[zI]<;>intros<;>first|omega|(split<;>omega)
variable{x z k:Int}{m:Nat}
theorem Zv{v:Nat}(hx:x.natAbs<B^m):(x.fdiv (v:Int)).natAbs<B^(m+1):=by
 rw[yG x (Int.natCast_nonneg v)];exact cZ (Int.natAbs_ediv_le_natAbs x _) (KE hx (Nat.le_succ m))
theorem Fp(s t:Bool)(a b:List Nat)(m:Nat)(hm:m≤10000000)(ha:Wd a)(hb:Wd b)(la:a.length≤m)(lb:b.length≤m)(h0:nv B b≠0):aT 103 [zL s a,zL t b] (zN ((zv s a).fdiv (zv t b))):=by
 have q1:=xM a b ha hb om om h0;have s1:=AV s a ha om;have s2:=AV t b hb om;have j:=N7 (KY (zv s a)) (KY (zv t b));obtain⟨z,y,u⟩:=ffl s t (nv B a) (nv B b) h0;change 0≤gp (zv s a)*gp (zv t b)→(zv s a).fdiv (zv t b)=_ at z;change¬0≤gp (zv s a)*gp (zv t b)→_→(zv s a).fdiv (zv t b)=_ at y;change¬0≤gp (zv s a)*gp (zv t b)→_→(zv s a).fdiv (zv t b)=_ at u;have g:nv B a/nv B b<B^m:=cZ (fE _ _) (bP ha la);have A:nv B a%nv B b<B^m:=cZ (Nat.mod_le _ _) (bP ha la);have z1:=n_ (dg B (nv B a%nv B b)) (af _) (bK (aA A) om);rw[ae]at z1;have I:=VU false g om;have H:=VU true g om;have F:=(kW 1 dc).frozen;have p1:=(Ef (dg B (nv B a/nv B b)) (dg B 1) (af _) (af _) (bK (aA g) om) (bK (aA (k:=1) dc) dc)).frozen;rw[ae,ae]at p1;have l:nv B a/nv B b+1<B^(m+1):=Bj g (eu (by decide:1<B^1) (gX B0 (by
  rcases kz m with h|h
  ·exfalso;subst h;have:=bP hb lb;rw[Nat.pow_zero]at this;omega
  ·exact h)))
 have G:=VU true l om;generalize nv B a/nv B b=q at*
 generalize nv B a%nv B b=r at*
 generalize (zv s a).fdiv (zv t b)=f at*
 generalize gp (zv s a)=E at*
 generalize gp (zv t b)=C at*
 by_cases hs:0≤E*C
 ·rw[z hs];generalize zI false q=x at*
  refine b_ aN a_ Tryz.func103 [.c 4 true 2] ?_;exact lV (ai @j<|ai @hs @wQ)
 ·by_cases hr:r=0
  ·rw[u hs hr];generalize zI true q=x at*
   rw[cO hr]at z1;refine b_ aN a_ Tryz.func103 [.c 4 true 2] ?_;exact lV (ai @j<|ai @hs @wQ)
  ·rw[y hs hr];generalize zI true (q+1)=x at*
   rw[aZ hr]at z1;refine b_ aN a_ Tryz.func103 [.c 4 true 2] ?_;exact lV (ai @j<|ai @hs @wQ)
theorem hfloorN{v:Nat}(hx:x.natAbs<B^m)(a:v<B^m)(hm:m≤10000000)(h0:v≠0):aT 103 [zN x,zN (v:Int)] (zN (x.fdiv (v:Int))):=by
 have h:=Fp (decide (x<0)) (decide ((v:Int)<0)) (dg B x.natAbs) (dg B (v:Int).natAbs) m hm (af _) (af _) (aA hx) (aA a) (by rw[ae];exact h0);rw[fD,fD]at h;exact h
def Ls(z:Int)(d:Nat)(k:Int):Int:=if d=0∨k< -1048576∨1048576<k then 0 else if k<0 then z.fdiv ((d*2^(-k).toNat:Nat):Int)else(z*2^k.toNat).fdiv (d:Int)
def IY(d:Nat)(k:Int):Int:=if d=0 then 1 else if k< -1048576∨1048576<k then 3 else 0
theorem IE{d:Nat}(h:d=0∨k< -1048576∨1048576<k):Ls z d k=0:=au h
theorem glV_n{d n:Nat}(h0:d≠0)(a:n≤1048576)(h1:0<n):Ls z d (-(n:Int))=z.fdiv ((d*2^n:Nat):Int):=by
 unfold Ls;rw[ah om,au om,show(-(-(n:Int))).toNat=n from om]
theorem JM{d n:Nat}(h0:d≠0)(a:n≤1048576):Ls z d (n:Int)=(z*2^n).fdiv (d:Int):=by
 unfold Ls;rw[ah om,ah om,show((n:Int)).toNat=n from rfl]
theorem glV_abs{d:Nat}(hz:z.natAbs<B^m):(Ls z d k).natAbs<B^(m+16385):=by
 unfold Ls;split
 ·exact bg B0
 ·split
  ·exact KE (Zv hz) om
  ·refine Zv (m:=m+16384) ?_;rw[jy,Int.natAbs_pow];exact yS hz om
theorem Ae(s:Bool)(a d:List Nat)(k:Int)(m:Nat)(hm:m≤3000000)(H:16385≤m)(ha:Wd a)(hd:Wd d)(la:a.length≤m)(ld:d.length≤m):aT 41 [rL s a d,.i .i64 k] (.t [zN (Ls (zv s a) (nv B d) k),.i .i64 (IY (nv B d) k)]):=by
 have y:=jW s a d hd om;by_cases h0:nv B d=0
 ·rw[cO h0]at y;rw[IE (.inl h0),show IY (nv B d) k=1 from au h0,Ja];refine b_ aN a_ Tryz.func41 [.c 4 true 2,.t 5] ?_;exact lV @wQ
 ·rw[aZ h0]at y;by_cases h1:k< -1048576
  ·rw[IE (.inr (.inl h1)),show IY (nv B d) k=3 from by unfold IY;rw[ah h0,au (.inl h1)],Ja];refine b_ aN a_ Tryz.func41 [.c 4 true 2,.t 5] ?_;exact lV (ai @h1 @wQ)
  ·by_cases h2:1048576<k
   ·rw[IE (.inr (.inr h2)),show IY (nv B d) k=3 from by unfold IY;rw[ah h0,au (.inr h2)],Ja];refine b_ aN a_ Tryz.func41 [.c 4 true 2,.t 5] ?_;exact lV (ai @h2<|ai @h1 @wQ)
   ·rw[show IY (nv B d) k=0 from by unfold IY;rw[ah h0,ah om]];by_cases h3:0<k
    ·obtain⟨n,rfl⟩:∃n:Nat,k=(n:Int):=⟨k.toNat,om⟩;rw[JM h0 om];have C:=(AX n om).frozen;have f:2^n<B^m:=KE (Ib n) om;have j:=VU false f om;rw[show zI false (2^n)=((2^n:Nat):Int)from rfl]at j;have g:=sD s (decide (((2^n:Nat):Int)<0)) a (dg B (((2^n:Nat):Int)).natAbs) m om ha (af _) la (aA f);rw[fD]at g;have F:=uY false d hd om;rw[oC]at F;have hb:(zv s a*((2^n:Nat):Int)).natAbs<B^(m+m):=mul_lt (bF ha la) f;rw[show zv s a*2^n=zv s a*((2^n:Nat):Int)from by rw[Int.natCast_pow];rfl];generalize zv s a*((2^n:Nat):Int)=z at*
     have A:=hfloorN hb (KE (bP hd ld) (by omega:m≤m+m)) om h0;generalize 2^n=u at*
     generalize z.fdiv (nv B d:Int)=q at*
     generalize (nv B d:Int)=J at*
     generalize (u:Int)=I at*
     generalize (n:Int)=E at*
     refine b_ aN a_ Tryz.func41 [.c 4 true 2,.t 5] ?_;exact lV (ai @h3<|ai @h2<|ai @h1 @wQ)
    ·obtain⟨n,rfl⟩:∃n:Nat,k= -(n:Int):=⟨(-k).toNat,om⟩;have G:IntKind.i64.wrap (0- -(n:Int))=(n:Int):=by rw[wi om];omega
     have C:=(AX n om).frozen;have f:2^n<B^m:=KE (Ib n) om;have g:=(vw d (dg B (2^n)) hd (af _) om (bK (aA f) om)).frozen;rw[ae]at g;have hb:nv B d*2^n<B^(m+m):=rF (bP hd ld) f;have l:nv B d*2^n≠0:=mM h0 (Nat.pos_iff_ne_zero.1 (t_ n));have e1:Ls (zv s a) (nv B d) (-(n:Int))=(zv s a).fdiv ((nv B d*2^n:Nat):Int):=by
      rcases kz n with h|h
      ·subst h;rw[show(-((0:Nat):Int))=((0:Nat):Int)from rfl,JM h0 om,Int.pow_zero,Int.mul_one,Nat.pow_zero,aO]
      ·exact glV_n h0 om h
     rw[e1];have j:=VU false hb om;rw[show zI false (nv B d*2^n)=((nv B d*2^n:Nat):Int)from rfl]at j;have A:=Fp s (decide (((nv B d*2^n:Nat):Int)<0)) a (dg B (((nv B d*2^n:Nat):Int)).natAbs) (m+m) om ha (af _) om (aA hb) (by rw[ae];exact l);rw[fD]at A;generalize nv B d*2^n=w at*
     generalize (zv s a).fdiv (w:Int)=q at*
     generalize (w:Int)=ww at*
     generalize dg B (2^n)=u at*
     generalize (n:Int)=E at*
     refine b_ aN a_ Tryz.func41 [.c 4 true 2,.t 5] ?_;exact lV (ai @G<|ai @h3<|ai @h2<|ai @h1 @wQ)
theorem IG(z:Int){d k:Nat}(a:0<k):(z*(k:Int)).fdiv ((d*k:Nat):Int)=z.fdiv (d:Int):=by
 rw[yG _ (Int.natCast_nonneg _),yG _ (Int.natCast_nonneg _),jC];exact Int.mul_ediv_mul_of_pos_left _ _ om
theorem Lu(z:Int)(d:Nat)(k:Int)(h:d≠0):Ls (rz z d) (aH z d) k=Ls z d k:=by
 have h1:=tK (z:=z) (d:=d);have f:=oI (z:=z) (d:=d);have p1:=oZ (z:=z) h;have p2:=g_ (z:=z) h;generalize rz z d=a at*
 generalize aH z d=b at*
 generalize rG z d=g at*
 unfold Ls;by_cases hk:k< -1048576∨1048576<k
 ·rw[au (.inr hk),au (.inr hk)]
 ·rw[ah (show¬(b=0∨k< -1048576∨1048576<k)from om),ah (show¬(d=0∨k< -1048576∨1048576<k)from om)];rw[←h1,←f];by_cases c:k<0;all_goals (first|rw[au c,au c]|rw[ah c,ah c])
  ·rw[show b*g*2^(-k).toNat=b*2^(-k).toNat*g from by rw[fB,bV g,←fB]];exact(IG a p1).symm
  ·rw[Int.mul_right_comm];exact(IG _ p1).symm
theorem glE_red(z:Int)(d:Nat)(k:Int)(h:d≠0):IY (aH z d) k=IY d k:=by
 unfold IY;rw[ah (g_ h),ah h]
theorem pO(z:Int)(d:Nat):aH z d≤d:=fE _ _
theorem xG(z:Int)(d:Nat):(rz z d).natAbs≤z.natAbs:=by rw[uH];exact fE _ _
theorem II(s:Bool)(a d:List Nat)(k:Int)(m:Nat)(hm:m≤3000000)(g:16385≤m)(ha:Wd a)(hd:Wd d)(la:a.length≤m)(ld:d.length≤m):aT 42 [rL s a d,.i .i64 k] (.t [zN (-(Ls (-(zv s a)) (nv B d) k)),.i .i64 (IY (nv B d) k)]):=by
 have j:=jW s a d hd om;by_cases h0:nv B d=0
 ·rw[cO h0]at j;rw[IE (.inl h0),show IY (nv B d) k=1 from au h0,Int.neg_zero,Ja];refine b_ aN a_ Tryz.func42 [.c 4 true 2,.t 5] ?_;exact lV @wQ
 ·rw[aZ h0]at j;have n1:=vK s a d m om ha hd la ld h0;have l:(-(zv s a)).natAbs<B^m:=by rw[kX];exact bF ha la
  have hx:(rz (-(zv s a)) (nv B d)).natAbs<B^m:=cZ (xG _ _) l;have u:aH (-(zv s a)) (nv B d)<B^m:=cZ (pO _ _) (bP hd ld);have f:=Ae (decide (rz (-(zv s a)) (nv B d)<0)) (dg B (rz (-(zv s a)) (nv B d)).natAbs) (dg B (aH (-(zv s a)) (nv B d))) k m hm g (af _) (af _) (aA hx) (aA u);rw[fD,ae,Lu _ _ _ h0,glE_red _ _ _ h0]at f;have hq:=glV_abs (d:=nv B d) (k:=k) l;by_cases he:IY (nv B d) k=0
  ·rw[he]at f ⊢;generalize Ls (-(zv s a)) (nv B d) k=q at*
   have A:=Jk (decide (q<0)) (dg B q.natAbs) (af _) (bK (aA hq) om);rw[fD]at A;generalize rz (-(zv s a)) (nv B d)=x at*
   generalize aH (-(zv s a)) (nv B d)=y at*
   refine b_ aN a_ Tryz.func42 [.c 4 true 2,.t 5] ?_;exact lV @wQ
  ·have z:Ls (-(zv s a)) (nv B d) k=0:=by
    unfold IY at he;refine IE ?_;split at he
    ·rename_i h;exact .inl h
    ·split at he
     ·rename_i h;exact .inr h
     ·exact absurd rfl he
   rw[z]at f ⊢;rw[Int.neg_zero,Ja];rw[Ja]at f;generalize IY (nv B d) k=C at*
   generalize rz (-(zv s a)) (nv B d)=x at*
   generalize aH (-(zv s a)) (nv B d)=y at*
   refine b_ aN a_ Tryz.func42 [.c 4 true 2,.t 5] ?_;exact lV (ai @he @wQ)
end
section
open Go Go.RowKit Ab
def TI:=an @aQ<|an @fK<|an @aW<|an @aO<|an @aI<|an @fZ<|an @mJ<|an @dR<|an @iL<|an @wi<|an @lu<|an @gG @di
variable{a:List Nat}{c:Nat}
theorem ma_step{w i:Nat}:nv B (a.take (i+1))*w+c=(nv B (a.take i)*w+c)+B^i*(a.getD i 0*w):=by
 rw[az,kQ,fB];omega
theorem ma_lt{w:Nat}(ha:Wd a)(f:w<B)(g:c<B)(i:Nat):(nv B (a.take i)*w+c)/B^i<B:=by
 refine(fP (bg B0)).2 ?_;have h1:=dD (b:=B) dc ha i;have m:nv B (a.take i)*w≤(B^i-1)*(B-1):=tX om om;have l:(B^i-1)*(B-1)+(B-1)=B^i*(B-1):=by
  rw[←Nat.succ_mul];congr 1;have:=bg (n:=i) B0;omega
 have j:B*B^i=B^i*(B-1)+B^i:=by
  rw[bV,←Nat.mul_succ];rfl
 have:=bg (n:=i) B0;omega
theorem TK{T i y:Nat}:(T+B^i*y)/B^(i+1)=(y+T/B^i)/B∧(T+B^i*y)/B^i%B=(y+T/B^i)%B∧fl B i (T+B^i*y)=fl B i T:=by
 refine⟨?_,?_,jg B0 (uy _ _ _)⟩
 ·rw[dO,←lZ,oP _ _ (bg B0),Nat.add_comm]
 ·rw[oP _ _ (bg B0),Nat.add_comm]
noncomputable def a151:AC:=gc Tryz.prog Tryz.f151
theorem Oj(a:List Nat)(w c:Nat)(ha:Wd a)(m:w<18446744073709551616)(z:c<18446744073709551616)(la:a.length≤1099511627776):
 aT 151 [.l 1 (W a),.i .u64 (w:Int),.i .u64 (c:Int)] (.to 49 1 (W (fl B a.length (nv B a*w+c))) [.i .u64 (((nv B a*w+c)/B^a.length:Nat):Int)]):=by
 refine fC.mkt aN a_ Tryz.func151 rfl (ac:=a151) kf rfl dc rfl dc ?_
 apply gm
 unfold a151
 conv in gc _ _=>reduce
 simp only[dw,eU,Int.reduceOfNat,Int.reduceNegSucc]
 refine aX @TI ?_
 refine aF [] Nat (fun i=>⟨[(1,.i .u64 (w:Int)),(2,.i .u64 (((nv B (a.take i)*w+c)/B^i:Nat):Int)),(8,.ow 1 0 a.length),(14,.l 1 (W a)),(15,.i .i64 (a.length:Int)),(16,.i .i64 (i:Int))],
  [(0,some ⟨49,1,W (fl B i (nv B (a.take i)*w+c)++List.replicate (a.length-i) 0),true,false⟩)],1⟩)
  (fun i=>i≤a.length) (fun i=>a.length-i) 0 (aG _) (by exact oL) (by
  refine tV trivial ?_
  refine⟨by simp[nv],?_⟩
  rw[Nat.sub_zero,fl,uQ];exact EF _) ?_
 intro i E F A he C
 by_cases h:(i:Int)<a.length
 ·have hx:=fV ha i;have hm:=AA (a.getD i 0) w ((nv B (a.take i)*w+c)/B^i) 0 hx m (ma_lt ha m z i) dc;rw[ik]at hm;have f:=ma_step (a:=a) (w:=w) (c:=c) (i:=i);have j:(fl B i (nv B (a.take i)*w+c)++List.replicate (a.length-i) 0).length=a.length:=by rw[bZ,nS,bH];omega
  have hset:(fl B i (nv B (a.take i)*w+c)++List.replicate (a.length-i) 0).set i ((a.getD i 0*w+(nv B (a.take i)*w+c)/B^i)%18446744073709551616)=fl B (i+1) (nv B (a.take (i+1))*w+c)++List.replicate (a.length-(i+1)) 0:=by
   obtain⟨n1,n2,u⟩:=TK (T:=nv B (a.take i)*w+c) (i:=i) (y:=a.getD i 0*w);rw[f,iY,n2,u,show a.length-i=(a.length-(i+1))+1 from om,nR,nZ _ _ (by rw[bH];exact aY _),bH,gW,List.set_cons_zero,nY];rfl
  have g:(a.getD i 0*w+(nv B (a.take i)*w+c)/B^i)/18446744073709551616=(nv B (a.take (i+1))*w+c)/B^(i+1):=by
   rw[f,(TK (T:=nv B (a.take i)*w+c) (i:=i) (y:=a.getD i 0*w)).1];rfl
  generalize (nv B (a.take i)*w+c)/B^i=ci at*
  refine pJ (ai @hset<|ai @ny<|ai @j<|ai @aQ<|ai @dH<|ai @h @TI) ?_;refine A _ (i+1) om om ?_;refine tV trivial ?_;refine⟨?_,?_⟩<;>first|omega|rw[g]
 ·obtain rfl:i=a.length:=om;refine aX (ai @h @TI) ?_;refine he _ _ ?_;refine aX @TI ?_;rw[gW,List.replicate_zero,qF,iH];exact⟨⟨_,_,rfl,rfl,rfl⟩,⟨rfl,rfl⟩,trivial⟩
end
section
open Go Go.RowKit Ab
def bz_MT:=an @aQ<|an @fK<|an @aW<|an @aO<|an @aI<|an @fZ<|an @mJ<|an @dR<|an @iL<|an @wi<|an @lu<|an @gG @di
theorem Ol(a:List Nat)(w:Nat)(ha:Wd a)(g:w<18446744073709551616)(la:a.length≤1000000000):aT 115 [.l 1 (W a),.i .u64 (w:Int)] (.o 49 1 (W (dg B (nv B a*w)))):=by
 have h1:=Oj a w 0 ha g dc om;rw[ik]at h1;have c:nv B a*w/B^a.length<B:=by
  have:=ma_lt ha g (show 0<B by decide) a.length;rwa[iH,ik]at this
 have hb:nv B a*w<B^(a.length+1):=by
  rw[dO,bV _ B];exact(fP (bg B0)).1 c
 have j:=vI (fl B (a.length+1) (nv B a*w)) (by rw[bH];omega);rw[xI B2 hb]at j;have e:fl B (a.length+1) (nv B a*w)=fl B a.length (nv B a*w)++[nv B a*w/B^a.length]:=by rw[iY,bD c]
 have lf:=bH (b:=B) a.length (nv B a*w);rw[e]at j;generalize nv B a*w/B^a.length=top at*
 generalize nv B a*w=v at*
 generalize fl B a.length v=f at*
 refine f_ aN a_ Tryz.func115 ?_;repeat first|(refine hK _ ?_;clear hK K)|simp only[Sv,↓reduceIte,Nat.reduceEqDiff]|((first|refine ay (fun K hK=>?_)|refine ax (fun K hK=>?_)|refine ak (fun K hK=>?_)|refine fM ?_|refine dE (by assumption) ?_|refine fO ?_|(apply dF;assumption)|(apply dG;assumption));simp(disch:=(first|omega|assumption)) only[S1,seval,-Int.reduceToNat,-List.reduceReplicate,aK.sb,aK.mut,aU,↓aJ,aV,aC,bz_MT,lf,EC])
 simp(disch:=(first|omega|assumption)) only[dY,iF,iK,jv,fA,V.aP,bW,bY,S1,seval,-Int.reduceToNat,-List.reduceReplicate,aK.sb,aK.mut,aU,↓aJ,aV,aC,bz_MT,lf,EC]
end
section
open Go Go.RowKit Ab
def xH:=an @aQ<|an @fK<|an @aW<|an @aO<|an @aI<|an @fZ<|an @mJ<|an @dR<|an @iL<|an @wi<|an @lu<|an @gG @di
theorem VK(s t:Bool)(a b d e:List Nat)(m:Nat)(hm:m≤3000000)(C:1≤m)(ha:Wd a)(hb:Wd b)(hd:Wd d)(he:Wd e)(la:a.length≤m)(lb:b.length≤m)(ld:d.length≤m)(le:e.length≤m):
 aT 38 [rL s a d,rL t b e] (.t [rv (zv s a*(nv B e:Int)+zv t b*(nv B d:Int)) (nv B d*nv B e*2),.i .i64 (re (nv B d*nv B e*2))]):=by
 have h1:=oJ s t a b d e hd he om om
 by_cases h0:nv B d*nv B e=0
 ·rw[h0,kS]at h1;rw[h0,iT,wH,kS];refine b_ aN a_ Tryz.func38 [.c 4 true 3,.t 5] ?_;exact lV @xH
 ·rw[ja h0]at h1;have I:=wL s t a b d e m om ha hb hd he la lb ld le h0;have j:=xq 1 2 dc dc dc dc;rw[show rz 1 2=1 from by decide+kernel,show aH 1 2=2 from by decide+kernel]at j;replace j:aT 21 [.i .i64 1,.i .i64 2] (.g [.b false,.l 1 (W (dg B 1)),.l 1 (W (dg B 2))]):=j;have E:(zv s a*(nv B e:Int)+zv t b*(nv B d:Int)).natAbs<B^(m+m+1):=cZ (Int.natAbs_add_le _ _) (Bj (mul_lt (bF ha la) (bP he le)) (mul_lt (bF hb lb) (bP hd ld)));have F:nv B d*nv B e<B^(m+m):=rF (bP hd ld) (bP he le);generalize zv s a*(nv B e:Int)+zv t b*(nv B d:Int)=S at*
  generalize nv B d*nv B e=D0 at*
  have f:D0*2≠0:=om;rw[rX _ f,ja f];have bx:(rz S D0).natAbs<B^(m+m+1):=cZ (xG _ _) E;have u:aH S D0<B^(m+m):=cZ (pO _ _) F;have A:=Fg (decide (rz S D0<0)) false (dg B (rz S D0).natAbs) (dg B 1) (dg B (aH S D0)) (dg B 2) (m+m+1) om (af _) (af _) (af _) (af _) (aA bx) (bK (aA (k:=1) dc) om) (aA (KE u om)) (bK (aA (k:=1) dc) om) (by rw[ae,ae];have:=g_ (z:=S) h0;omega);have e1:rz (rz S D0) (aH S D0*2)=rz S (D0*2)∧aH (rz S D0) (aH S D0*2)=aH S (D0*2):=by
   have g0:=oZ (z:=S) h0;have k1:=zW (z:=rz S D0) (d:=aH S D0*2) g0;have k2:=wK (z:=rz S D0) (d:=aH S D0*2) g0;rw[tK,Nat.mul_right_comm,oI]at k1 k2;exact⟨k1.symm,k2.symm⟩
  rw[fD,zv_dg,show zI false 1=1 from rfl,ae,ae,Int.mul_one,e1.1,e1.2]at A;generalize rz S (D0*2)=x2 at*
  generalize aH S (D0*2)=G at*
  generalize rz S D0=x at*
  generalize aH S D0=y at*
  generalize dg B 1=H at*
  generalize dg B 2=o2 at*
  refine b_ aN a_ Tryz.func38 [.c 4 true 3,.t 5] ?_;exact lV @xH
def Zw(u d k:Nat):Prop:=d<u*2^k∧∀j,j<k→u*2^j≤d
variable{u:Nat}
theorem Zx{d:Nat}(l:u≠0):∃k,Zw u d k∧k≤bl d:=by
 have key:∀n,(∃k,Zw u d k∧k≤n)∨∀j,j≤n→u*2^j≤d:=fun n=>by
  induction n with
  |zero=>
   by_cases h:d<u*2^0
   ·exact .inl ⟨0,⟨h,fun j a=>om⟩,aY _⟩
   ·exact .inr fun j a=>by
     obtain rfl:j=0:=om;omega
  |succ n g=>
   rcases g with ⟨k,h1,c⟩|h
   ·exact .inl ⟨k,h1,om⟩
   ·by_cases c:d<u*2^(n+1)
    ·exact .inl ⟨n+1,⟨c,fun j a=>h j om⟩,aY _⟩
    ·exact .inr fun j a=>by
      rcases dW j (n+1)with f|f
      ·exact h j om
      ·obtain rfl:j=n+1:=om;omega
 rcases key (bl d)with h|h
 ·exact h
 ·have h1:=h (bl d) (aY _);have c:=zJ d;have f:1*2^bl d≤u*2^bl d:=kF _ om;omega
theorem fin_bl{d k:Nat}(y:u≠0)(hd:d≠0)(h:Zw u d k):(k=bl d-bl u∧d<u*2^(bl d-bl u))∨(k=bl d-bl u+1∧¬d<u*2^(bl d-bl u)):=by
 obtain⟨h1,j⟩:=h;obtain⟨m,z⟩:=Dz y;have l:=zJ u;obtain⟨G,F⟩:=Dz hd;have E:=zJ d;have lo:bl d-bl u≤k:=by
  rcases dW k (bl d-bl u)with a|a
  ·exfalso;have g:u*2^k<2^bl u*2^k:=Nat.mul_lt_mul_of_pos_right l (t_ k);rw[←dn]at g;have f:2^(bl u+k)≤2^(bl d-1):=gX dc om;omega
  ·exact a
 have A:k≤bl d-bl u+1:=by
  rcases dW (bl d-bl u+1) k with a|a
  ·exfalso;have g:=j (bl d-bl u+1) a;have f:2^(bl u-1)*2^(bl d-bl u+1)≤u*2^(bl d-bl u+1):=kF _ m;rw[←dn]at f;have C:2^bl d≤2^(bl u-1+(bl d-bl u+1)):=gX dc om;omega
  ·exact a
 by_cases c:d<u*2^(bl d-bl u)
 ·left;refine⟨?_,c⟩;rcases dW (bl d-bl u) k with a|a
  ·have:=j _ a;omega
  ·omega
 ·right;refine⟨?_,c⟩;rcases Nat.eq_or_lt_of_le lo with a|a
  ·rw[←a]at h1;exact absurd h1 c
  ·omega
theorem Jc(a:List Nat)(n M:Nat)(ha:Wd a)(A:a.length+n≤M)(z:M≤10000000000):aT 120 [.l 1 (W a),.i .i64 (n:Int)] (.l 1 (W (dg B (nv B a*2^n)))):=by
 obtain⟨U,j⟩:∃U,U=nv B a*2^n:=⟨_,rfl⟩;rw[←j];refine f_ aN a_ Tryz.func120 ?_;refine aX @xH ?_;refine aF [] (List Nat×Nat) (fun x=>⟨[(0,.l 1 (W x.1)),(1,.i .i64 (x.2:Int))],[],0⟩)
  (fun x=>Wd x.1∧nv B x.1*2^x.2=U∧x.1.length+x.2≤M) (fun x=>x.2) (a,n) ⟨ha,j.symm,A⟩ (by exact oL) (by
  exact lC) ?_
 rintro⟨x,k⟩ ⟨hx,g,hl⟩ F u he C;simp only[]at hx g hl ⊢;by_cases h:(1048576:Int)<(k:Int)
 ·obtain⟨E,hE⟩:∃E:Nat,E=1048576:=⟨_,rfl⟩;have c:=wz x (E:Int) hx om;rw[Lr om]at c;have hb:nv B x*2^E<B^(x.length+16384):=yS (bP hx (aY _)) om;have f:nv B x*2^E*2^(k-E)=U:=by
   rw[fB,←dn,show E+(k-E)=k from om];exact g
  generalize nv B x*2^E=y at*
  subst hE;replace c:aT 127 [.l 1 (W x),.i .i64 1048576] (.t [.l 1 (W (dg B y)),.i .i64 0]):=c;have m:IntKind.i64.wrap ((k:Int)-1048576)=((k-1048576:Nat):Int):=by rw[wi om];omega
  refine pJ (ai @m<|ai @h @xH) ?_;refine u _ (dg B y,k-1048576) ⟨af _,by rw[ae];exact f,by have:=aA hb;simp only;omega⟩ (by simp only;omega) ?_;exact lC
 ·have c:=wz x (k:Int) hx om;rw[Lr om,g]at c;refine aX (ai @h @xH) ?_;refine he _ _ ?_;exact jO @xH
theorem Zy(s:Bool)(a d:List Nat)(k m:Nat)(hm:m≤10000000)(ha:Wd a)(hd:Wd d)(la:a.length≤m)(ld:d.length≤m)(h0:nv B d≠0)(A:0<zv s a)(F:Zw (nv B a) (nv B d) k):aT 64 [rL s a d] (.t [.i .i64 (k:Int),.i .i64 0]):=by
 have h1:=mD s a d hd om;rw[ah h0]at h1;have J:=jX s a ha om;have j:gp (zv s a)=1:=by unfold gp;rw[ah om,au A]
 rw[j]at J;have C:nv B a≠0:=fun h=>by rw[KU.2 h]at A;omega
 have P:=mX d hd om;have O:=QM s a ha om;have N:=(JD s a ha om).frozen;have c1:=KX ha;have c2:=KX hd;have I:=Jc (dg B (nv B a)) (bl (nv B d)-bl (nv B a)) 1000000000 (af _) (by have:=aA (bP ha la);omega) dc;rw[ae]at I;have hb:nv B a*2^(bl (nv B d)-bl (nv B a))<B^(m+(bl (nv B d)-bl (nv B a))):=Oh (bP ha la) om;have H:=DC d (dg B (nv B a*2^(bl (nv B d)-bl (nv B a)))) hd (af _) om (bK (aA hb) om);rw[ae]at H;have z:IntKind.i64.wrap ((bl (nv B d):Int)-(bl (nv B a):Int))=(bl (nv B d):Int)-(bl (nv B a):Int):=wi om;have y:max ((bl (nv B d):Int)-(bl (nv B a):Int)) 0=((bl (nv B d)-bl (nv B a):Nat):Int):=om;have L:=fin_bl C h0 F;have c:=RF (nv B d) (nv B a*2^(bl (nv B d)-bl (nv B a)));have E:bl (nv B d)-bl (nv B a)≤1000000000:=om;generalize M:bl (nv B d)-bl (nv B a)=u at*
 generalize nv B a*2^u=f at*
 rcases L with ⟨rfl,G⟩|⟨rfl,G⟩
 ·have l:¬(0:Int)≤sg (nv B d) f:=by rw[c];omega
  generalize sg (nv B d) f=g at*
  refine f_ aN a_ Tryz.func64 ?_;exact jO (ai @l<|ai @y<|ai @z @xH)
 ·have l:(0:Int)≤sg (nv B d) f:=by rw[c];omega
  generalize sg (nv B d) f=g at*
  rw[show(((u+1:Nat)):Int)=(u:Int)+1 from rfl];refine f_ aN a_ Tryz.func64 ?_;exact jO (ai @l<|ai @y<|ai @z @xH)
theorem Zz(s:Bool)(a d:List Nat)(m:Nat)(hm:m≤10000000)(ha:Wd a)(hd:Wd d)(la:a.length≤m)(ld:d.length≤m)(h0:nv B d≠0)(f:zv s a≤0):aT 64 [rL s a d] (.t [.i .i64 0,.i .i64 2]):=by
 have h1:=mD s a d hd om;rw[ah h0]at h1;have j:=jX s a ha om;have c:gp (zv s a)≤0:=by unfold gp;split;decide;rw[ah om];decide
 generalize gp (zv s a)=g at*
 refine f_ aN a_ Tryz.func64 ?_;exact jO (ai @c @xH)
theorem ZA(s:Bool)(a d:List Nat)(m:Nat)(hm:m≤10000000)(hd:Wd d)(ld:d.length≤m)(h0:nv B d=0):aT 64 [rL s a d] (.t [.i .i64 0,.i .i64 1]):=by
 have h1:=mD s a d hd om;rw[au h0]at h1;refine f_ aN a_ Tryz.func64 ?_;exact jO @xH
end
section
open Go Go.RowKit Ab
def Af:=an @aQ<|an @fK<|an @aW<|an @aO<|an @aI<|an @fZ<|an @mJ<|an @dR<|an @iL<|an @wi<|an @lu<|an @gG<|an @di @dH
def zo(d:Nat):UInt8:=(48+d).toUInt8
def CE(u:Nat):List UInt8:=if u=0 then[48]else(dg 10 u).reverse.map zo
theorem chr_n{d:Nat}(h:d<10):((zo d).toNat:Nat)=48+d:=by
 unfold zo;rw[Nat.toUInt8_eq,UInt8.toNat_ofNat'];omega
theorem VL(u:Nat):∀d,d∈dg 10 u→d<10:=uK dc u
variable{u m:Nat}{l:List Nat}{z:Int}
theorem Om{n:Nat}(h:u<2^n):(dg 10 u).length≤n:=by
 rcases kz (dg 10 u).length with h0|h0
 ·omega
 ·have h1:=yz (b:=10) (BO (b:=10) u) (fun e=>by rw[e]at h0;cases h0);rw[qU dc]at h1;have c:2^((dg 10 u).length-1)≤10^((dg 10 u).length-1):=Nat.pow_le_pow_left dc _;have a:2^((dg 10 u).length-1)<2^n:=om;have:=(BN (by decide:1<2)).1 a;omega
theorem ZB(m:Nat):B^m=2^(64*m):=by rw[Nat.pow_mul];rfl
theorem Ag(h:u<B^m):(CE u).length≤64*m+1:=by
 unfold CE;split
 ·simp
 ·rw[iJ,List.length_reverse];have:=Om (by rw[←ZB];exact h:u<2^(64*m));omega
theorem ZC(l:List UInt8)(i:Nat)(c:UInt8):(Bt l).set i (.i .u8 (c.toNat:Int))=Bt (l.set i c):=by simp[Bt]
theorem mk_Bt(n:Nat):(List.replicate n [V.i .u8 0]).flatten=Bt (List.replicate n 0):=by
 induction n with
 |zero=>rfl
 |succ n a=>rw[nR,xx,a];rfl
theorem tab_ten:∀d:Nat,d<10→(match BA.getD d .un with| .i .u8 n=>decide (n=((48+d:Nat):Int))|_=>false)=true:=by decide+kernel
theorem tab_chr{d:Nat}(h:d<10):BA.getD d .un= .i .u8 ((zo d).toNat:Int):=by
 have:=tab_ten d h;rw[chr_n h];split at this
 ·rename_i n e;rw[e];simp at this;rw[this];rfl
 ·cases this
theorem TL{i:Nat}(a:i<l.length):(List.replicate (l.length-i) (0:UInt8)++(l.take i).reverse.map zo).set (l.length-1-i) (zo (l.getD i 0))=List.replicate (l.length-(i+1)) 0++(l.take (i+1)).reverse.map zo:=by
 have e1:l.length-i=(l.length-(i+1))+1:=om;rw[y7 a,List.reverse_append,List.reverse_singleton,List.singleton_append,dI,e1,List.replicate_succ',nY,nZ _ _ (by rw[nS];omega),nS,show l.length-1-i-(l.length-(i+1))=0 from om];rw[dN,bC a];rfl
theorem TM{i:Nat}(a:i≤l.length):(List.replicate (l.length-i) (0:UInt8)++(l.take i).reverse.map zo).length=l.length:=by
 rw[bZ,nS,iJ,List.length_reverse,jo];omega
theorem VM(a:List Nat)(m:Nat)(hm:m≤10000000)(ha:Wd a)(la:a.length≤m):aT 126 [.l 1 (W a),.i .i64 10] (.s (CE (nv B a))):=by
 have hd:=JE a 10 ha dc om;rw[show dgE 10=0 from rfl,show dgD (nv B a) 10=dg 10 (nv B a)from rfl]at hd;have hl:=Om (by rw[←ZB];exact bP ha la:nv B a<2^(64*m));have j:=VL (nv B a);have F:dg 10 (nv B a)=[]↔nv B a=0:=uz dc;unfold CE;by_cases h0:nv B a=0
 ·rw[au h0];rw[F.2 h0]at hd;have omap:∀x:List UInt8,(some x).map V.s=some (.s x):=fun _=>rfl
  have e1:bytesOf (List.take (Int.toNat 1) BA)=some [48]:=by decide+kernel
  have G:BA.length=36:=rfl;refine Jq aN a_ Tryz.func126 Vo ?_;unfold Vo;simp only[dw,eU,qm,qr,qn];repeat first|(refine hK _ ?_;clear hK K)|simp only[Sv,↓reduceIte,Nat.reduceEqDiff]|((first|refine ay (fun K hK=>?_)|refine ax (fun K hK=>?_)|refine ak (fun K hK=>?_)|refine fM ?_|refine dE (by assumption) ?_|refine fO ?_|(apply dF;assumption)|(apply dG;assumption));simp(disch:=(first|omega|assumption)) only[S1,seval,-Int.reduceToNat,-List.reduceReplicate,aK.sb,aK.mut,aU,↓aJ,aV,aC,Af,e1,G,omap])
  simp(disch:=(first|omega|assumption)) only[dY,iF,iK,jv,fA,V.aP,bW,bY,S1,seval,-Int.reduceToNat,-List.reduceReplicate,aK.sb,aK.mut,aU,↓aJ,aV,aC,Af,e1,G,omap]
 ·rw[ah h0];generalize dg 10 (nv B a)=l at*
  have y:l≠[]:=fun h=>h0 (F.1 h)
  have J:¬(l.length:Int)=0:=by have:=yD.2 y;omega
  have omap:∀x:List UInt8,(some x).map V.s=some (.s x):=fun _=>rfl
  have g:BA.length=36:=rfl;refine Jq aN a_ Tryz.func126 Vo ?_;unfold Vo;simp only[dw,eU,qm,qr,qn];refine pJ (ai @J @Af) ?_;refine aF [] Nat (fun i=>⟨[(5,.l 1 (W l)),(7,.ow 1 0 l.length),(25,.l 1 (W l)),(26,.i .i64 (l.length:Int)),(27,.i .i64 (i:Int))],[(0,some ⟨5,1,Bt (List.replicate (l.length-i) 0++(l.take i).reverse.map zo),true,false⟩)],1⟩)
   (fun i=>i≤l.length) (fun i=>l.length-i) 0 (aG _) (by exact oL) (by
   refine tV trivial ?_
   refine⟨?_,by rw[Nat.sub_zero,List.take_zero,List.reverse_nil,fJ,qF];exact mk_Bt _⟩
   rfl) ?_
  intro i L O M he N;by_cases h:(i:Int)<(l.length:Int)
  ·have f:i<l.length:=om;have z:l.getD i 0<10:=by
    rw[dN,bC f];exact j _ (uP _)
   have ht:=tab_chr z;have hset:=TL f;have u:=TM (l:=l) (i:=i) L;have E:(((l.getD i 0:Nat):Int))<36:=om;have I:IntKind.i64.wrap ((l.length:Int)-1)=((l.length-1:Nat):Int):=by rw[wi om];omega
   have H:IntKind.i64.wrap (((l.length-1:Nat):Int)-(i:Int))=((l.length-1-i:Nat):Int):=by rw[wi om];omega
   have c:((l.length-1-i:Nat):Int)<(l.length:Int):=om;have hb:=ZC (List.replicate (l.length-i) 0++(l.take i).reverse.map zo) (l.length-1-i) (zo (l.getD i 0));rw[hset]at hb;have C:(Bt (List.replicate (l.length-i) 0++(l.take i).reverse.map zo)).length=l.length:=by rw[He,u]
   generalize Bt (List.replicate (l.length-i) 0++(l.take i).reverse.map zo)=bt at*
   refine aX (ai @hb<|ai @C<|ai @eY<|ai @E<|ai @g<|ai @ht<|ai @c<|ai @H<|ai @I<|ai @h @Af) ?_;refine M _ (i+1) om om ?_;exact lC
  ·obtain rfl:i=l.length:=om;have e:List.replicate (l.length-l.length) (0:UInt8)++(l.take l.length).reverse.map zo=l.reverse.map zo:=by rw[gW,iH];rfl
   rw[e];have A:=BX (l.reverse.map zo);refine aX (ai @h @Af) ?_;refine he _ _ ?_;refine aX (ai @omap<|ai @A @Af) ?_;exact rP @Af
theorem Fq(a:List Nat)(m:Nat)(hm:m≤10000000)(ha:Wd a)(la:a.length≤m):aT 71 [.l 1 (W a)] (.s (CE (nv B a))):=by
 have h:=VM a m hm ha la;generalize CE (nv B a)=c at*
 refine f_ aN a_ Tryz.func71 ?_;exact jO @Af
theorem zN_neg(h:z<0):zN z= .g [.b true,.l 1 (W (dg B z.natAbs))]:=by show V.g [.b (decide (z<0)),_]=_;rw[cO h]
theorem zN_pos(h:¬z<0):zN z= .g [.b false,.l 1 (W (dg B z.natAbs))]:=by show V.g [.b (decide (z<0)),_]=_;rw[aZ h]
def zS(z:Int):List UInt8:=if z<0 then 45::CE z.natAbs else CE z.natAbs
theorem zS_len(h:z.natAbs<B^m):(zS z).length≤64*m+2:=by
 have:=Ag h;unfold zS;split
 ·rw[dX];omega
 ·omega
theorem Oo(s:Bool)(a:List Nat)(m:Nat)(hm:m≤10000000)(ha:Wd a)(la:a.length≤m):aT 69 [zL s a] (.s (zS (zv s a))):=by
 have h1:=wG s a ha om;have g:=bF (s:=s) ha la;unfold zS;generalize zv s a=z at*
 have j:=Fq (dg B z.natAbs) m hm (af _) (aA g);rw[ae]at j;have l:=Ag g;generalize CE z.natAbs=c at*
 by_cases h:z<0
 ·rw[au h];rw[zN_neg h]at h1;have e1:([45]:List UInt8).length+c.length≤9223372036854775807:=by rw[GM];omega
  have f:([45]:List UInt8)++c=45::c:=rfl;refine Jq aN a_ Tryz.func69 a69 ?_;unfold a69;simp only[dw,eU,qm,qr,qn];repeat first|(refine hK _ ?_;clear hK K)|simp only[Sv,↓reduceIte,Nat.reduceEqDiff]|((first|refine ay (fun K hK=>?_)|refine ax (fun K hK=>?_)|refine ak (fun K hK=>?_)|refine fM ?_|refine dE (by assumption) ?_|refine fO ?_|(apply dF;assumption)|(apply dG;assumption));simp(disch:=(first|omega|assumption)) only[S1,seval,-Int.reduceToNat,-List.reduceReplicate,aK.sb,aK.mut,aU,↓aJ,aV,aC,Af,e1,f])
  simp(disch:=(first|omega|assumption)) only[dY,iF,iK,jv,fA,V.aP,bW,bY,S1,seval,-Int.reduceToNat,-List.reduceReplicate,aK.sb,aK.mut,aU,↓aJ,aV,aC,Af,e1,f]
 ·rw[ah h];rw[zN_pos h]at h1;refine Jq aN a_ Tryz.func69 a69 ?_;unfold a69;simp only[dw,eU,qm,qr,qn];exact jO @Af
end
section
open Go Go.RowKit Ab
def o_:=an @aQ<|an @fK<|an @aW<|an @aO<|an @aI<|an @fZ<|an @mJ<|an @dR<|an @iL<|an @wi<|an @lu<|an @gG @di
theorem bl1{y:Nat}(h:y≠0):bl y=1↔y=1:=by
 constructor
 ·intro h1;have:=zJ y;rw[h1]at this;omega
 ·intro h1;subst h1;exact KA (k:=0) dc dc
theorem ZE{u:Nat}(h:u≠0):bl u=ct u+1↔u/2^ct u=1:=by
 obtain⟨m,hm⟩:=JG h;have h1:2^ct u≤u:=by
  have:2^ct u*1≤2^ct u*(2*m+1):=iZ _ om;omega
 have c:=Hm h1;have a:u/2^ct u≠0:=by have:=Nat.div_pos h1 (t_ (ct u));omega
 rw[←bl1 a];omega
def lvV(z:Int)(d:Nat):Int:=if d=0 then 0 else if bl (aH z d)=ct (aH z d)+1 then(ct (aH z d):Int)else 0
def lvE(z:Int)(d:Nat):Int:=if d=0 then 1 else if bl (aH z d)=ct (aH z d)+1 then 0 else 4
theorem Oq(s:Bool)(a d:List Nat)(m:Nat)(hm:m≤10000000)(ha:Wd a)(hd:Wd d)(la:a.length≤m)(ld:d.length≤m):aT 63 [rL s a d] (.t [.i .i64 (lvV (zv s a) (nv B d)),.i .i64 (lvE (zv s a) (nv B d))]):=by
 have n1:=wI s a d m om ha hd la ld;unfold lvV lvE;by_cases h0:nv B d=0
 ·rw[h0,wH,kS]at n1;rw[au h0,au h0];refine f_ aN a_ Tryz.func63 ?_;exact jO @o_
 ·rw[rX _ h0,ja h0]at n1;rw[ah h0,ah h0];have c:aH (zv s a) (nv B d)<B^m:=cZ (pO _ _) (bP hd ld);have j:=g_ (z:=zv s a) h0;generalize rz (zv s a) (nv B d)=x at*
  generalize aH (zv s a) (nv B d)=y at*
  have g:=VI (dg B y) (af _) (bK (aA c) om);have f:=mX (dg B y) (af _) (bK (aA c) om);have u:=KX (af y);rw[ae]at g f u;have l:bl y≤1000000000:=by have:=aA c;omega
  have A:=Ik (zJ y) j;by_cases h1:bl y=ct y+1
  ·rw[au h1,au h1];have h1I:((bl y:Nat):Int)=((ct y:Nat):Int)+1:=om;rw[h1I]at f;generalize ct y=k at*
   refine f_ aN a_ Tryz.func63 ?_;exact jO @o_
  ·rw[ah h1,ah h1];have h1I:¬((bl y:Nat):Int)=((ct y:Nat):Int)+1:=om;generalize ct y=k at*
   generalize bl y=b at*
   refine f_ aN a_ Tryz.func63 ?_;exact jO (ai @h1I @o_)
theorem LC(d:List Nat)(m:Nat)(hm:m≤10000000)(hd:Wd d)(ld:d.length≤m)(h0:nv B d≠0):aT 105 [.l 1 (W d),.l 1 (W (dg B 2))] (.t [.i .i64 ((ct (nv B d):Nat):Int),.l 1 (W (dg B (nv B d/2^ct (nv B d)))),.i .i64 0]):=by
 have z1:=n_ d hd om;rw[aZ h0]at z1;have A:=(kW 1 dc).frozen;have c1:=BM (dg B 2) (dg B 1) (af _) (af _) (bK (aA (k:=1) dc) dc) (bK (aA (k:=1) dc) dc);rw[ae,ae,show sg 2 1=1 from dc]at c1;have n1:=(yA d hd om).frozen;have f:=bP hd ld;have j:ct (nv B d)<64*m:=Ik (by rw[show(2:Nat)^(64*m)=B^m from by rw[Nat.pow_mul];rfl];exact f) h0;obtain⟨e1,y⟩:=ct_bit h0;obtain⟨u,c⟩:∃u,u=nv B d:=⟨_,rfl⟩;rw[←c]at h0 n1 f j e1 y ⊢;refine f_ aN a_ Tryz.func105 ?_;refine pJ @o_ ?_;refine aF [] Nat (fun i=>⟨[(1,.l 1 (W (dg B 2))),(7,.i .i64 (i:Int)),(8,.l 1 (W (dg B (u/2^i))))],[],0⟩) (fun i=>i≤ct u) (fun i=>ct u-i) 0 (aG _) (by exact oL) (by
  simp(disch:=(first|omega|assumption)) only[Sl,Sa,Sw,↓reduceIte,Nat.reduceEqDiff,Nat.reduceLT,jH,iI,Nat.reduceBneDiff,Nat.reduceAdd,ku,ne_eq,reduceCtorEq,kP,mZ,jf,jP,bW,bY,and_self,m_];try simp) ?_
 intro i E F z he g;have q1:=xM (dg B (u/2^i)) (dg B 2) (af _) (af _) (bK (aA (cZ (fE _ _) f)) om) (bK (aA (k:=1) dc) dc) (by rw[ae];decide);rw[ae,ae,lZ,←dO]at q1;have a:=n_ (dg B (u/2^i%2)) (af _) (bK (aA (k:=1) (by have:=cu (u/2^i) (show 0<2 by decide);rw[Nat.pow_one];show _<18446744073709551616;omega)) dc);rw[ae]at a;by_cases h:i=ct u
 ·subst h;rw[e1]at a q1;rw[aZ dc]at a;generalize dg B (u/2^ct u)=q at*
  generalize dg B (u/2^(ct u).succ)=C at*
  refine pJ @o_ ?_;refine g _ ?_;exact U8 @o_
 ·rw[y i om]at a q1;rw[cO rfl]at a;refine pJ @o_ ?_;refine z _ (i+1) om om ?_;refine tV trivial ?_;first|rfl|omega|exact⟨om,rfl⟩
theorem Ot(s:Bool)(a d:List Nat)(m:Nat)(hm:m≤10000000)(ha:Wd a)(hd:Wd d)(la:a.length≤m)(ld:d.length≤m):aT 46 [rL s a d] (.t [.i .i64 (lvV (zv s a) (nv B d)),.i .i64 (lvE (zv s a) (nv B d))]):=by
 have f:=jW s a d hd om;unfold lvV lvE;by_cases h0:nv B d=0
 ·rw[cO h0]at f;rw[au h0,au h0];refine f_ aN a_ Tryz.func46 ?_;exact jO @o_
 ·rw[aZ h0]at f;rw[ah h0,ah h0];have n1:=oH s a d m om ha hd la ld h0;have g:aH (zv s a) (nv B d)<B^m:=cZ (pO _ _) (bP hd ld);have c:=g_ (z:=zv s a) h0;generalize rz (zv s a) (nv B d)=x at*
  generalize aH (zv s a) (nv B d)=y at*
  have j:=(kW 2 dc).frozen;have l:=(kW 1 dc).frozen;have c1:=LC (dg B y) m hm (af _) (aA g) (by rw[ae];exact c);rw[ae]at c1;have e1:=pU (dg B (y/2^ct y)) (dg B 1) (bK (aA (cZ (fE _ _) g)) om) (bK (aA (k:=1) dc) dc);have hinj:(dg B (y/2^ct y)=dg B 1)↔y/2^ct y=1:=⟨fun h=>by have:=congrArg (nv B) h;rwa[ae,ae]at this,fun h=>by rw[h]⟩;have u:=Ik (zJ y) c;by_cases h1:bl y=ct y+1
  ·rw[au h1,au h1];rw[cO (hinj.2 ((ZE c).1 h1))]at e1;generalize dg B (y/2^ct y)=q at*
   generalize ct y=k at*
   refine f_ aN a_ Tryz.func46 ?_;exact jO @o_
  ·rw[ah h1,ah h1];rw[aZ (fun h=>h1 ((ZE c).2 (hinj.1 h)))]at e1;generalize dg B (y/2^ct y)=q at*
   generalize ct y=k at*
   refine f_ aN a_ Tryz.func46 ?_;exact jO @o_
theorem ZF(s:Bool)(a d:List Nat)(k m:Nat)(hm:m≤10000000)(ha:Wd a)(hd:Wd d)(la:a.length≤m)(ld:d.length≤m)(h0:nv B d≠0)(G:0<zv s a)(c:Zw (nv B a) (nv B d) k):aT 47 [rL s a d] (.t [.i .i64 (k:Int),.i .i64 0]):=by
 have h1:=jW s a d hd om;rw[aZ h0]at h1;have P:=yR s a d ha om;have C:gp (zv s a)=1:=by unfold gp;rw[ah om,au G]
 rw[C]at P;have F:nv B a≠0:=fun h=>by rw[KU.2 h]at G;omega
 have O:=(yA a ha om).frozen;have H:=bP ha la;have I:=bP hd ld;have c2:=KX hd;have L:k≤64*m:=by
  obtain⟨z,j,M⟩:=Zx (u:=nv B a) (d:=nv B d) F;have:k=z:=by
   rcases Nat.lt_trichotomy k z with h|h|h
   ·have:=j.2 k h;have:=c.1;omega
   ·exact h
   ·have:=c.2 z h;have:=j.1;omega
  omega
 obtain⟨u,A⟩:∃u,u=nv B a:=⟨_,rfl⟩;rw[←A]at c F O H;have lt:∀i,i≤k→u*2^i<B^(m+1):=fun i y=>by
  rcases kz i with h|h
  ·subst h;rw[Nat.pow_zero,aO];exact KE H om
  ·have:=c.2 (i-1) om;rw[show i=(i-1)+1 from om,dO,←fB,Nat.mul_two];exact Bj (cZ this I) (cZ this I)
 refine f_ aN a_ Tryz.func47 ?_;refine pJ @o_ ?_;refine aF [] Nat (fun i=>⟨[(1,.pt 0 0),(4,.i .i64 (i:Int)),(5,.l 1 (W (dg B (u*2^i))))],[(0,some ⟨27,3,[.b s,.l 1 (W a),.l 1 (W d)],true,true⟩)],1⟩) (fun i=>i≤k) (fun i=>k-i) 0 (aG _) (by exact oL) (by
  simp(disch:=(first|omega|assumption)) only[Sl,Sa,Sw,↓reduceIte,Nat.reduceEqDiff,Nat.reduceLT,jH,iI,Nat.reduceBneDiff,Nat.reduceAdd,ku,ne_eq,reduceCtorEq,kP,mZ,jf,jP,bW,bY,and_self,m_];try simp) ?_
 intro i y Q N he J;have c1:=BM d (dg B (u*2^i)) hd (af _) om (bK (aA (lt i y)) om);rw[ae]at c1;have f:=RF (nv B d) (u*2^i);have p1:=(Ef (dg B (u*2^i)) (dg B (u*2^i)) (af _) (af _) (bK (aA (lt i y)) om) (bK (aA (lt i y)) om)).frozen;rw[ae,←Nat.mul_two,fB,←dO]at p1;by_cases h:i=k
 ·subst h;have E:¬(0:Int)≤sg (nv B d) (u*2^i):=by rw[f];have:=c.1;omega
  generalize sg (nv B d) (u*2^i)=g at*
  refine pJ (ai @E @o_) ?_;refine he _ _ ?_;exact U8 @o_
 ·have E:(0:Int)≤sg (nv B d) (u*2^i):=by rw[f];exact c.2 i om
  generalize sg (nv B d) (u*2^i)=g at*
  refine pJ (ai @E @o_) ?_;refine N _ (i+1) om om ?_;refine tV trivial ?_;first|rfl|omega|exact⟨om,rfl⟩
theorem ZG(s:Bool)(a d:List Nat)(m:Nat)(hm:m≤10000000)(ha:Wd a)(hd:Wd d)(la:a.length≤m)(ld:d.length≤m)(h0:nv B d≠0)(f:zv s a≤0):aT 47 [rL s a d] (.t [.i .i64 0,.i .i64 2]):=by
 have h1:=jW s a d hd om;rw[aZ h0]at h1;have j:=yR s a d ha om;have c:gp (zv s a)≤0:=by unfold gp;split;decide;rw[ah om];decide
 generalize gp (zv s a)=g at*
 refine f_ aN a_ Tryz.func47 ?_;exact jO (ai @c @o_)
theorem ZH(s:Bool)(a d:List Nat)(m:Nat)(hm:m≤10000000)(hd:Wd d)(ld:d.length≤m)(h0:nv B d=0):aT 47 [rL s a d] (.t [.i .i64 0,.i .i64 1]):=by
 have h1:=jW s a d hd om;rw[cO h0]at h1;refine f_ aN a_ Tryz.func47 ?_;exact jO @o_
end
section
open Go Go.RowKit Ab
def LD:=an @aQ<|an @fK<|an @aW<|an @aO<|an @aI<|an @fZ<|an @mJ<|an @dR<|an @iL<|an @wi<|an @lu<|an @gG<|an @di @dH
variable{z:Int}
theorem rN_neg{d:Nat}(h:z<0):rN z d= .g [.b true,.l 1 (W (dg B z.natAbs)),.l 1 (W (dg B d))]:=by show V.g [.b (decide (z<0)),_,_]=_;rw[cO h]
theorem rN_nn{d:Nat}(h:¬z<0):rN z d= .g [.b false,.l 1 (W (dg B z.natAbs)),.l 1 (W (dg B d))]:=by show V.g [.b (decide (z<0)),_,_]=_;rw[aZ h]
def qS(z:Int)(d:Nat):List UInt8:=if d≤1 then zS z else zS z++47::CE d
def qpV(z:Int)(d:Nat):List UInt8:=if d=0 then[]else qS (rz z d) (aH z d)
theorem bl_gt1{d:Nat}:(1<bl d)=(1<d):=by
 refine propext ⟨fun h=>?_,fun h=>?_⟩
 ·rcases dW 1 d with h1|h1
  ·exact h1
  ·have:d=0∨d=1:=om;rcases this with rfl|rfl
   ·rw[bl_0]at h;omega
   ·rw[KA (x:=1) (k:=0) dc dc]at h;omega
 ·have h1:=(Dz (x:=d) om).2;rcases dW 1 (bl d)with a|a
  ·exact a
  ·have c:=zJ d;rw[show bl d=1 from om]at c;omega
theorem Ou(s:Bool)(a d:List Nat)(m:Nat)(hm:m≤10000000)(ha:Wd a)(hd:Wd d)(la:a.length≤m)(ld:d.length≤m):aT 17 [rL s a d] (.t [.s (qpV (zv s a) (nv B d)),.i .i64 (re (nv B d))]):=by
 have h1:=wI s a d m om ha hd la ld;unfold qpV;by_cases h0:nv B d=0
 ·rw[au h0];rw[h0,wH,kS]at h1;rw[h0,kS];refine Jq aN a_ Tryz.func17 a17 ?_;unfold a17;simp only[dw,eU,qm,qr,qn];exact jO @LD
 ·rw[ah h0];rw[rX _ h0,ja h0]at h1;rw[ja h0];have z:(rz (zv s a) (nv B d)).natAbs<B^m:=cZ (xG _ _) (bF ha la);have j:aH (zv s a) (nv B d)<B^m:=cZ (pO _ _) (bP hd ld);generalize rz (zv s a) (nv B d)=x at*
  generalize aH (zv s a) (nv B d)=y at*
  have E:=Oo (decide (x<0)) (dg B x.natAbs) m hm (af _) (aA z);rw[fD]at E;have C:=mX (dg B y) (af _) (bK (aA j) om);rw[ae]at C;have A:=Fq (dg B y) m hm (af _) (aA j);rw[ae]at A;have l1:=zS_len z;have G:=Ag j;have l:=bl_gt1 (d:=y);unfold qS;generalize zS x=u at*
  generalize CE y=v at*
  by_cases h:y≤1
  ·rw[au h];have g:¬(1:Int)<((bl y:Nat):Int):=by
    intro H;have:1<bl y:=om;rw[l]at this;omega
   generalize bl y=F at*
   refine Jq aN a_ Tryz.func17 a17 ?_;unfold a17;simp only[dw,eU,qm,qr,qn];exact jO (ai @g @LD)
  ·rw[ah h];have g:(1:Int)<((bl y:Nat):Int):=by
    have:1<bl y:=by rw[l];omega
    omega
   have e1:([47]:List UInt8).length+v.length≤9223372036854775807:=by rw[GM];omega
   have f:u.length+(([47]:List UInt8)++v).length≤9223372036854775807:=by rw[bZ,GM];omega
   have c:([47]:List UInt8)++v=47::v:=rfl;generalize bl y=F at*
   rw[c]at f;refine Jq aN a_ Tryz.func17 a17 ?_;unfold a17;simp only[dw,eU,qm,qr,qn];repeat first|(refine hK _ ?_;clear hK K)|simp only[Sv,↓reduceIte,Nat.reduceEqDiff]|((first|refine ay (fun K hK=>?_)|refine ax (fun K hK=>?_)|refine ak (fun K hK=>?_)|refine fM ?_|refine dE (by assumption) ?_|refine fO ?_|(apply dF;assumption)|(apply dG;assumption));simp(disch:=(first|omega|assumption)) only[S1,seval,-Int.reduceToNat,-List.reduceReplicate,aK.sb,aK.mut,aU,↓aJ,aV,aC,LD,g,e1,f,c])
   simp(disch:=(first|omega|assumption)) only[dY,iF,iK,jv,fA,V.aP,bW,bY,S1,seval,-Int.reduceToNat,-List.reduceReplicate,aK.sb,aK.mut,aU,↓aJ,aV,aC,LD,g,e1,f,c]
end
section
open Go Go.RowKit Ab
def nP:=an @aQ<|an @fK<|an @aW<|an @aO<|an @aI<|an @fZ<|an @mJ<|an @dR<|an @iL<|an @wi<|an @lu<|an @gG<|an @di @dH
theorem Bt_app1(l:List UInt8)(d:Nat)(h:d<10):Bt l++[V.i .u8 ((48+d:Nat):Int)]=Bt (l++[zo d]):=by
 rw[←chr_n h];simp[Bt]
theorem Bt_get'(l:List Nat)(i:Nat)(h:i<l.length):(Bt (l.map zo)).getD i .un= .i .u8 ((zo (l.getD i 0)).toNat:Int):=by
 rw[Bt_get _ _ (by rw[iJ];exact h),dN,iU,bC h,dN,bC h];rfl
theorem VN{v:Nat}(h:v<10)(h0:v≠0):dg B v=[v]:=by
 rcases(show v=1∨v=2∨v=3∨v=4∨v=5∨v=6∨v=7∨v=8∨v=9 by omega)with rfl|rfl|rfl|rfl|rfl|rfl|rfl|rfl|rfl<;>decide+kernel
theorem wu8{v:Nat}(h:v<256):IntKind.u8.wrap (v:Int)=(v:Int):=by
 rw[IntKind.wrap_u8];omega
def a109:AC:= .seq (.reg [qr 2 (.mv (.k (.s [])))]) (.seq (.seq (.reg [qm 10 0,qr 11 (.call 88 [(1,(.t 10))])]) (.cond (.t 11) (.seq (.reg [qr 2 (.mv (.k (.s [48])))]) (.ret)) (.skip))) (.seq (.reg [qr 3 (.mv (.k .nl))]) (.seq (.reg [qm 12 0,qr 13 (.call 106 [(1,(.t 12))]),qm 4 13]) (.seq (.blk 0 (.loop (.seq (.seq (.reg [qm 14 4,qr 15 (.call 88 [(1,(.t 14))]),qr 16 (.un .not (.t 15))]) (.cond (.t 16) (.skip) (.exit 0))) (.blk 1 (.seq (.reg [qm 18 4,qr 19 (.call 76 [(1,(.k (.i .i64 10)))]),qr 20 (.call 136 [(1,(.t 18)),(1,(.t 19))]),qm 17 20,qr 21 (.ext (.t 17) 0),qr 22 (.ext (.t 17) 1),qm 5 21,qm 6 22]) (.seq (.reg [qr 7 (.mv (.k (.i .u8 0)))]) (.seq (.seq (.reg [qm 23 6,qr 24 (.len (.t 23)),qr 25 (.bin .gtr (.t 24) (.k (.i .i64 0)))]) (.cond (.t 25) (.reg [qm 26 6,qr 27 (.idx 1 (.t 26) (.k (.i .i64 0))),qr 28 (.ld false 1 (.t 27)),qr 29 (.MK .u8 (.t 28)),qm 7 29]) (.skip))) (.seq (.reg [qm 30 3,qm 31 7,qr 32 (.bin .add (.k (.i .u8 48)) (.t 31)),qr 33 (.RN 5 1 1 [(.i .u8 0)] [(0,(.t 32))]),qr 34 (.app 5 1 1 (.t 30) (.t 33)),qm 3 34]) (.reg [qm 35 5,qm 4 35]))))))))) (.seq (.reg [qm 36 3,qr 37 (.len (.t 36)),qr 38 (.mk 5 1 1 [(.i .u8 0)] (.t 37) (.t 37)),qm 8 38]) (.seq (.seq (.reg [qr 9 (.mv (.k (.i .i64 0)))]) (.blk 2 (.loop (.seq (.seq (.reg [qm 39 9,qm 40 3,qr 41 (.len (.t 40)),qr 42 (.bin .lss (.t 39) (.t 41))]) (.cond (.t 42) (.skip) (.exit 2))) (.seq (.blk 3 (.reg [qm 45 8,qm 46 3,qr 47 (.len (.t 46)),qr 48 (.bin .sub (.t 47) (.k (.i .i64 1))),qm 49 9,qr 50 (.bin .sub (.t 48) (.t 49)),qm 51 3,qm 52 9,qr 53 (.idx 1 (.t 51) (.t 52)),qr 54 (.ld false 1 (.t 53)),qr 55 (.idx 1 (.t 45) (.t 50)),qn (.st 1 (.t 55) (.t 54))])) (.reg [qm 43 9,qr 44 (.bin .add (.t 43) (.k (.i .i64 1))),qm 9 44])))))) (.seq (.reg [qm 56 8,qr 57 (.Uf .b2s [(.t 56)]),qm 2 57]) (.ret))))))))
theorem BI(a:List Nat)(m:Nat)(hm:m≤10000000)(ha:Wd a)(la:a.length≤m):aT 109 [.l 1 (W a)] (.s (CE (nv B a))):=by
 have z1:=n_ a ha om;have n1:=(yA a ha om).frozen;have P:=bP ha la;have Y:=(kW 10 dc).frozen;unfold CE;generalize nv B a=u at*
 by_cases h0:u=0
 ·rw[cO h0]at z1;rw[au h0];refine Jq aN a_ Tryz.func109 a109 ?_;unfold a109;simp only[dw,eU,qm,qr,qn];exact jO @nP
 ·rw[aZ h0]at z1;rw[ah h0];have hz:=fun i=>n_ (dg B (u/10^i)) (af _) (bK (aA (cZ (fE _ _) P)) om)
  have hq:=fun i=>xM (dg B (u/10^i)) (dg B 10) (af _) (af _) (bK (aA (cZ (fE _ _) P)) om) (bK (aA (k:=1) dc) dc) (by rw[ae];decide)
  simp only[ae,lZ,←dO]at hz hq;have hbig:∀i,0<u/10^i→i<64*m:=fun i h=>by
   have h1:10^i≤u:=by
    rcases dW u (10^i)with c|c
    ·rw[jQ c]at h;omega
    ·exact c
   have c:2^i≤10^i:=Nat.pow_le_pow_left dc i;have h3:2^i<2^(64*m):=by rw[←ZB];omega
   exact(BN (by decide:1<2)).1 h3
  have TG:∀i,(i=0∨0<u/10^(i-1))→i≤64*m:=fun i h=>by
   rcases h with h|h
   ·omega
   ·have:=hbig _ h;omega
  refine Jq aN a_ Tryz.func109 a109 ?_;unfold a109;simp only[dw,eU,qm,qr,qn];refine pJ @nP ?_;refine aF [(3,5,1)] Nat (fun i=>⟨[(3,.ow 1 0 i),(4,.l 1 (W (dg B (u/10^i))))],[(0,some ⟨5,1,Bt ((fl 10 i u).map zo),true,false⟩)],1⟩)
   (fun i=>i=0∨0<u/10^(i-1)) (fun i=>u/10^i) 0 (.inl rfl) (by exact oL) (by
   refine tV trivial ?_
   rw[Nat.pow_zero,aW]
   repeat' first|rfl|omega|(simp only[bZ,dX,dJ];done)|apply And.intro) ?_
  intro i F Q' Q he hr;have hil:=TG i F;have y:=hz i;by_cases h1:u/10^i=0
  ·rw[cO h1]at y;have e:fl 10 i u=dg 10 u:=by
    refine CX dc (F.imp id fun h=>?_) ?_
    ·rcases dW u (10^(i-1))with c|c
     ·rw[jQ c]at h;omega
     ·exact c
    ·rcases dW u (10^i)with c|c
     ·exact c
     ·have:=(rZ (bg (by decide:0<10))).2 (by rw[iV];exact c:1*10^i≤u);omega
   have hl:i=(dg 10 u).length:=by rw[←e,bH]
   rw[e];clear hq hz hbig TG e;refine pJ @nP ?_;refine he _ _ ?_;generalize dg 10 u=l at*
   subst hl;have g:(Bt (l.map zo)).length=l.length:=by rw[He,iJ]
   have omap:∀x:List UInt8,(some x).map V.s=some (.s x):=fun _=>rfl
   refine aX (ai @g @nP) ?_;refine aF [] Nat (fun i=>⟨[(3,.ow 1 0 l.length),(8,.ow 1 1 l.length),(9,.i .i64 (i:Int))],[(0,some ⟨5,1,Bt (l.map zo),true,false⟩),(1,some ⟨5,1,Bt (List.replicate (l.length-i) 0++(l.take i).reverse.map zo),true,false⟩)],2⟩)
    (fun i=>i≤l.length) (fun i=>l.length-i) 0 (aG _) (by exact oL) (by
    refine tV trivial ?_
    refine⟨?_,by rw[Nat.sub_zero,List.take_zero,List.reverse_nil,fJ,qF];exact mk_Bt _⟩
    first|rfl|trivial) ?_
   intro i F Q'' N L hr';by_cases h:(i:Int)<(l.length:Int)
   ·have C:i<l.length:=om;have hset:=TL C;have I:=TM (l:=l) (i:=i) F;have Z:IntKind.i64.wrap ((l.length:Int)-1)=((l.length-1:Nat):Int):=by rw[wi om];omega
    have U:IntKind.i64.wrap (((l.length-1:Nat):Int)-(i:Int))=((l.length-1-i:Nat):Int):=by rw[wi om];omega
    have z:((l.length-1-i:Nat):Int)<(l.length:Int):=om;have hb:=ZC (List.replicate (l.length-i) 0++(l.take i).reverse.map zo) (l.length-1-i) (zo (l.getD i 0));rw[hset]at hb;have E:(Bt (List.replicate (l.length-i) 0++(l.take i).reverse.map zo)).length=l.length:=by rw[He,I]
    have J:=Bt_get' l i C;generalize Bt (List.replicate (l.length-i) 0++(l.take i).reverse.map zo)=bt at*
    refine aX (ai @J<|ai @hb<|ai @E<|ai @g<|ai @eY<|ai @z<|ai @U<|ai @Z<|ai @h @nP) ?_;refine N _ (i+1) om om ?_;exact lC
   ·obtain rfl:i=l.length:=om;have e:List.replicate (l.length-l.length) (0:UInt8)++(l.take l.length).reverse.map zo=l.reverse.map zo:=by rw[gW,iH];rfl
    rw[e];have M:=BX (l.reverse.map zo);refine aX (ai @h @nP) ?_;refine L _ _ ?_;refine aX (ai @omap<|ai @M @nP) ?_;exact rP @nP
  ·rw[aZ h1]at y;have H:0<u/10^i:=C_ h1;have j:=hq i;have A:u/10^(i+1)<u/10^i:=by rw[dO,←lZ];exact Nat.div_lt_self H dc
   have O:u/10^i%10<10:=cu _ dc;have e1:(fl 10 (i+1) u).map zo=(fl 10 i u).map zo++[zo (u/10^i%10)]:=by rw[iY,w_];rfl
   have g:(Bt ((fl 10 i u).map zo)).length=i:=by rw[He,iJ,bH]
   have f:=Bt_app1 ((fl 10 i u).map zo) (u/10^i%10) O;rw[←e1]at f;generalize u/10^i%10=v at*
   generalize Bt ((fl 10 i u).map zo)=bt at*
   by_cases hv0:v=0
   ·subst hv0;rw[uX]at j;replace f:bt++[V.i .u8 48]=Bt ((fl 10 (i+1) u).map zo):=f;have G:IntKind.u8.wrap 48=48:=wu8 (v:=48) dc;refine pJ (ai @G<|ai @f<|ai @g @nP) ?_;refine Q _ (i+1) (.inr H) A ?_;exact lC
   ·rw[VN O hv0]at j;replace j:aT 136 [.l 1 (W (dg B (u/10^i))),.l 1 (W (dg B 10))] (.t [.l 1 (W (dg B (u/10^(i+1)))),.l 1 [.i .u64 (v:Int)]]):=j;have w8:=wu8 (v:=v) om;have T:IntKind.u8.wrap (48+(v:Int))=((48+v:Nat):Int):=by rw[show(48:Int)+(v:Int)=((48+v:Nat):Int)from om];exact wu8 om
    have J:([.i .u64 (v:Int)]:List V).getD (Int.toNat 0) .un= .i .u64 (v:Int):=rfl;refine pJ (ai @f<|ai @g<|ai @T<|ai @w8<|ai @J @nP) ?_;refine Q _ (i+1) (.inr H) A ?_;exact lC
def a48:AC:= .seq (.reg [qr 1 (.bx 27 (.t 0)),qr 2 (.mv (.k (.s []))),qr 3 (.mv (.k (.i .i64 0)))]) (.seq (.seq (.reg [qr 6 (.ld true 3 (.t 1)),qr 7 (.call 87 [(1,(.t 6))]),qr 8 (.un .not (.t 7))]) (.cond (.t 8) (.seq (.reg [qr 2 (.mv (.k (.s []))),qr 3 (.mv (.k (.i .i64 1)))]) (.ret)) (.skip))) (.seq (.reg [qr 9 (.FK 0 (.t 1)),qr 10 (.ld true 2 (.t 9)),qr 11 (.FK 2 (.t 1)),qr 12 (.ld false 1 (.t 11)),qr 13 (.call 82 [(1,(.t 10)),(1,(.t 12))]),qr 4 (.al 27 [(.b false),(.l 1 []),(.l 1 [])]),qn (.st 3 (.t 4) (.t 13))]) (.seq (.reg [qr 14 (.FK 0 (.t 4)),qr 15 (.FK 1 (.t 14)),qr 16 (.ld false 1 (.t 15)),qr 17 (.call 109 [(1,(.t 16))]),qm 5 17]) (.seq (.seq (.reg [qr 18 (.FK 0 (.t 4)),qr 19 (.FK 0 (.t 18)),qr 20 (.ld false 1 (.t 19))]) (.cond (.t 20) (.reg [qm 21 5,qr 22 (.bin .add (.k (.s [45])) (.t 21)),qm 5 22]) (.skip))) (.seq (.seq (.Us [qr 23 (.FK 2 (.t 4)),qr 24 (.ld false 1 (.t 23)),qr 25 (.call 76 [(1,(.k (.i .i64 1)))]),qr 26 (.call 66 [(1,(.t 24)),(1,(.t 25))]),qr 27 (.un .not (.t 26))]) (.cond (.t 27) (.reg [qm 28 5,qr 29 (.FK 2 (.t 4)),qr 30 (.ld false 1 (.t 29)),qr 31 (.call 109 [(1,(.t 30))]),qr 32 (.bin .add (.k (.s [47])) (.t 31)),qr 33 (.bin .add (.t 28) (.t 32)),qm 5 33]) (.skip))) (.seq (.reg [qm 34 5,qm 2 34,qr 3 (.mv (.k (.i .i64 0)))]) (.ret)))))))
theorem LG(s:Bool)(a d:List Nat)(m:Nat)(hm:m≤10000000)(ha:Wd a)(hd:Wd d)(la:a.length≤m)(ld:d.length≤m):aT 48 [rL s a d] (.t [.s (qpV (zv s a) (nv B d)),.i .i64 (re (nv B d))]):=by
 have j:=jW s a d hd om;unfold qpV;by_cases h0:nv B d=0
 ·rw[au h0];rw[cO h0]at j;rw[h0,kS];refine Jq aN a_ Tryz.func48 a48 ?_;unfold a48;simp only[dw,eU,qm,qr,qn];exact jO @nP
 ·rw[ah h0,ja h0];rw[aZ h0]at j;have r1:=oH s a d m om ha hd la ld h0;have C:(rz (zv s a) (nv B d)).natAbs<B^m:=cZ (xG _ _) (bF ha la);have g:aH (zv s a) (nv B d)<B^m:=cZ (pO _ _) (bP hd ld);have I:=g_ (z:=zv s a) h0;generalize rz (zv s a) (nv B d)=x at*
  generalize aH (zv s a) (nv B d)=y at*
  have F:=BI (dg B x.natAbs) m hm (af _) (aA C);rw[ae]at F;have E:=BI (dg B y) m hm (af _) (aA g);rw[ae]at E;have G:=(kW 1 dc).frozen;have s1:=pU (dg B y) (dg B 1) (bK (aA g) om) (bK (aA (k:=1) dc) dc);have hinj:(dg B y=dg B 1)↔y=1:=⟨fun h=>by have:=congrArg (nv B) h;rwa[ae,ae]at this,fun h=>by rw[h]⟩;have l1:=Ag C;have H:=Ag g;unfold qS zS;generalize CE x.natAbs=u at*
  generalize CE y=v at*
  have e0:([45]:List UInt8).length+u.length≤9223372036854775807:=by rw[GM];omega
  have c:([45]:List UInt8)++u=45::u:=rfl;have e1:([47]:List UInt8).length+v.length≤9223372036854775807:=by rw[GM];omega
  have f:([47]:List UInt8)++v=47::v:=rfl;have A:u.length+(47::v).length≤9223372036854775807:=by rw[dX];omega
  have l:(45::u).length+(47::v).length≤9223372036854775807:=by simp only[dX];omega
  by_cases hx:x<0
  ·rw[au hx];rw[rN_neg hx]at r1;by_cases h:y=1
   ·rw[au om];rw[cO (hinj.2 h)]at s1;refine Jq aN a_ Tryz.func48 a48 ?_;unfold a48;simp only[dw,eU,qm,qr,qn];repeat first|(refine hK _ ?_;clear hK K)|simp only[Sv,↓reduceIte,Nat.reduceEqDiff]|((first|refine ay (fun K hK=>?_)|refine ax (fun K hK=>?_)|refine ak (fun K hK=>?_)|refine fM ?_|refine dE (by assumption) ?_|refine fO ?_|(apply dF;assumption)|(apply dG;assumption));simp(disch:=(first|omega|assumption)) only[S1,seval,-Int.reduceToNat,-List.reduceReplicate,aK.sb,aK.mut,aU,↓aJ,aV,aC,nP,e0,c])
    simp(disch:=(first|omega|assumption)) only[dY,iF,iK,jv,fA,V.aP,bW,bY,S1,seval,-Int.reduceToNat,-List.reduceReplicate,aK.sb,aK.mut,aU,↓aJ,aV,aC,nP,e0,c]
   ·rw[ah om];rw[aZ (fun e=>h (hinj.1 e))]at s1;refine Jq aN a_ Tryz.func48 a48 ?_;unfold a48;simp only[dw,eU,qm,qr,qn];repeat first|(refine hK _ ?_;clear hK K)|simp only[Sv,↓reduceIte,Nat.reduceEqDiff]|((first|refine ay (fun K hK=>?_)|refine ax (fun K hK=>?_)|refine ak (fun K hK=>?_)|refine fM ?_|refine dE (by assumption) ?_|refine fO ?_|(apply dF;assumption)|(apply dG;assumption));simp(disch:=(first|omega|assumption)) only[S1,seval,-Int.reduceToNat,-List.reduceReplicate,aK.sb,aK.mut,aU,↓aJ,aV,aC,nP,e0,c,e1,f,l])
    simp(disch:=(first|omega|assumption)) only[dY,iF,iK,jv,fA,V.aP,bW,bY,S1,seval,-Int.reduceToNat,-List.reduceReplicate,aK.sb,aK.mut,aU,↓aJ,aV,aC,nP,e0,c,e1,f,l]
  ·rw[ah hx];rw[rN_nn hx]at r1;by_cases h:y=1
   ·rw[au om];rw[cO (hinj.2 h)]at s1;refine Jq aN a_ Tryz.func48 a48 ?_;unfold a48;simp only[dw,eU,qm,qr,qn];exact jO @nP
   ·rw[ah om];rw[aZ (fun e=>h (hinj.1 e))]at s1;refine Jq aN a_ Tryz.func48 a48 ?_;unfold a48;simp only[dw,eU,qm,qr,qn];repeat first|(refine hK _ ?_;clear hK K)|simp only[Sv,↓reduceIte,Nat.reduceEqDiff]|((first|refine ay (fun K hK=>?_)|refine ax (fun K hK=>?_)|refine ak (fun K hK=>?_)|refine fM ?_|refine dE (by assumption) ?_|refine fO ?_|(apply dF;assumption)|(apply dG;assumption));simp(disch:=(first|omega|assumption)) only[S1,seval,-Int.reduceToNat,-List.reduceReplicate,aK.sb,aK.mut,aU,↓aJ,aV,aC,nP,e1,f,A])
    simp(disch:=(first|omega|assumption)) only[dY,iF,iK,jv,fA,V.aP,bW,bY,S1,seval,-Int.reduceToNat,-List.reduceReplicate,aK.sb,aK.mut,aU,↓aJ,aV,aC,nP,e1,f,A]
end
section
open Go Go.RowKit Ab
def yU:=an @aQ<|an @fK<|an @aW<|an @aO<|an @aI<|an @fZ<|an @mJ<|an @dR<|an @iL<|an @wi<|an @lu<|an @gG @di
variable{m:Nat}
theorem QO{g d:Nat}(hm:m≤1000000)(hd:d<B^m)(a:g<B^m)(h1:1<B^m)(h0:0<d)(g0:0<g)(c:Nat.gcd d g=1):aT 97 [rQ 1 1,rQ g d] (rQ d g):=by
 have h:=Ci false false (dg B 1) (dg B g) (dg B 1) (dg B d) m om (af _) (af _) (af _) (af _) (aA h1) (aA a) (aA h1) (aA hd) (by rw[ae];decide) (by rw[ae];omega);rw[oC,oC,ae,ae,ae,show((1:Nat):Int)*(d:Int)=(d:Int)from om,iV,uq c,kT c,qi]at h;exact h
theorem rPlusN{f p q:Nat}(hm:m≤1000000)(g:f<B^m)(c:p<B^m)(hq:q<B^m)(h1:1<B^m)(j:0<p)(a:Nat.gcd (f*p+q) p=1):aT 93 [rQ f 1,rQ q p] (rQ (f*p+q) p):=by
 have h:=wL false false (dg B f) (dg B q) (dg B 1) (dg B p) m om (af _) (af _) (af _) (af _) (aA g) (aA hq) (aA h1) (aA c) (by rw[ae,ae];omega);rw[oC,oC,ae,ae,ae,ae,iV,show(f:Int)*(p:Int)+(q:Int)*((1:Nat):Int)=((f*p+q:Nat):Int)from by rw[Int.natCast_add,jC];omega,uq a,kT a,qi]at h;exact h
theorem rZNn{a:Nat}(hm:m≤1000000)(c:16385≤m)(ha:a<B^m):aT 90 [.g [.b false,.l 1 (W (dg B a))]] (rQ a 1):=by
 have h:=Tc false (dg B a) m om om (af _) (aA ha);rw[oC,ae,uq (sG _),kT (sG _),qi]at h;exact h
theorem Ov(x:Int)(d:Nat):rz (-x) d= -(rz x d)∧aH (-x) d=aH x d:=by
 have e:rG (-x) d=rG x d:=by unfold rG;rw[kX]
 unfold rz aH;rw[e];exact⟨Int.neg_tdiv _ _,rfl⟩
theorem Ox(m:Nat)(hm:m≤1000000)(g:16385≤m){k:Nat}(f:∀(s t:Bool) (a b d e:List Nat) (x y u v:Nat),Wd a→Wd b→Wd d→Wd e→a.length≤m→b.length≤m→d.length≤m→e.length≤m→nv B d≠0→nv B e≠0→
 rz (zv s a) (nv B d)=(x:Int)→aH (zv s a) (nv B d)=y→rz (zv t b) (nv B e)=(u:Int)→aH (zv t b) (nv B e)=v→Ends x y u v→y+v≤k→
 aT 101 [rL s a d,rL t b e] (rQ (uw k x y u v).1 (uw k x y u v).2)) (x y u v:Nat) (h:Ends x y u v) (j:y+v≤k) (bx:x<B^m) (c:y<B^m) (l:u<B^m) (bv:v<B^m):aT 101 [rQ x y,rQ u v] (rQ (uw k x y u v).1 (uw k x y u v).2):=by
 have d0:=h.d0
 have e0:=h.e0
 refine f false false (dg B x) (dg B u) (dg B y) (dg B v) x y u v (af _) (af _) (af _) (af _) (aA bx) (aA l) (aA c) (aA bv) (by rw[ae];omega) (by rw[ae];omega) ?_ ?_ ?_ ?_ h j
 ·rw[oC,ae,ae];exact uq h.ca
 ·rw[oC,ae,ae];exact kT h.ca
 ·rw[oC,ae,ae];exact uq h.cb
 ·rw[oC,ae,ae];exact kT h.cb
theorem IJ(m:Nat)(hm:m≤1000000)(A:16385≤m):∀(k:Nat) (s t:Bool) (a b d e:List Nat) (x y u v:Nat),Wd a→Wd b→Wd d→Wd e→a.length≤m→b.length≤m→d.length≤m→e.length≤m→nv B d≠0→nv B e≠0→
 rz (zv s a) (nv B d)=(x:Int)→aH (zv s a) (nv B d)=y→rz (zv t b) (nv B e)=(u:Int)→aH (zv t b) (nv B e)=v→Ends x y u v→y+v≤k→
 aT 101 [rL s a d,rL t b e] (rQ (uw k x y u v).1 (uw k x y u v).2)
 |0,s,t,a,b,d,e,x,y,u,v,ha,hb,hd,he,la,lb,ld,le,j,C,hx,H,Y,U,h,hk=>by have:=h.d0;omega
 |k+1,s,t,a,b,d,e,x,y,u,v,ha,hb,hd,he,la,lb,ld,le,j,C,hx,H,Y,U,h,hk=>by
  have bx:x<B^m:=by have:=cZ (xG (zv s a) (nv B d)) (bF ha la);rwa[hx]at this
  have O:y<B^m:=by rw[←H];exact cZ (pO _ _) (bP hd ld)
  have bu:u<B^m:=by have:=cZ (xG (zv t b) (nv B e)) (bF hb lb);rwa[Y]at this
  have bv:v<B^m:=by rw[←U];exact cZ (pO _ _) (bP he le)
  have d0:=h.d0;have e0:=h.e0;have ok:=tu (k+1) x y u v h hk;have l:=yT (m:=m) om;obtain⟨n1,n2⟩:=Ov (zv s a) (nv B d);have g1: -(Ls (-(zv s a)) (nv B d) 0)=(((x+y-1)/y:Nat):Int):=by
   rw[←Lu (-(zv s a)) (nv B d) 0 j,n1,n2,hx,H,show Ls (-(x:Int)) y 0=(-(x:Int)*2^0).fdiv (y:Int)from JM (n:=0) om dc,Ic _ _ d0]
  have g2:Ls (zv s a) (nv B d) 0=((x/y:Nat):Int):=by
   rw[←Lu (zv s a) (nv B d) 0 j,hx,H,show Ls (x:Int) y 0=((x:Int)*2^0).fdiv (y:Int)from JM (n:=0) om dc,EO]
  have g3:IY (nv B d) 0=0:=by unfold IY;rw[ah j,ah om]
  have c1:=II s a d 0 m om A ha hd la ld;have f1:=Ae s a d 0 m om A ha hd la ld;rw[g1,g3,xB]at c1;rw[g2,g3,xB]at f1;have M:(x+y-1)/y<B^m:=by
   refine cZ (Nat.lt_succ_iff.1 ((fP d0).2 ?_)) bx;rw[Nat.succ_mul];have:x*1≤x*y:=iZ _ d0;omega
  have c2:=xn false t (dg B ((x+y-1)/y)) b (dg B 1) e m om (af _) hb (af _) he (aA M) lb (aA l) le (by rw[ae];decide) C;rw[oC,ae,ae]at c2;have L:cz ((((x+y-1)/y:Nat):Int)*(nv B e:Int)) (zv t b*((1:Nat):Int))≤0↔(x+y-1)/y*v≤u:=by
   have e1:=Vt (z:=(((x+y-1)/y:Nat):Int)) (w:=zv t b) (d:=1) (e:=nv B e) dc C;rw[uq (sG _),kT (sG _),Y,U]at e1;have e2:=Ii ((((x+y-1)/y:Nat):Int)*(nv B e:Int)) (zv t b*((1:Nat):Int));have e3:cz ((((x+y-1)/y:Nat):Int)*(nv B e:Int)) (zv t b*((1:Nat):Int))≤0↔(((x+y-1)/y:Nat):Int)*(nv B e:Int)≤zv t b*((1:Nat):Int):=by
    rw[←Int.not_lt,e2,Int.not_lt]
   rw[e3,←e1,←jC,←jC,Int.ofNat_le,aO]
  have r1:=rZNn hm A M;unfold uw at ok ⊢;by_cases N:(x+y-1)/y*v≤u
  ·rw[au N];have hz:=L.2 N;generalize cz ((((x+y-1)/y:Nat):Int)*(nv B e:Int)) (zv t b*((1:Nat):Int))=z at*
   generalize (x+y-1)/y=c at*
   clear ok;refine b_ aN a_ Tryz.func101 [.c 4 true 3] ?_;repeat first|(refine hK _ ?_;clear hK K)|simp only[Sv,↓reduceIte,Nat.reduceEqDiff]|((first|refine ay (fun K hK=>?_)|refine ax (fun K hK=>?_)|refine ak (fun K hK=>?_)|refine fM ?_|refine dE (by assumption) ?_|refine fO ?_|(apply dF;assumption)|(apply dG;assumption));simp(disch:=(first|omega|assumption)) only[S1,seval,-Int.reduceToNat,-List.reduceReplicate,aK.sb,aK.mut,aU,↓aJ,aV,aC,yU,hz])
   simp(disch:=(first|omega|assumption)) only[rU,iy,fG,qp,qw,lJ,qA,qB,iC,lK,lL,fH,eF,dY,iF,iK,jv,fA,V.aP,bW,bY,S1,seval,-Int.reduceToNat,-List.reduceReplicate,aK.sb,aK.mut,aU,↓aJ,aV,aC,yU,hz]
  ·rw[ah N]at ok ⊢;have hz:¬cz ((((x+y-1)/y:Nat):Int)*(nv B e:Int)) (zv t b*((1:Nat):Int))≤0:=fun h9=>N (L.1 h9)
   obtain⟨hr,hlt,hbe,Z,hq,F⟩:=AZ h N;have hm2:=cu x d0;have E:x/y<B^m:=cZ (fE _ _) bx;have f2:=rZNn hm A E;have J:Nat.gcd (x%y) y=1:=by rw[kH];exact F.cb
   have I:Nat.gcd (u-x/y*v) v=1:=by rw[kH];exact F.ca
   have s1:=xm s false a (dg B (x/y)) d (dg B 1) m om ha (af _) hd (af _) la (aA E) ld (aA l) j (by rw[ae];decide);have s2:=xm t false b (dg B (x/y)) e (dg B 1) m om hb (af _) he (af _) lb (aA E) le (aA l) C (by rw[ae];decide);have m1:zv s a*((1:Nat):Int)-((x/y:Nat):Int)*(nv B d:Int)=((x%y:Nat):Int)*(rG (zv s a) (nv B d):Int)∧nv B d*1=y*rG (zv s a) (nv B d):=by
    have T:=tK (z:=zv s a) (d:=nv B d);have Q:=oI (z:=zv s a) (d:=nv B d);rw[hx]at T;rw[H]at Q;generalize rG (zv s a) (nv B d)=G at*
    refine⟨?_,om⟩;rw[←T,←Q,jC];have e1:(x:Int)=(y:Int)*((x/y:Nat):Int)+((x%y:Nat):Int):=by rw[←jC,←Int.natCast_add];exact congrArg _ Z
    generalize ((x/y:Nat):Int)=f at*
    generalize ((x%y:Nat):Int)=g at*
    rw[e1,Int.natCast_one,Int.mul_one,Int.add_mul,←Int.mul_assoc f,Int.mul_comm f];omega
   have m2:zv t b*((1:Nat):Int)-((x/y:Nat):Int)*(nv B e:Int)=((u-x/y*v:Nat):Int)*(rG (zv t b) (nv B e):Int)∧nv B e*1=v*rG (zv t b) (nv B e):=by
    have T:=tK (z:=zv t b) (d:=nv B e);have Q:=oI (z:=zv t b) (d:=nv B e);rw[Y]at T;rw[U]at Q;generalize rG (zv t b) (nv B e)=G at*
    refine⟨?_,om⟩;rw[←T,←Q,jC];have e1:(u:Int)=((x/y:Nat):Int)*(v:Int)+((u-x/y*v:Nat):Int):=by rw[←jC,←Int.natCast_add];exact congrArg _ om
    generalize ((u-x/y*v:Nat):Int)=g at*
    generalize ((x/y:Nat):Int)=f at*
    rw[e1,Int.natCast_one,Int.mul_one,Int.add_mul,Int.mul_assoc];omega
   rw[oC,ae,ae,m1.1,m1.2,zW (oZ j),wK (oZ j),uq J,kT J,qi]at s1;rw[oC,ae,ae,m2.1,m2.2,zW (oZ C),wK (oZ C),uq I,kT I,qi]at s2;have gl:x%y<B^m:=om;have P:u-x/y*v<B^m:=om;have q1:=QO hm O gl l d0 hr F.cb;have q2:=QO hm bv P l e0 om F.ca;have ih:=Ox m hm A (IJ m hm A k) v (u-x/y*v) y (x%y) F om bv P O gl;obtain⟨p1,p2,p3,p4,p5,p6,p7⟩:=tu k v (u-x/y*v) y (x%y) F om;have z1:=xq 1 1 dc dc dc dc;rw[show rN (rz 1 1) (aH 1 1)=rQ 1 1 from by rw[show(1:Int)=((1:Nat):Int)from rfl,uq (sG _),kT (sG _),qi]]at z1;replace z1:aT 21 [.i .i64 1,.i .i64 1] (rQ 1 1):=z1;generalize uw k v (u-x/y*v) y (x%y)=r at*
   have q3:=QO (g:=r.1) (d:=r.2) hm om om l p2 p1 (by rw[kH];exact p3);have a1:=rPlusN (f:=x/y) (p:=r.1) (q:=r.2) hm E om om l p1 ok.2.2.1;generalize cz ((((x+y-1)/y:Nat):Int)*(nv B e:Int)) (zv t b*((1:Nat):Int))=z at*
   clear ok;generalize (x+y-1)/y=c at*
   generalize x/y*r.1+r.2=w at*
   generalize r.1=t1 at*
   generalize r.2=t2 at*
   generalize u-x/y*v=b' at*
   generalize x/y=f at*
   generalize x%y=g at*
   refine b_ aN a_ Tryz.func101 [.c 4 true 3] ?_;repeat first|(refine hK _ ?_;clear hK K)|simp only[Sv,↓reduceIte,Nat.reduceEqDiff]|((first|refine ay (fun K hK=>?_)|refine ax (fun K hK=>?_)|refine ak (fun K hK=>?_)|refine fM ?_|refine dE (by assumption) ?_|refine fO ?_|(apply dF;assumption)|(apply dG;assumption));simp(disch:=(first|omega|assumption)) only[S1,seval,-Int.reduceToNat,-List.reduceReplicate,aK.sb,aK.mut,aU,↓aJ,aV,aC,yU,hz])
   simp(disch:=(first|omega|assumption)) only[rU,iy,fG,qp,qw,lJ,qA,qB,iC,lK,lL,fH,eF,dY,iF,iK,jv,fA,V.aP,bW,bY,S1,seval,-Int.reduceToNat,-List.reduceReplicate,aK.sb,aK.mut,aU,↓aJ,aV,aC,yU,hz]
theorem JO{z:Int}{d:Nat}(h:d≠0):(rz z d≤0↔z≤0)∧(0≤rz z d↔0≤z):=by
 have c:=oZ (z:=z) h;have hb:=tK (z:=z) (d:=d);generalize rz z d=x at*
 generalize rG z d=g at*
 subst hb;have a:(0:Int)<(g:Int):=om;refine⟨⟨fun h=>GN h om,fun h=>?_⟩,⟨fun h=>Int.mul_nonneg h om,fun h=>?_⟩⟩
 ·rcases(by omega:x≤0∨0<x)with h1|h1
  ·exact h1
  ·have:=Int.mul_pos h1 a;omega
 ·rcases(by omega:0≤x∨x<0)with h1|h1
  ·exact h1
  ·have:=Int.mul_neg_of_neg_of_pos h1 a;omega
theorem rsimp_e(s t:Bool)(a b d e:List Nat)(m:Nat)(hm:m≤1000000)(hd:Wd d)(he:Wd e)(ld:d.length≤m)(le:e.length≤m)(h0:nv B d*nv B e=0):
 aT 39 [rL s a d,rL t b e] (.t [.g [.b false,.l 1 [],.l 1 []],.i .i64 1]):=by
 have h1:=oJ s t a b d e hd he om om
 rw[h0,kS]at h1
 refine b_ aN a_ Tryz.func39 [.c 4 true 3,.t 5] ?_
 exact lV @yU
theorem ZI(s t:Bool)(a b d e:List Nat)(m:Nat)(hm:m≤1000000)(ha:Wd a)(hb:Wd b)(hd:Wd d)(he:Wd e)(la:a.length≤m)(lb:b.length≤m)(ld:d.length≤m)(le:e.length≤m)(h0:nv B d*nv B e≠0)(f:0<cz (zv s a*(nv B e:Int)) (zv t b*(nv B d:Int))):
 aT 39 [rL s a d,rL t b e] (.t [.g [.b false,.l 1 [],.l 1 []],.i .i64 7]):=by
 have h1:=oJ s t a b d e hd he om om
 rw[ja h0]at h1
 have j:=xn s t a b d e m om ha hb hd he la lb ld le (fun h=>h0 (by rw[h,iT])) (fun h=>h0 (by rw[h,kG]))
 generalize cz (zv s a*(nv B e:Int)) (zv t b*(nv B d:Int))=c at*
 refine b_ aN a_ Tryz.func39 [.c 4 true 3,.t 5] ?_
 exact lV (ai @f @yU)
theorem QP(s t:Bool)(a b d e:List Nat)(m:Nat)(hm:m≤1000000)(H:16385≤m)(ha:Wd a)(hb:Wd b)(hd:Wd d)(he:Wd e)(la:a.length≤m)(lb:b.length≤m)(ld:d.length≤m)(le:e.length≤m)(j:nv B d≠0)(f:nv B e≠0)(hle:zv s a*(nv B e:Int)≤zv t b*(nv B d:Int)):
 aT 39 [rL s a d,rL t b e] (.t [rN (FQ (rz (zv s a) (nv B d)) (aH (zv s a) (nv B d)) (rz (zv t b) (nv B e)) (aH (zv t b) (nv B e))).1 (FQ (rz (zv s a) (nv B d)) (aH (zv s a) (nv B d)) (rz (zv t b) (nv B e)) (aH (zv t b) (nv B e))).2,.i .i64 0]):=by
 have h1:=oJ s t a b d e hd he om om
 rw[ja (mM j f)]at h1
 have h2:=xn s t a b d e m om ha hb hd he la lb ld le j f
 have L:¬0<cz (zv s a*(nv B e:Int)) (zv t b*(nv B d:Int)):=by rw[Ii];omega
 have s1:=yR s a d ha om
 have s2:=yR t b e hb om
 have P:=vK s a d m om ha hd la ld j
 have o2:=vK t b e m om hb he lb le f
 rw[(Ov _ _).1,(Ov _ _).2]at P o2
 have hraw:=fun k x y u v=>IJ m hm H k s t a b d e x y u v ha hb hd he la lb ld le j f
 obtain⟨Q,j2⟩:=JO (z:=zv s a) j
 obtain⟨j3,J⟩:=JO (z:=zv t b) f
 have bz:(rz (zv s a) (nv B d)).natAbs<B^m:=cZ (xG _ _) (bF ha la)
 have bw:(rz (zv t b) (nv B e)).natAbs<B^m:=cZ (xG _ _) (bF hb lb)
 have bd:aH (zv s a) (nv B d)<B^m:=cZ (pO _ _) (bP hd ld)
 have be:aH (zv t b) (nv B e)<B^m:=cZ (pO _ _) (bP he le)
 have Z:=Ig (zv s a) j
 have ce:=Ig (zv t b) f
 have Y:=g_ (z:=zv s a) j
 have U:=g_ (z:=zv t b) f
 have F:=(Vt j f).2 hle
 have T:=Ih (zv s a)
 have N:=Qv (zv t b)
 have g3:=zU (zv t b)
 generalize cz (zv s a*(nv B e:Int)) (zv t b*(nv B d:Int))=c at*
 generalize gp (zv s a)=gz at*
 generalize gp (zv t b)=M at*
 generalize hz:rz (zv s a) (nv B d)=z at*
 generalize hx:aH (zv s a) (nv B d)=x at*
 generalize hw:rz (zv t b) (nv B e)=w at*
 generalize hy:aH (zv t b) (nv B e)=y at*
 have hB1:=yT (m:=m) om
 by_cases k1:z≤0
 ·have A:=Q.1 k1;rw[←T]at A;by_cases k2:0≤w
  ·have C:=J.1 k2;rw[←N]at C;rw[show FQ z x w y=(0,1)from au ⟨k1,k2⟩];have z0:=xq 0 1 dc dc dc dc;rw[show rN (rz 0 1) (aH 0 1)=rN 0 1 from by rw[show(0:Int)=((0:Nat):Int)from rfl,uq (sG _),kT (sG _)]]at z0;replace z0:aT 21 [.i .i64 0,.i .i64 1] (rN 0 1):=z0;show fC _ _ _ _ (.t [rN 0 1,.i .i64 0]);have hrN:rN 0 1= .g [.b false,.l 1 (W (dg B (Int.natAbs 0))),.l 1 (W (dg B 1))]:=rfl;refine b_ aN a_ Tryz.func39 [.c 4 true 3,.t 5] ?_;exact lV (ai @hrN<|ai @C<|ai @A<|ai @L @yU)
  ·have kw:w<0:=om;have C:¬0≤M:=by rw[N,←J];exact k2
   have G:M<0:=om;have I:z<0:=by
    rcases(by omega:z<0∨0≤z)with h|h
    ·exact h
    ·exfalso;have h3:0≤z*(y:Int):=Int.mul_nonneg h om;have h4:w*(x:Int)<0:=Int.mul_neg_of_neg_of_pos kw om;omega
   have E:=DR I kw Y U Z ce F;have bt:=Ox m hm H (IJ m hm H (y+x)) w.natAbs y z.natAbs x E (aY _) bw be bz bd;obtain⟨p1,p2,O,p4,_⟩:=tu (y+x) w.natAbs y z.natAbs x E (aY _);rw[show FQ z x w y=(-((uw (y+x) w.natAbs y z.natAbs x).1:Int),(uw (y+x) w.natAbs y z.natAbs x).2)from by unfold FQ;rw[ah om,au kw]];generalize uw (y+x) w.natAbs y z.natAbs x=r at*
   rw[show-z=((z.natAbs:Nat):Int)from om,qi]at P;rw[show-w=((w.natAbs:Nat):Int)from om,qi]at o2;have o3:=vK false (dg B r.1) (dg B r.2) m om (af _) (af _) (aA om) (aA om) (by rw[ae];omega);rw[oC,ae,ae,(Ov _ _).1,(Ov _ _).2,uq O,kT O]at o3;show fC _ _ _ _ (.t [rN (-(r.1:Int)) r.2,.i .i64 0]);generalize -(r.1:Int)=n1 at*
   generalize r.1=r1 at*
   generalize r.2=r2 at*
   refine b_ aN a_ Tryz.func39 [.c 4 true 3,.t 5] ?_;exact lV (ai @G<|ai @C<|ai @A<|ai @L @yU)
 ·have I:0<z:=om;have A:¬gz≤0:=by rw[T,←Q];exact k1
  have kw:0<w:=by
   rcases(by omega:0<w∨w≤0)with h|h
   ·exact h
   ·exfalso;have h3:0<z*(y:Int):=Int.mul_pos I om;have h4:w*(x:Int)≤0:=GN h om;omega
  have G:¬M<0:=by
   have:=J.1 om;rw[←N]at this;omega
  have E:=zX I kw Y U Z ce F;have bt:=hraw (x+y) z.natAbs x w.natAbs y om rfl om rfl E (aY _);rw[show FQ z x w y=(((uw (x+y) z.natAbs x w.natAbs y).1:Int),(uw (x+y) z.natAbs x w.natAbs y).2)from by unfold FQ;rw[ah om,ah om]];generalize uw (x+y) z.natAbs x w.natAbs y=r at*
  show fC _ _ _ _ (.t [rN (r.1:Int) r.2,.i .i64 0]);rw[qi];generalize r.1=r1 at*
  generalize r.2=r2 at*
  refine b_ aN a_ Tryz.func39 [.c 4 true 3,.t 5] ?_;exact lV (ai @G<|ai @A<|ai @L @yU)
end
section
open Go Go.RowKit Go.Proofs Ab
variable {s:Bool} {a d:List Nat} {x:Int} {D0:Nat}
variable{m:Nat}
theorem OL{v:Nat}(h:v<B^m)(hm:m≤100000000):(dg B v).length≤100000000:=bK (aA h) hm
theorem D6(hm:m≤100000000)(hx:zv s a=x)(hD:nv B d=D0)(ha:Wd a)(la:a.length≤m)(hd:Wd d)(ld:d.length≤m)(h0:D0≠0):Fn 78 [iD s a,.rd d] (qO (rz x D0) (aH x D0) 0 1):=by
 have c:x.natAbs<B^m:=hx▸bF (s:=s) ha la;have j:D0<B^m:=hD▸bP hd ld;have u:=oZ (z:=x) h0;have l:rG x D0∣x.natAbs:=Nat.gcd_dvd_left _ _;have g:rG x D0∣D0:=Nat.gcd_dvd_right _ _;have f:rG x D0<B^m:=cZ (Nat.le_of_dvd om g) j;refine dV Tryz.func78 (code:=qf Tryz.f78) rfl rfl fun w ac S=>?_
 refine bM fun _ _ _ S=>?_;(refine aj S (pc (Zn hx ha om)) fun _ _ _ S=>?_);refine bM fun _ _ _ S=>?_;(refine aj S (pc (f_gcd (af _) (OL c hm) hd om (ae _) hD)) fun _ _ _ S=>?_);refine bM fun _ _ _ S=>?_;(refine aj S (pc (f_exd (af _) (OL c hm) (af _) (OL f hm) (ae _) (ae _) l om)) fun _ _ _ S=>?_);refine bM fun _ _ _ S=>?_;(refine aj S (pc (f_exd hd om (af _) (OL f hm) hD (ae _) g om)) fun _ _ _ S=>?_);refine bM fun _ _ _ S=>?_;(refine aj S (pc (Zo (s:=decide (x<0)) (x:=rz x D0) (by unfold zv;rw[ae];exact rz_I x D0) (af _) (OL (cZ (fE _ _) c) hm))) fun _ _ _ S=>?_);refine bM fun _ _ _ S=>?_;exact wp_ret (pF [_,_] S rfl ⟨_,_,_,rfl,rfl,rfl⟩)
theorem zv_fD(d:List Nat)(h:nv B d=D0):zv false d=(D0:Int):=by rw[←h];rfl
theorem A_(hm:2*m≤100000000)(hx:zv s a=x)(hD:nv B d=D0)(ha:Wd a)(la:a.length≤m)(hd:Wd d)(ld:d.length≤m):Fn 85 [iD s a,.rd d] (iO (x*D0) 0):=by
 have c:D0<B^m:=hD▸bP hd ld;refine dV Tryz.func85 (code:=qf Tryz.f85) rfl rfl fun w ac S=>?_
 refine bM fun _ _ _ S=>?_;(refine wp_seq (gU 4 [_,_,_,_] [_,_,_,_] [[(2,none)],[(1,none)],[(6,some 1)],[(5,some 0),(7,some 2)]] rfl S aN kf kf kf ⟨px,px,pc (Zo (zv_fD d hD) hd om),pc (f_mul hx ha om (fD (D0:Int)) (af _) (OL c om)),trivial⟩ ?_);clear S;intro _ _ _ S);refine bM fun _ _ _ S=>?_;exact wp_ret (pF [_] S rfl ⟨_,_,_,rfl,rfl,rfl⟩)
end
section
open Go Go.RowKit Go.Proofs Ab
variable {s:Bool} {a d:List Nat} {x:Int} {D0:Nat}
abbrev qD(s:Bool)(a d:List Nat):Δ:= .g [.k (.bool s),.rd a,.rd d]
theorem f_chk(hD:nv B d=D0)(hd:Wd d)(ld:d.length≤100000000)(h0:D0≠0):Fn 65 [qD s a d] e0:=by
 refine dV Tryz.func65 (code:=qf Tryz.f65) rfl rfl fun w ac S=>?_
 refine bM fun _ _ _ S=>?_;(refine aj S (pc (Zc hd ld)) fun _ _ _ S=>?_);refine bM fun _ _ _ S=>?_;refine eH S rfl (aZ (by rw[hD];intro h;have:=X8 h0;omega)) (wp_skip ?_);refine bM fun _ _ _ S=>?_;exact wp_ret (pF [] S rfl rfl)
theorem f_two{n:Nat}(a:n≤1048576):Fn 111 [.k (.int .i64 (n:Int))] (.ow (dg B (2^n)) 0):=by
 have h1:=g_shl (af 1) (bK (aA (show 1<B^1 by decide)) dc) a;rw[ae,iV]at h1;refine dV Tryz.func111 (code:=qf Tryz.f111) rfl rfl fun w ac S=>?_
 refine bM fun _ _ _ S=>?_;(refine aj S (pc (Ac (n:=1) dc)) fun _ _ _ S=>?_);refine bM fun _ _ _ S=>?_;(refine aj S (pc (h1)) fun _ _ _ S=>?_);refine bM fun _ _ _ S=>?_;exact wp_ret (pF [_] S rfl rfl)
theorem f_dyn{m k:Nat}(hm:m≤100000000)(g:0<k)(j:k≤1048576)(f:16385≤m)(hx:zv s a=x)(ha:Wd a)(la:a.length≤m):Fn 52 [iD s a,.k (.int .i64 (-(k:Int)))] (.t [qO (rz x (2^k)) (aH x (2^k)) 0 1,e0]):=by
 have c:2^k<B^m:=eu (Ib k) (gX dc om);refine dV Tryz.func52 (code:=qf Tryz.f52) rfl rfl fun w ac S=>?_
 refine bM fun _ _ _ S=>?_;refine eH S rfl (rfl) (wp_skip (bM ?_));clear S;intro _ _ _ S;refine jG S rfl (rfl) (bM ?_);(refine wp_seq (gU 5 [_,_,_,_,_] [_,_,_,_,_] [[(2,none)],[(1,none)],[(18,some 1)],[(19,some 2)],[(17,some 0),(20,some 3)]] rfl S aN kf kf kf ⟨px,px,px,pc (f_two j),pc (D6 hm hx (ae _) ha la (af _) (bK (aA c) (aY _)) (Nat.pos_iff_ne_zero.1 (t_ k))),trivial⟩ ?_);clear S;intro _ _ _ S);refine bM fun _ _ _ S=>?_;exact wp_ret (gq [_,_] S rfl rfl ⟨⟨_,_,_,rfl,rfl,rfl⟩,rfl,trivial⟩)
end
section
open Go Go.RowKit Go.Proofs Ab
variable {s t:Bool} {a b d e:List Nat} {x z:Int} {D0 E0:Nat} {m:Nat}
theorem IL(hm:m≤40000000)(hx:zv s a=x)(hz:zv t b=z)(hD:nv B d=D0)(hE:nv B e=E0)(ha:Wd a)(hb:Wd b)(hd:Wd d)(he:Wd e)(la:a.length≤m)(lb:b.length≤m)(ld:d.length≤m)(le:e.length≤m)(d0:D0≠0)(OM:E0≠0):
 Fn 22 [qD s a d,qD t b e] (.t [qO (rz (x*E0+z*D0) (D0*E0)) (aH (x*E0+z*D0) (D0*E0)) 0 1,e0]):=by
 have h1:=pz s t a b d e hd he om om
 have h0:D0*E0≠0:=mM d0 OM
 rw[hD,hE,ja h0]at h1
 have f:(x*E0).natAbs<B^(m+m):=mul_lt (hx▸bF ha la) (hE▸bP he le)
 have c:(z*D0).natAbs<B^(m+m):=mul_lt (hz▸bF hb lb) (hD▸bP hd ld)
 have j:D0*E0<B^(m+m):=rF (hD▸bP hd ld) (hE▸bP he le)
 have g:(x*E0+z*D0).natAbs<B^(m+m+1):=cZ (Int.natAbs_add_le _ _) (Bj f c)
 refine dV Tryz.func22 (code:=qf Tryz.f22) rfl rfl fun w ac S=>?_
 refine bM ?_
 clear S
 intro _ _ _ S
 refine aj S (CB rfl rfl rfl rfl rfl rfl) fun _ _ _ S=>?_
 refine aj S (pfs h1) fun _ _ _ S=>?_
 refine bM ?_
 clear S
 intro _ _ _ S
 refine eH S rfl (rfl) (wp_skip ?_)
 (refine wp_seq (gU 17 [_,_,_,_,_,_,_,_,_,_,_,_,_,_,_,_,_] [_,_,_,_,_,_,_,_,_,_,_,_,_,_,_,_,_] [[(2,none)],[(15,some 0)],[(3,none)],[(17,some 2)],[(16,some 1),(18,some 3)],[(3,none)],[(20,some 5)],[(2,none)],[(22,some 7)],[(21,some 6),(23,some 8)],[(19,some 4),(24,some 9)],[(2,none)],[(26,some 11)],[(3,none)],[(28,some 13)],[(27,some 12),(29,some 14)],[(25,some 10),(30,some 15)]] rfl S aN kf kf kf ⟨px,px,px,px,pc (A_ om hx hE ha la he le),px,px,px,px,pc (A_ om hz hD hb lb hd ld),pc (f_add (fD (x*E0)) (af _) (OL f om) (fD (z*D0)) (af _) (OL c om)),px,px,px,px,pc (ES hd om he om hD hE),pc (D6 (m:=m+m+1) om (fD (x*E0+z*D0)) (ae (D0*E0)) (af _) (aA g) (af _) (aA (KE j om)) h0),trivial⟩ ?_);clear S;intro _ _ _ S)
 refine bM ?_
 clear S
 intro _ _ _ S
 exact wp_ret (gq [_,_] S rfl rfl ⟨⟨_,_,_,rfl,rfl,rfl⟩,rfl,trivial⟩)
end
section
open Go Go.RowKit Go.Proofs Ab
variable {s t:Bool} {a b d e:List Nat} {x z:Int} {D0 E0:Nat} {m:Nat}
theorem ZJ(ha:Wd a)(la:a.length≤100000000)(hD:nv B a=D0){w:Nat}(f:w<18446744073709551616):Fn 115 [.rd a,.k (.int .u64 (w:Int))] (.ow (dg B (D0*w)) 0):=Cm fun j c g h=>match c,h with
 |[u,v],h=>by
  have e:v= .int .u64 (w:Int):=h.2.1;subst e;rw[←hD];exact JI (vs:=[u,.int .u64 (w:Int)]) (Ol a w ha f om) g (fun q h=>h) (N9 (Oc h.1) (.i _ _))
theorem rz_lt{x:Int}{D0 m:Nat}(h:x.natAbs<B^m):(rz x D0).natAbs<B^m:=by
 rw[uH];exact cZ (fE _ _) h
theorem rd_lt{x:Int}{D0 m:Nat}(h:D0<B^m):aH x D0<B^m:=cZ (fE _ _) h
theorem fq_mid(hm:m≤40000000)(hx:zv s a=x)(hz:zv t b=z)(hD:nv B d=D0)(hE:nv B e=E0)(ha:Wd a)(hb:Wd b)(hd:Wd d)(he:Wd e)(la:a.length≤m)(lb:b.length≤m)(ld:d.length≤m)(le:e.length≤m)(d0:D0≠0)(OM:E0≠0):
 Fn 59 [qD s a d,qD t b e] (.t [qO (rz (rz (x*E0+z*D0) (D0*E0)) (aH (x*E0+z*D0) (D0*E0)*2)) (aH (rz (x*E0+z*D0) (D0*E0)) (aH (x*E0+z*D0) (D0*E0)*2)) 0 1,e0]):=by
 have h1:=IL hm hx hz hD hE ha hb hd he la lb ld le d0 OM
 have h0:D0*E0≠0:=mM d0 OM
 have l:(x*E0).natAbs<B^(m+m):=mul_lt (hx▸bF ha la) (hE▸bP he le)
 have j:(z*D0).natAbs<B^(m+m):=mul_lt (hz▸bF hb lb) (hD▸bP hd ld)
 have g:D0*E0<B^(m+m):=rF (hD▸bP hd ld) (hE▸bP he le)
 have f:(x*E0+z*D0).natAbs<B^(m+m+1):=cZ (Int.natAbs_add_le _ _) (Bj l j)
 generalize x*E0+z*D0=X at*
 generalize D0*E0=Y at*
 have c1:=rz_lt (D0:=Y) f
 have c2:=rd_lt (x:=X) g
 have c3:aH X Y≠0:=g_ h0
 generalize rz X Y=U at*
 generalize aH X Y=V at*
 have c:V*2<B^(m+m+1):=by
  rw[dO];exact Nat.mul_lt_mul_of_lt_of_le c2 dc dc
 refine dV Tryz.func59 (code:=qf Tryz.f59) rfl rfl fun w ac S=>?_
 refine bM ?_
 clear S
 intro _ _ _ S
 refine aj S (pc (h1)) fun _ _ _ S=>?_
 refine bM ?_
 clear S
 intro _ _ _ S
 refine eH S rfl (rfl) (wp_skip ?_)
 (refine wp_seq (gU 6 [_,_,_,_,_,_] [_,_,_,_,_,_] [[(6,none)],[(18,some 0)],[(6,none)],[(20,some 2)],[(21,some 3)],[(19,some 1),(22,some 4)]] rfl S aN kf kf kf ⟨px,px,px,px,pc (ZJ (w:=2) (af _) (OL c2 om) (ae _) dc),pc (D6 (m:=m+m+1) om (fD U) (ae (V*2)) (af _) (aA c1) (af _) (aA c) om),trivial⟩ ?_);clear S;intro _ _ _ S)
 refine bM ?_
 clear S
 intro _ _ _ S
 exact wp_ret (gq [_,_] S rfl rfl ⟨⟨_,_,_,rfl,rfl,rfl⟩,rfl,trivial⟩)
variable{k:Nat}
theorem IM(c:k≤1048576)(hm:m≤40000000)(hx:zv s a=x)(hD:nv B d=D0)(ha:Wd a)(hd:Wd d)(la:a.length≤m)(ld:d.length≤m)(d0:D0≠0):
 Fn 18 [qD s a d,.k (.int .i64 (k:Int))] (.t [iO ((x*2^k).fdiv (D0:Int)) 0,e0]):=by
 have f:x.natAbs<B^m:=hx▸bF (s:=s) ha la
 have g:D0<B^m:=hD▸bP hd ld
 have hb:(x*2^k).natAbs<B^(m+16384):=by
  rw[jy,Int.natAbs_pow];exact yS f c
 refine dV Tryz.func18 (code:=qf Tryz.f18) rfl rfl fun w ac S=>?_
 refine bM ?_
 clear S
 intro _ _ _ S
 refine aj S (pc (f_chk hD hd om d0)) fun _ _ _ S=>?_
 refine bM ?_
 clear S
 intro _ _ _ S
 refine eH S rfl (rfl) (wp_skip (bM ?_))
 clear S
 intro _ _ _ S
 refine eH S rfl (rfl) (wp_skip ?_)
 (refine wp_seq (gU 7 [_,_,_,_,_,_,_] [_,_,_,_,_,_,_] [[(2,none)],[(22,some 0)],[(2,none)],[(24,some 2)],[(25,some 3)],[],[]] rfl S aN kf kf kf ⟨px,px,px,px,pc (Zo (zv_fD d hD) hd om),px,px,trivial⟩ ?_);clear S;intro _ _ _ S)
 refine bM ?_
 clear S
 intro _ _ _ S
 refine eH S rfl (rfl) (wp_region_lit (bM ?_))
 clear S
 intro _ _ _ S
 refine aj S (pc (f_shl hx ha om c)) fun _ _ _ S=>?_
 refine bM ?_
 clear S
 intro _ _ _ S
 refine aj S (pc (f_floor (fD (x*2^k)) (af _) (OL hb om) (fD (D0:Int)) (af _) (OL g om) om)) fun _ _ _ S=>?_
 refine bM ?_
 clear S
 intro _ _ _ S
 exact wp_ret (gq [_] S rfl rfl ⟨⟨_,_,_,rfl,rfl,rfl⟩,rfl,trivial⟩)
theorem TN(f:k≤1048576)(hm:m≤40000000)(hx:zv s a=x)(hD:nv B d=D0)(ha:Wd a)(hd:Wd d)(la:a.length≤m)(ld:d.length≤m)(d0:D0≠0):
 Fn 60 [qD s a d,.k (.int .i64 (k:Int))] (.t [iO (-((-x*2^k).fdiv (D0:Int))) 0,e0]):=by
 have g:x.natAbs<B^m:=hx▸bF (s:=s) ha la
 have c:(-x).natAbs<B^m:=by rw[kX];exact g
 have j:=IM f hm (fD (-x)) hD (af _) hd (aA c) ld d0
 have hb:(-x*2^k).natAbs<B^(m+16384):=by
  rw[jy,Int.natAbs_pow];exact yS c f
 have hq:((-x*2^k).fdiv (D0:Int)).natAbs<B^(m+16384):=by
  rw[yG _ om];have:=Int.natAbs_ediv_le_natAbs (-x*2^k) (D0:Int);omega
 refine dV Tryz.func60 (code:=qf Tryz.f60) rfl rfl fun w ac S=>?_
 refine bM ?_
 clear S
 intro _ _ _ S
 refine aj S (pc (zk hx ha om)) fun _ _ _ S=>?_
 refine bM ?_
 clear S
 intro _ _ _ S
 (refine DZ S rfl rfl rfl kf rfl rfl ?_;clear S;intro _ _ S)
 refine bM ?_
 clear S
 intro _ _ _ S
 refine aj S (pc (j)) fun _ _ _ S=>?_
 refine bM ?_
 clear S
 intro _ _ _ S
 refine eH S rfl (rfl) (wp_skip (bM ?_))
 clear S
 intro _ _ _ S
 refine aj S (pc (zk (fD ((-x*2^k).fdiv (D0:Int))) (af _) (OL hq om))) fun _ _ _ S=>?_
 refine bM ?_
 clear S
 intro _ _ _ S
 exact wp_ret (gq [_] S rfl rfl ⟨⟨_,_,_,rfl,rfl,rfl⟩,rfl,trivial⟩)
end
section
open Go Go.RowKit Go.Proofs Ab
abbrev zO:Δ:= .g [.k (.bool false),.k (.slice none 0 0),.k (.slice none 0 0)]
abbrev e1:Δ:= .k (.int .i64 1)
variable{w0:World}{N:Nat}{dst:Option Tmp}{p:String}{gd:Option (Nat×Bool)}{R:Nat→Option Δ}{Bx:Bs}
theorem ok_b0{i:Nat}{t:TypeId}{e:Array Edge}:Ok Tryz.prog w0 N ⟨dst,.build 27 #[],t,p,e,gd⟩ i R Bx zO none:=
 JL fun γ w a c=>⟨#[.bool false,.slice none 0 0,.slice none 0 0],by kernel_rfl,[.bool false,.slice none 0 0,.slice none 0 0],rfl,rfl,rfl,rfl,trivial⟩
theorem ok_b9{i:Nat}{t:TypeId}{e:Array Edge}:Ok Tryz.prog w0 N ⟨dst,.build 25 #[],t,p,e,gd⟩ i R Bx (.g [.k (.bool false),.k (.slice none 0 0)]) none:=
 JL fun γ w a c=>⟨#[.bool false,.slice none 0 0],by kernel_rfl,[.bool false,.slice none 0 0],rfl,rfl,rfl,trivial⟩
theorem goQ{p:Prop}(h:p:=by first|exact goR|exact dC ok_b0|exact dC ok_b9):p:=h
theorem VW{p q:Prop}(k:q)(h:PLift q→p:=by
 intro hq;(repeat (first|(show wpList _ _ _ (_::_) _ _;refine bQ S goQ ?_;intro x1 x2 x3 S)|refine ET ?_|refine Zf ?_|refine h_ ?_));first|(revert x1 x2 x3;exact hq.down)|exact hq.down):p:=h ⟨k⟩
variable {s t:Bool} {a b d e:List Nat} {x z:Int} {D0 E0:Nat} {m:Nat}
theorem ZK(hD:nv B d=0)(hd:Wd d)(ld:d.length≤100000000):Fn 65 [qD s a d] e1:=by
 refine dV Tryz.func65 (code:=qf Tryz.f65) rfl rfl fun w ac S=>?_
 refine bM fun _ _ _ S=>?_;(refine aj S (pc (Zc hd ld)) fun _ _ _ S=>?_);rw[hD,show bl 0=0 from rfl]at S;refine bM fun _ _ _ S=>?_;refine jG S rfl (rfl) (bM ?_);clear S;intro _ _ _ S;exact wp_ret (pF [] S rfl rfl)
section
variable (hm:m≤100000000) (hx:zv s a=x) (ha:Wd a) (la:a.length≤m)
include hm hx ha la
section
variable (hD:nv B d=D0) (hd:Wd d) (ld:d.length≤m) (d0:D0≠0)
include hD hd ld d0
theorem D7:Fn 50 [qD s a d] (.t [qO (rz x D0) (aH x D0) 0 1,e0]):=by
 refine dV Tryz.func50 (code:=qf Tryz.f50) rfl rfl fun w ac S=>?_
 refine bM fun _ _ _ S=>?_;(refine aj S (pc (f_chk hD hd om d0)) fun _ _ _ S=>?_);refine bM fun _ _ _ S=>?_;refine eH S rfl (rfl) (wp_skip (bM ?_));clear S;intro _ _ _ S;(refine aj S (pc (D6 hm hx hD ha la hd ld d0)) fun _ _ _ S=>?_);refine bM fun _ _ _ S=>?_;exact wp_ret (gq [_,_] S rfl rfl ⟨⟨_,_,_,rfl,rfl,rfl⟩,rfl,trivial⟩)
theorem fq_neg:Fn 56 [qD s a d] (.t [qO (rz (-x) D0) (aH (-x) D0) 0 1,e0]):=by
 have c:(-x).natAbs<B^m:=by rw[kX];exact hx▸bF (s:=s) ha la
 have f:=D7 hm (fD (-x)) (af _) (aA c) hD hd ld d0;refine dV Tryz.func56 (code:=qf Tryz.f56) rfl rfl fun w ac S=>?_
 refine bM fun _ _ _ S=>?_;(refine aj S (pc (zk hx ha om)) fun _ _ _ S=>?_);refine bM fun _ _ _ S=>?_;(refine DZ S rfl rfl rfl kf rfl rfl ?_;clear S;intro _ _ S);refine bM fun _ _ _ S=>?_;(refine aj S (pc (f)) fun _ _ _ S=>?_);refine bM fun _ _ _ S=>?_;exact wp_ret (gq [_,_] S rfl rfl ⟨⟨_,_,_,rfl,rfl,rfl⟩,rfl,trivial⟩)
end
end
section
variable (hd:Wd d) (ld:d.length≤100000000) (hD:nv B d=0)
include hd ld hD
theorem QQ:Fn 50 [qD s a d] (.t [zO,e1]):=by
 refine dV Tryz.func50 (code:=qf Tryz.f50) rfl rfl fun w ac S=>?_
 refine bM fun _ _ _ S=>?_;(refine aj S (pc (ZK hD hd ld)) fun _ _ _ S=>?_);refine bM fun _ _ _ S=>?_;refine jG S rfl (rfl) (VW ?_);clear S;intro _ _ _ S;exact wp_ret (gq [] S rfl rfl ⟨⟨_,_,_,rfl,rfl,rfl⟩,rfl,trivial⟩)
theorem x_neg(hx:zv s a=x)(ha:Wd a)(la:a.length≤100000000):Fn 56 [qD s a d] (.t [zO,e1]):=by
 have c:=QQ (s:=decide (-x<0)) (a:=dg B (-x).natAbs) hd ld hD;refine dV Tryz.func56 (code:=qf Tryz.f56) rfl rfl fun w ac S=>?_
 refine bM fun _ _ _ S=>?_;(refine aj S (pc (zk hx ha la)) fun _ _ _ S=>?_);refine bM fun _ _ _ S=>?_;(refine DZ S rfl rfl rfl kf rfl rfl ?_;clear S;intro _ _ S);refine bM fun _ _ _ S=>?_;(refine aj S (pc (c)) fun _ _ _ S=>?_);refine bM fun _ _ _ S=>?_;exact wp_ret (gq [] S rfl rfl ⟨⟨_,_,_,rfl,rfl,rfl⟩,rfl,trivial⟩)
end
end
section
open Go Go.RowKit Go.Proofs Ab
variable {s t:Bool} {a b d e:List Nat} {x z:Int} {D0 E0:Nat} {m:Nat}
theorem f_abs(ha:Wd a)(la:a.length≤100000000):Fn 110 [iD s a] (.ow (dg B (nv B a)) 0):=by
 refine dV Tryz.func110 (code:=qf Tryz.f110) rfl rfl fun w ac S=>?_
 refine bM fun _ _ _ S=>?_;(refine aj S (pc (Lp ha la)) fun _ _ _ S=>?_);refine bM fun _ _ _ S=>?_;exact wp_ret (pF [_] S rfl rfl)
theorem ZL(hx:zv s a=x)(ha:Wd a)(la:a.length≤1000000000):Fn 77 [iD s a] (.k (.int .i64 (gp x))):=fn_k fun w c f h=>match c,h with
 |[u],h=>by
  have:=Io (vs:=[u]) (jX s a ha la) f (fun q h=>h) (rp1 (by
   obtain⟨xs,e,h1⟩:=h.1;match xs,h1 with
   |[p,q],h1=>
    have e1:p= .bool s:=h1.1;subst e1 e;exact IA.rep ⟨q,rfl,Oc h1.2.1⟩))
  rw[hx]at this;exact this
section
variable (hm:m≤100000000) (hx:zv s a=x) (ha:Wd a) (la:a.length≤m) (hz:zv t b=z) (hb:Wd b) (lb:b.length≤m)
include hm hx ha la hz hb lb
theorem TP(h0:z≠0):Fn 51 [iD s a,iD t b] (.t [qO (rz (mz x z) z.natAbs) (aH (mz x z) z.natAbs) 0 1,e0]):=by
 have l:nv B b=z.natAbs:=by rw[←hz,zV]
 have j:=ZL hz hb om;have h1:gp z≠0:=by rw[Ne,KN];exact h0
 have g:z.natAbs<B^m:=hz▸bF (s:=t) hb lb;have u:(-x).natAbs<B^m:=by rw[kX];exact hx▸bF (s:=s) ha la
 have c:z.natAbs≠0:=om;refine dV Tryz.func51 (code:=qf Tryz.f51) rfl rfl fun w ac S=>?_
 refine bM fun _ _ _ S=>?_;(refine aj S (pc (j)) fun _ _ _ S=>?_);refine bM fun _ _ _ S=>?_;refine eH S rfl (rfl) (wp_skip (bM ?_));clear S;intro _ _ _ S;(refine aj S (pc (j)) fun _ _ _ S=>?_);by_cases hn:z<0
 ·have y:gp z<0:=by rw[zU];exact hn
  have f:=D6 hm (fD (-x)) (ae z.natAbs) (af _) (aA u) (af _) (aA g) c;refine bM fun _ _ _ S=>?_;refine jG S rfl (rfl) ?_;refine wp_region_lit (bM ?_);clear S;intro _ _ _ S;(refine aj S (pc (zk hx ha om)) fun _ _ _ S=>?_);refine bM fun _ _ _ S=>?_;rw[show mz x z= -x from au hn];rw[←l]at f ⊢;(refine wp_seq (gU 4 [_,_,_,_] [_,_,_,_] [[(2,none)],[(3,none)],[(16,some 1)],[(15,some 0),(17,some 2)]] rfl S aN kf kf kf ⟨px,px,pc (f_abs hb om),pc (f),trivial⟩ ?_);clear S;intro _ _ _ S);refine bM fun _ _ _ S=>?_;exact wp_ret (gq [_,_] S rfl rfl ⟨⟨_,_,_,rfl,rfl,rfl⟩,rfl,trivial⟩)
 ·have y:¬gp z<0:=by rw[zU];exact hn
  have f:=D6 hm hx (ae z.natAbs) ha la (af _) (aA g) c;refine bM fun _ _ _ S=>?_;refine eH S rfl (rfl) (wp_skip ?_);rw[show mz x z=x from ah hn];rw[←l]at f ⊢;(refine wp_seq (gU 4 [_,_,_,_] [_,_,_,_] [[(2,none)],[(3,none)],[(16,some 1)],[(15,some 0),(17,some 2)]] rfl S aN kf kf kf ⟨px,px,pc (f_abs hb om),pc (f),trivial⟩ ?_);clear S;intro _ _ _ S);refine bM fun _ _ _ S=>?_;exact wp_ret (gq [_,_] S rfl rfl ⟨⟨_,_,_,rfl,rfl,rfl⟩,rfl,trivial⟩)
end
theorem ZM(hz:zv t b=0)(hb:Wd b)(lb:b.length≤100000000):Fn 51 [iD s a,iD t b] (.t [zO,e1]):=by
 have c:=ZL hz hb om;rw[show gp 0=0 from rfl]at c;refine dV Tryz.func51 (code:=qf Tryz.f51) rfl rfl fun w ac S=>?_
 refine bM fun _ _ _ S=>?_;(refine aj S (pc (c)) fun _ _ _ S=>?_);refine bM fun _ _ _ S=>?_;refine jG S rfl (rfl) (VW ?_);clear S;intro _ _ _ S;exact wp_ret (gq [] S rfl rfl ⟨⟨_,_,_,rfl,rfl,rfl⟩,rfl,trivial⟩)
section
variable (hm:m≤40000000) (hx:zv s a=x) (hz:zv t b=z) (hD:nv B d=D0) (hE:nv B e=E0) (ha:Wd a) (hb:Wd b) (hd:Wd d) (he:Wd e) (la:a.length≤m) (lb:b.length≤m) (ld:d.length≤m) (le:e.length≤m) (d0:D0≠0) (OM:E0≠0)
include hm hx hz hD hE ha hb hd he la lb ld le d0 OM
theorem ZN:Fn 53 [qD s a d,qD t b e] (.t [qO (rz (x*E0+ -z*D0) (D0*E0)) (aH (x*E0+ -z*D0) (D0*E0)) 0 1,e0]):=by
 have c:(-z).natAbs<B^m:=by rw[kX];exact hz▸bF (s:=t) hb lb
 have h1:=IL hm hx (fD (-z)) hD hE ha (af _) hd he la (aA c) ld le d0 OM;refine dV Tryz.func53 (code:=qf Tryz.f53) rfl rfl fun w ac S=>?_
 refine bM fun _ _ _ S=>?_;(refine aj S (pc (zk hz hb om)) fun _ _ _ S=>?_);refine bM fun _ _ _ S=>?_;(refine DZ S rfl rfl rfl kf rfl rfl ?_;clear S;intro _ _ S);refine bM fun _ _ _ S=>?_;(refine aj S (pc (h1)) fun _ _ _ S=>?_);refine bM fun _ _ _ S=>?_;exact wp_ret (gq [_,_] S rfl rfl ⟨⟨_,_,_,rfl,rfl,rfl⟩,rfl,trivial⟩)
theorem fq_mul:Fn 54 [qD s a d,qD t b e] (.t [qO (rz (x*z) (D0*E0)) (aH (x*z) (D0*E0)) 0 1,e0]):=by
 have h1:=pz s t a b d e hd he om om;have h0:D0*E0≠0:=mM d0 OM;rw[hD,hE,ja h0]at h1;have f:(x*z).natAbs<B^(m+m):=mul_lt (hx▸bF ha la) (hz▸bF hb lb);have c:D0*E0<B^(m+m):=rF (hD▸bP hd ld) (hE▸bP he le);refine dV Tryz.func54 (code:=qf Tryz.f54) rfl rfl fun w ac S=>?_
 refine bM fun _ _ _ S=>?_;(refine aj S (CB rfl rfl rfl rfl rfl rfl) fun _ _ _ S=>?_);(refine aj S (pfs h1) fun _ _ _ S=>?_);refine bM fun _ _ _ S=>?_;refine eH S rfl (rfl) (wp_skip ?_);(refine wp_seq (gU 11 [_,_,_,_,_,_,_,_,_,_,_] [_,_,_,_,_,_,_,_,_,_,_] [[(2,none)],[(15,some 0)],[(3,none)],[(17,some 2)],[(16,some 1),(18,some 3)],[(2,none)],[(20,some 5)],[(3,none)],[(22,some 7)],[(21,some 6),(23,some 8)],[(19,some 4),(24,some 9)]] rfl S aN kf kf kf ⟨px,px,px,px,pc (f_mul hx ha om hz hb om),px,px,px,px,pc (ES hd om he om hD hE),pc (D6 (m:=m+m) om (fD (x*z)) (ae (D0*E0)) (af _) (aA f) (af _) (aA c) h0),trivial⟩ ?_);clear S;intro _ _ _ S);refine bM fun _ _ _ S=>?_;exact wp_ret (gq [_,_] S rfl rfl ⟨⟨_,_,_,rfl,rfl,rfl⟩,rfl,trivial⟩)
theorem ZO(z0:z≠0):Fn 55 [qD s a d,qD t b e] (.t [qO (rz (mz (x*E0) (z*D0)) (z*D0).natAbs) (aH (mz (x*E0) (z*D0)) (z*D0).natAbs) 0 1,e0]):=by
 have h1:=pz s t a b d e hd he om om;have h0:D0*E0≠0:=mM d0 OM;rw[hD,hE,ja h0]at h1;have g:(x*E0).natAbs<B^(m+m):=mul_lt (hx▸bF ha la) (hE▸bP he le);have f:(z*D0).natAbs<B^(m+m):=mul_lt (hz▸bF hb lb) (hD▸bP hd ld);have c:=TP (m:=m+m) om (fD (x*E0)) (af _) (aA g) (fD (z*D0)) (af _) (aA f) (Int.mul_ne_zero z0 om);refine dV Tryz.func55 (code:=qf Tryz.f55) rfl rfl fun w ac S=>?_
 refine bM fun _ _ _ S=>?_;(refine aj S (CB rfl rfl rfl rfl rfl rfl) fun _ _ _ S=>?_);(refine aj S (pfs h1) fun _ _ _ S=>?_);refine bM fun _ _ _ S=>?_;refine eH S rfl (rfl) (wp_skip ?_);(refine wp_seq (gU 13 [_,_,_,_,_,_,_,_,_,_,_,_,_] [_,_,_,_,_,_,_,_,_,_,_,_,_] [[(2,none)],[(15,some 0)],[(3,none)],[(17,some 2)],[(16,some 1),(18,some 3)],[(3,none)],[(20,some 5)],[(2,none)],[(22,some 7)],[(21,some 6),(23,some 8)],[(19,some 4),(24,some 9)],[(25,some 10)],[(25,some 10)]] rfl S aN kf kf kf ⟨px,px,px,px,pc (A_ om hx hE ha la he le),px,px,px,px,pc (A_ om hz hD hb lb hd ld),pc (c),px,px,trivial⟩ ?_);clear S;intro _ _ _ S);refine bM fun _ _ _ S=>?_;exact wp_ret (gq [_,_] S rfl rfl ⟨⟨_,_,_,rfl,rfl,rfl⟩,rfl,trivial⟩)
end
section
variable (hm:m≤40000000) (hx:zv s a=x) (hz:zv t b=0) (hD:nv B d=D0) (hE:nv B e=E0) (ha:Wd a) (hb:Wd b) (hd:Wd d) (he:Wd e) (la:a.length≤m) (lb:b.length≤m) (ld:d.length≤m) (le:e.length≤m) (d0:D0≠0) (OM:E0≠0)
include hm hx hz hD hE ha hb hd he la lb ld le d0 OM
theorem x_quo0:Fn 55 [qD s a d,qD t b e] (.t [zO,e1]):=by
 have h1:=pz s t a b d e hd he om om;have h0:D0*E0≠0:=mM d0 OM;rw[hD,hE,ja h0]at h1;have f:=ZM (s:=decide (x*E0<0)) (a:=dg B (x*E0).natAbs) (fD 0) (af _) dc;have c:=A_ om hz hD hb lb hd ld;rw[Int.zero_mul]at c;refine dV Tryz.func55 (code:=qf Tryz.f55) rfl rfl fun w ac S=>?_
 refine bM fun _ _ _ S=>?_;(refine aj S (CB rfl rfl rfl rfl rfl rfl) fun _ _ _ S=>?_);(refine aj S (pfs h1) fun _ _ _ S=>?_);refine bM fun _ _ _ S=>?_;refine eH S rfl (rfl) (wp_skip ?_);(refine wp_seq (gU 13 [_,_,_,_,_,_,_,_,_,_,_,_,_] [_,_,_,_,_,_,_,_,_,_,_,_,_] [[(2,none)],[(15,some 0)],[(3,none)],[(17,some 2)],[(16,some 1),(18,some 3)],[(3,none)],[(20,some 5)],[(2,none)],[(22,some 7)],[(21,some 6),(23,some 8)],[(19,some 4),(24,some 9)],[(25,some 10)],[(25,some 10)]] rfl S aN kf kf kf ⟨px,px,px,px,pc (A_ om hx hE ha la he le),px,px,px,px,pc (c),pc (f),px,px,trivial⟩ ?_);clear S;intro _ _ _ S);refine bM fun _ _ _ S=>?_;exact wp_ret (gq [] S rfl rfl ⟨⟨_,_,_,rfl,rfl,rfl⟩,rfl,trivial⟩)
end
section
variable (hd:Wd d) (he:Wd e) (ld:d.length≤40000000) (le:e.length≤40000000) (h0:nv B d*nv B e=0)
include hd he ld le h0
theorem ZP:Fn 22 [qD s a d,qD t b e] (.t [zO,e1]):=by
 have h1:=pz s t a b d e hd he om om;rw[h0,kS]at h1;refine dV Tryz.func22 (code:=qf Tryz.f22) rfl rfl fun w ac S=>?_
 refine bM fun _ _ _ S=>?_;(refine aj S (CB rfl rfl rfl rfl rfl rfl) fun _ _ _ S=>?_);(refine aj S (pfs h1) fun _ _ _ S=>?_);refine bM fun _ _ _ S=>?_;refine jG S rfl (rfl) (VW ?_);clear S;intro _ _ _ S;exact wp_ret (gq [] S rfl rfl ⟨⟨_,_,_,rfl,rfl,rfl⟩,rfl,trivial⟩)
theorem x_mul:Fn 54 [qD s a d,qD t b e] (.t [zO,e1]):=by
 have h1:=pz s t a b d e hd he om om;rw[h0,kS]at h1;refine dV Tryz.func54 (code:=qf Tryz.f54) rfl rfl fun w ac S=>?_
 refine bM fun _ _ _ S=>?_;(refine aj S (CB rfl rfl rfl rfl rfl rfl) fun _ _ _ S=>?_);(refine aj S (pfs h1) fun _ _ _ S=>?_);refine bM fun _ _ _ S=>?_;refine jG S rfl (rfl) (VW ?_);clear S;intro _ _ _ S;exact wp_ret (gq [] S rfl rfl ⟨⟨_,_,_,rfl,rfl,rfl⟩,rfl,trivial⟩)
theorem x_quo:Fn 55 [qD s a d,qD t b e] (.t [zO,e1]):=by
 have h1:=pz s t a b d e hd he om om;rw[h0,kS]at h1;refine dV Tryz.func55 (code:=qf Tryz.f55) rfl rfl fun w ac S=>?_
 refine bM fun _ _ _ S=>?_;(refine aj S (CB rfl rfl rfl rfl rfl rfl) fun _ _ _ S=>?_);(refine aj S (pfs h1) fun _ _ _ S=>?_);refine bM fun _ _ _ S=>?_;refine jG S rfl (rfl) (VW ?_);clear S;intro _ _ _ S;exact wp_ret (gq [] S rfl rfl ⟨⟨_,_,_,rfl,rfl,rfl⟩,rfl,trivial⟩)
theorem x_mid:Fn 59 [qD s a d,qD t b e] (.t [zO,e1]):=by
 have h1:=ZP (s:=s) (t:=t) (a:=a) (b:=b) hd he ld le h0;refine dV Tryz.func59 (code:=qf Tryz.f59) rfl rfl fun w ac S=>?_
 refine bM fun _ _ _ S=>?_;(refine aj S (pc (h1)) fun _ _ _ S=>?_);refine bM fun _ _ _ S=>?_;refine jG S rfl (rfl) (VW ?_);clear S;intro _ _ _ S;exact wp_ret (gq [] S rfl rfl ⟨⟨_,_,_,rfl,rfl,rfl⟩,rfl,trivial⟩)
theorem x_sub(hz:zv t b=z)(hb:Wd b)(lb:b.length≤40000000):Fn 53 [qD s a d,qD t b e] (.t [zO,e1]):=by
 have h1:=ZP (s:=s) (t:=decide (-z<0)) (a:=a) (b:=dg B (-z).natAbs) hd he ld le h0;refine dV Tryz.func53 (code:=qf Tryz.f53) rfl rfl fun w ac S=>?_
 refine bM fun _ _ _ S=>?_;(refine aj S (pc (zk hz hb om)) fun _ _ _ S=>?_);refine bM fun _ _ _ S=>?_;(refine DZ S rfl rfl rfl kf rfl rfl ?_;clear S;intro _ _ S);refine bM fun _ _ _ S=>?_;(refine aj S (pc (h1)) fun _ _ _ S=>?_);refine bM fun _ _ _ S=>?_;exact wp_ret (gq [] S rfl rfl ⟨⟨_,_,_,rfl,rfl,rfl⟩,rfl,trivial⟩)
end
section
variable {k:Int} (hd:Wd d) (ld:d.length≤40000000) (h0:nv B d=0)
include hd ld h0
theorem TR:Fn 18 [qD s a d,.k (.int .i64 k)] (.t [.g [.k (.bool false),.k (.slice none 0 0)],e1]):=by
 refine dV Tryz.func18 (code:=qf Tryz.f18) rfl rfl fun w ac S=>?_
 refine bM fun _ _ _ S=>?_;(refine aj S (pc (ZK h0 hd om)) fun _ _ _ S=>?_);refine bM fun _ _ _ S=>?_;refine jG S rfl (rfl) (VW ?_);clear S;intro _ _ _ S;exact wp_ret (gq [] S rfl rfl ⟨⟨_,_,_,rfl,rfl,rfl⟩,rfl,trivial⟩)
theorem x_ceil(hx:zv s a=x)(ha:Wd a)(la:a.length≤40000000):Fn 60 [qD s a d,.k (.int .i64 k)] (.t [.g [.k (.bool false),.k (.slice none 0 0)],e1]):=by
 have h1:=TR (s:=decide (-x<0)) (a:=dg B (-x).natAbs) (k:=k) hd ld h0;refine dV Tryz.func60 (code:=qf Tryz.f60) rfl rfl fun w ac S=>?_
 refine bM fun _ _ _ S=>?_;(refine aj S (pc (zk hx ha om)) fun _ _ _ S=>?_);refine bM fun _ _ _ S=>?_;(refine DZ S rfl rfl rfl kf rfl rfl ?_;clear S;intro _ _ S);refine bM fun _ _ _ S=>?_;(refine aj S (pc (h1)) fun _ _ _ S=>?_);refine bM fun _ _ _ S=>?_;refine jG S rfl (rfl) (VW ?_);clear S;intro _ _ _ S;exact wp_ret (gq [] S rfl rfl ⟨⟨_,_,_,rfl,rfl,rfl⟩,rfl,trivial⟩)
end
end
section
open Go Go.RowKit Ab
theorem ZQ:aT 150 [] (.o 49 1 (W (dg B 1))):=by
 have e:W (dg B 1)=[.i .u64 1]:=by rw[show dg B 1=[1]from by decide+kernel];rfl
 rw[e];refine f_ aN a_ Tryz.func150 ?_;refine aX @wi ?_;exact rP @wi
end
section
open Go Go.RowKit Go.Proofs Ab
section
variable {w0:World} {N i:Nat} {R:Nat→Option Δ} {Bx:Bs} {P:Program} {dst:Option Tmp} {x y:Operand} {ty tx t:TypeId} {p:String} {e:Array Edge} {gd:Option (Nat×Bool)}
theorem ok_bk{op:BinOp}{k k2:IntKind}{u v:Int}{r:Value}(hx:lX R x (.k (.int k u)))(f:lX R y (.k (.int k2 v)))(g:∀w:World,(binOp op tx (.int k u) (.int k2 v)).run P w= .ok r w):Ok P w0 N ⟨dst,.binOp op tx x y ty,t,p,e,gd⟩ i R Bx (.k r) none:=
 wV fun γ w a c _=>by
  have e1:a.eval x= .int k u:=hx.ev c;have j:a.eval y= .int k2 v:=f.ev c;exact⟨r,by simp[execOp,e1,j,eqGuard_at_int,g w],rfl⟩
end
variable{p:Prop}
theorem goT(h:p:=by first|exact goR|exact dC (ok_bk rfl rfl (fun _=>rfl))|exact Ze (ok_bk rfl rfl (fun _=>rfl)) rfl rfl rfl rfl):p:=h
theorem Gv{q:Prop}(k:q)(h:PLift q→p:=by
 intro hq;(repeat (first|(show wpList _ _ _ (_::_) _ _;refine bQ S goT ?_;intro x1 x2 x3 S)|refine ET ?_|refine Zf ?_|refine h_ ?_));first|(revert x1 x2 x3;exact hq.down)|exact hq.down):p:=h ⟨k⟩
variable {s:Bool} {a d:List Nat} {x:Int} {D0:Nat} {m:Nat}
theorem f_mone:Fn 150 [] (.ow (dg B 1) 0):=Cm fun w a c h=>match a,h with
 |[],_=>JI (vs:=[]) (H:=fun _=>False) ZQ c (fun _ h=>h.elim) ⟨rfl,fun j v y h1 f=>by simp at h1⟩
theorem f_bound{n:Nat}(a:n≤10000):Fn 149 [.k (.int .i64 (n:Int)),.k (.int .i64 10000)] e0:=by
 refine dV Tryz.func149 (code:=qf Tryz.f149) rfl rfl fun w ac S=>?_
 refine bM fun _ _ _ S=>?_;refine wp_seq (wp_block (bM ?_));clear S;intro _ _ _ S;refine eH S rfl (rfl) (bM ?_);clear S;intro _ _ _ S;refine eH S rfl (rfl) (wp_skip (bM ?_));clear S;intro _ _ _ S;exact wp_ret (pF [] S rfl rfl)
theorem f_sq{v:Nat}(c:nv B a=v)(ha:Wd a)(la:a.length≤100000000):Fn 148 [.rd a] (.ow (dg B (v*v)) 0):=by
 refine dV Tryz.func148 (code:=qf Tryz.f148) rfl rfl fun w ac S=>?_
 refine bM fun _ _ _ S=>?_;(refine aj S (pc (ES ha la ha la c c)) fun _ _ _ S=>?_);refine bM fun _ _ _ S=>?_;exact wp_ret (pF [_] S rfl rfl)
theorem f_mpow2{v:Nat}(hm:m≤10000000)(f:nv B a=v)(ha:Wd a)(la:a.length≤m):Fn 114 [.rd a,.k (.int .i64 2)] (.t [.ow (dg B (v^2)) 0,e0]):=by
 have c:v<B^m:=f▸bP ha la;have g:v*v<B^(m+m):=rF c c;have hb:=f_bound (n:=2) dc;refine dV Tryz.func114 (code:=qf Tryz.f114) rfl rfl fun w ac S=>?_
 refine bM fun _ _ _ S=>?_;(refine aj S (pc (hb)) fun _ _ _ S=>?_);refine bM fun _ _ _ S=>?_;refine eH S rfl (rfl) (wp_skip (bM ?_));(refine aj S (pc (f_mone)) fun _ _ _ S=>?_);refine bM fun _ _ _ S=>?_;(refine aj S (pc (A8 ha om f)) fun _ _ _ S=>?_);refine bM fun _ _ _ S=>?_;refine wp_seq (wp_block ?_);refine wp_loop_rounds 3 (Gv ?_);clear S;intro _ _ _ S;refine jG S rfl (rfl) ?_;refine wp_skip ?_;refine wp_seq (wp_block (Gv ?_));clear S;intro _ _ _ S;refine eH S rfl (rfl) (wp_skip (Gv ?_));clear S;intro _ _ _ S;refine jG S rfl (rfl) ?_;refine wp_region_lit (Gv ?_);clear S;intro _ _ _ S;(refine aj S (pc (f_sq (ae v) (af _) (OL c om))) fun _ _ _ S=>?_);refine Gv fun _ _ _ S=>?_;refine wp_region_lit (Gv ?_);clear S;intro _ _ _ S;refine jG S rfl (rfl) ?_;refine wp_skip ?_;refine wp_seq (wp_block (Gv ?_));clear S;intro _ _ _ S;refine jG S rfl (rfl) ?_;refine wp_region_lit (Gv ?_);clear S;intro _ _ _ S;(refine aj S (pc (ES (af _) dc (af _) (OL g om) (ae 1) (ae (v*v)))) fun _ _ _ S=>?_);rw[show 1*(v*v)=v^2 from by rw[iV,Nat.pow_two]]at S;refine Gv fun _ _ _ S=>?_;refine eH S rfl (rfl) (wp_skip ?_);refine wp_region_lit (Gv ?_);clear S;intro _ _ _ S;refine eH S rfl (rfl) ?_;refine wp_exit (Gv ?_);clear S;intro _ _ _ S;exact wp_ret (gq [_] S rfl rfl ⟨rfl,rfl,trivial⟩)
theorem f_zpow2(hm:m≤10000000)(hx:zv s a=x)(ha:Wd a)(la:a.length≤m):Fn 113 [iD s a,.k (.int .i64 2)] (.t [iO (x^2) 0,e0]):=by
 obtain⟨v,f⟩:∃v,nv B a=v:=⟨_,rfl⟩;have c:v<B^m:=f▸bP ha la;have j:v*v<B^(m+m):=rF c c;have l:x^2=((v*v:Nat):Int):=by
  rw[←hx,←Int.natAbs_pow_two,zV,f];rw[Int.pow_succ,Int.pow_succ,Int.pow_zero,Int.one_mul];rfl
 have e:iO (x^2) 0= .g [.k (.bool (false&&decide (0<(dg B (v*v)).length))),.ow (dg B (v*v)) 0]:=by
  rw[l];show Δ.g [.k (.bool (decide (((v*v:Nat):Int)<0))),.ow (dg B ((v*v:Nat):Int).natAbs) 0]=_;rw[aZ om,vS];rfl
 rw[e];refine dV Tryz.func113 (code:=qf Tryz.f113) rfl rfl fun w ac S=>?_
 refine bM fun _ _ _ S=>?_;refine eH S rfl (rfl) (wp_skip ?_);(refine wp_seq (gU 4 [_,_,_,_] [_,_,_,_] [[],[(2,none)],[(17,some 1)],[(18,some 2)]] rfl S aN kf kf kf ⟨pc (Ac (n:=1) dc),px,px,pc (A8 ha om f),trivial⟩ ?_);clear S;intro _ _ _ S);refine Gv fun _ _ _ S=>?_;refine wp_block ?_;refine wp_loop_rounds 3 (Gv ?_);clear S;intro _ _ _ S;refine jG S rfl (rfl) ?_;refine wp_skip ?_;refine wp_seq (wp_block (Gv ?_));clear S;intro _ _ _ S;refine eH S rfl (rfl) (wp_skip (Gv ?_));clear S;intro _ _ _ S;refine jG S rfl (rfl) ?_;refine wp_region_lit (Gv ?_);clear S;intro _ _ _ S;(refine aj S (pc (f_sq (ae v) (af _) (OL c om))) fun _ _ _ S=>?_);refine Gv fun _ _ _ S=>?_;refine wp_region_lit (Gv ?_);clear S;intro _ _ _ S;refine jG S rfl (rfl) ?_;refine wp_skip ?_;refine wp_seq (wp_block (Gv ?_));clear S;intro _ _ _ S;refine jG S rfl (rfl) ?_;refine wp_region_lit (Gv ?_);clear S;intro _ _ _ S;(refine aj S (pc (ES (af _) dc (af _) (OL j om) (ae 1) (ae (v*v)))) fun _ _ _ S=>?_);rw[iV]at S;refine Gv fun _ _ _ S=>?_;refine eH S rfl (rfl) (wp_skip ?_);refine wp_region_lit (Gv ?_);clear S;intro _ _ _ S;refine eH S rfl (rfl) ?_;refine wp_exit ?_;cases s
 ·(repeat (first|(show wpList _ _ _ (_::_) _ _;refine bQ S goT fun _ _ _ S=>?_)|refine ET ?_|refine Zf ?_|refine h_ ?_));(refine aj S (Ad rfl rfl) fun _ _ _ S=>?_);refine Gv fun _ _ _ S=>?_;exact wp_ret (gq [_] S rfl rfl ⟨⟨_,_,_,rfl,rfl,rfl⟩,rfl,trivial⟩)
 ·(repeat (first|(show wpList _ _ _ (_::_) _ _;refine bQ S goT fun _ _ _ S=>?_)|refine ET ?_|refine Zf ?_|refine h_ ?_));(refine aj S (Ad rfl rfl) fun _ _ _ S=>?_);refine Gv fun _ _ _ S=>?_;exact wp_ret (gq [_] S rfl rfl ⟨⟨_,_,_,rfl,rfl,rfl⟩,rfl,trivial⟩)
theorem fq_pow2(hm:m≤10000000)(hx:zv s a=x)(ha:Wd a)(la:a.length≤m)(hD:nv B d=D0)(hd:Wd d)(ld:d.length≤m)(d0:D0≠0):Fn 57 [qD s a d,.k (.int .i64 2)] (.t [qO (rz (rz x D0^2) (aH x D0^2)) (aH (rz x D0^2) (aH x D0^2)) 0 1,e0]):=by
 have c:=D7 om hx ha la hD hd ld d0;have c1:(rz x D0).natAbs<B^m:=rz_lt (D0:=D0) (hx▸bF (s:=s) ha la);have c2:aH x D0<B^m:=rd_lt (x:=x) (hD▸bP hd ld);have c3:aH x D0≠0:=g_ d0;generalize rz x D0=U at*
 generalize aH x D0=V at*
 have j:(U^2).natAbs<B^(m+m):=by rw[Int.natAbs_pow,Nat.pow_two];exact rF c1 c1
 have g:V^2<B^(m+m):=by rw[Nat.pow_two];exact rF c2 c2
 have f:V^2≠0:=Nat.pos_iff_ne_zero.1 (bg om);refine dV Tryz.func57 (code:=qf Tryz.f57) rfl rfl fun w ac S=>?_
 refine bM fun _ _ _ S=>?_;(refine aj S (pc (c)) fun _ _ _ S=>?_);refine bM fun _ _ _ S=>?_;refine wp_seq (wp_block (bM ?_));clear S;intro _ _ _ S;refine eH S rfl (rfl) (bM ?_);clear S;intro _ _ _ S;refine eH S rfl (rfl) (bM ?_);clear S;intro _ _ _ S;refine jG S rfl (rfl) (bM ?_);clear S;intro _ _ _ S;(refine aj S (pc (f_zpow2 hm (fD U) (af _) (aA c1))) fun _ _ _ S=>?_);refine bM fun _ _ _ S=>?_;(refine aj S (pc (f_mpow2 hm (ae V) (af _) (aA c2))) fun _ _ _ S=>?_);refine bM fun _ _ _ S=>?_;(refine aj S (pc (D6 (m:=m+m) om (fD (U^2)) (ae (V^2)) (af _) (aA j) (af _) (aA g) f)) fun _ _ _ S=>?_);refine bM fun _ _ _ S=>?_;exact wp_ret (gq [_,_] S rfl rfl ⟨⟨_,_,_,rfl,rfl,rfl⟩,rfl,trivial⟩)
theorem x_pow(hd:Wd d)(ld:d.length≤100000000)(hD:nv B d=0):Fn 57 [qD s a d,.k (.int .i64 2)] (.t [zO,e1]):=by
 have c:=QQ (s:=s) (a:=a) hd ld hD;refine dV Tryz.func57 (code:=qf Tryz.f57) rfl rfl fun w ac S=>?_
 refine bM fun _ _ _ S=>?_;(refine aj S (pc (c)) fun _ _ _ S=>?_);refine bM fun _ _ _ S=>?_;refine wp_seq (wp_block (bM ?_));clear S;intro _ _ _ S;refine jG S rfl (rfl) (VW ?_);clear S;intro _ _ _ S;exact wp_ret (gq [] S rfl rfl ⟨⟨_,_,_,rfl,rfl,rfl⟩,rfl,trivial⟩)
end
section
open Go Go.RowKit Go.Proofs Ab
abbrev nD(a d:Nat):Δ:=qD false (dg B a) (dg B d)
abbrev nO(a d t u:Nat):Δ:= .g [.k (.bool false),.ow (dg B a) t,.ow (dg B d) u]
abbrev nI(a t:Nat):Δ:= .g [.k (.bool false),.ow (dg B a) t]
theorem CG(a d t u:Nat):qO (a:Int) d t u=nO a d t u:=by
 show Δ.g [.k (.bool (decide ((a:Int)<0))),.ow (dg B (a:Int).natAbs) t,.ow (dg B d) u]=_;rw[aZ om,vS]
theorem EU(a t:Nat):iO (a:Int) t=nI a t:=by
 show Δ.g [.k (.bool (decide ((a:Int)<0))),.ow (dg B (a:Int).natAbs) t]=_;rw[aZ om,vS]
theorem Jd(a:Nat):zv false (dg B a)=(a:Int):=by rw[oC,ae]
section
variable {m:Nat} (hm:m≤1100000)
include hm
variable{a f g:Nat}
theorem n_ceil{d:Nat}(ha:a<B^m)(hd:d<B^m)(h0:0<d):Fn 60 [nD a d,.k (.int .i64 0)] (.t [nI ((a+d-1)/d) 0,e0]):=by
 have h:=TN (k:=0) dc (m:=m) om (Jd a) (ae d) (af _) (af _) (aA ha) (aA hd) om;rw[Ic _ _ h0,EU]at h;exact h
theorem n_floor{d:Nat}(ha:a<B^m)(hd:d<B^m)(h0:0<d):Fn 18 [nD a d,.k (.int .i64 0)] (.t [nI (a/d) 0,e0]):=by
 have h:=IM (k:=0) dc (m:=m) om (Jd a) (ae d) (af _) (af _) (aA ha) (aA hd) om;rw[EO,EU]at h;exact h
variable (h1:1<B^m)
include h1
theorem n_sub{d:Nat}(ha:a<B^m)(hd:d<B^m)(j:f<B^m)(h0:0<d)(e:a=d*f+g)(c:Nat.gcd g d=1):Fn 53 [nD a d,nD f 1] (.t [nO g d 0 1,e0]):=by
 have h:=ZN (m:=m) om (Jd a) (Jd f) (ae d) (ae 1) (af _) (af _) (af _) (af _) (aA ha) (aA j) (aA hd) (aA h1) om dc;rw[aO,show(a:Int)*((1:Nat):Int)+ -(f:Int)*(d:Int)=(g:Int)from by rw[e,Int.neg_mul,Int.mul_comm (f:Int)];rw[←jC];omega,uq c,kT c,CG]at h;exact h
theorem ZR{d:Nat}(hd:d<B^m)(a:g<B^m)(h0:0<d)(g0:0<g)(c:Nat.gcd d g=1):Fn 55 [nD 1 1,nD g d] (.t [nO d g 0 1,e0]):=by
 have h:=ZO (m:=m) om (Jd 1) (Jd g) (ae 1) (ae d) (af _) (af _) (af _) (af _) (aA h1) (aA a) (aA h1) (aA hd) dc om om;rw[show((1:Nat):Int)*(d:Int)=(d:Int)from om,show(g:Int)*((1:Nat):Int)=(g:Int)from om,Gn,show mz (d:Int) (g:Int)=(d:Int)from ah om,uq c,kT c,CG]at h;exact h
theorem n_add{p q:Nat}(g:f<B^m)(c:p<B^m)(hq:q<B^m)(j:0<p)(a:Nat.gcd (f*p+q) p=1):Fn 22 [nD f 1,nD q p] (.t [nO (f*p+q) p 0 1,e0]):=by
 have h:=IL (m:=m) om (Jd f) (Jd q) (ae 1) (ae p) (af _) (af _) (af _) (af _) (aA g) (aA hq) (aA h1) (aA c) dc om;rw[iV,show(f:Int)*(p:Int)+(q:Int)*((1:Nat):Int)=((f*p+q:Nat):Int)from by rw[Int.natCast_add,jC];omega,uq a,kT a,CG]at h;exact h
theorem n_red(ha:a<B^m):Fn 78 [.g [.k (.bool false),.rd (dg B a)],.rd (dg B 1)] (nO a 1 0 1):=by
 have h:=D6 (m:=m) om (Jd a) (ae 1) (af _) (aA ha) (af _) (aA h1) dc;rw[uq (sG _),kT (sG _),CG]at h;exact h
end
theorem f_zof1:Fn 68 [.k (.int .i64 1)] (nI 1 0):=by
 have h:=Zq (n:=1) dc;rwa[EU]at h
theorem f_btw:∀k,∀(a d b e m:Nat),Ends a d b e→d+e≤k→m≤1100000→16384≤m→a<B^m→d<B^m→b<B^m→e<B^m→Fn 81 [nD a d,nD b e] (nO (uw k a d b e).1 (uw k a d b e).2 0 1):=by
 intro k;induction k with
 |zero=>intro a d b e m h I hm l ha hd hb he;have:=h.d0;omega
 |succ k Y=>
  intro a d b e m h I hm l ha hd hb he;have ok:=tu (k+1) a d b e h I;have j:=yT l;have d0:=h.d0;have OM:=h.e0;have c1:=n_ceil hm ha hd d0;have A:(a+d-1)/d<B^m:=by
   refine cZ (Nat.lt_succ_iff.1 ((fP d0).2 ?_)) ha;rw[Nat.succ_mul];have:a*1≤a*d:=iZ _ d0;omega
  have c2:=qcmpN hm A j hb he dc OM;rw[aO]at c2;unfold uw at ok ⊢;by_cases C:(a+d-1)/d*e≤b
  ·rw[au C];have hz:cz (((a+d-1)/d*e:Nat):Int) (b:Int)≤0:=by rw[Tf];exact C
   have r1:=n_red hm j A;generalize cz (((a+d-1)/d*e:Nat):Int) (b:Int)=z at*
   generalize (a+d-1)/d=c at*
   clear ok;refine dV Tryz.func81 (code:=qf Tryz.f81) rfl rfl fun w ac S=>?_
   refine bM fun _ _ _ S=>?_;(refine aj S (pc (c1)) fun _ _ _ S=>?_);refine bM fun _ _ _ S=>?_;refine wp_seq ?_;(refine wp_seq (gU 9 [_,_,_,_,_,_,_,_,_] [_,_,_,_,_,_,_,_,_] [[(5,none)],[],[(25,some 0),(26,some 1)],[(3,none)],[(27,some 2),(28,some 3)],[(29,some 4)],[(24,some 5)],[(24,some 5)],[(30,some 6)]] rfl S aN kf kf kf ⟨px,pc (Ac (n:=1) dc),px,px,pf (d:= .t [.k (.int .i64 z),e0]) c2,px,px,px,px,trivial⟩ ?_);clear S;intro _ _ _ S);refine bM fun _ _ _ S=>?_;refine jG S rfl (rfl) ?_;(refine wp_seq (gU 3 [_,_,_] [_,_,_] [[(5,none)],[],[(34,some 0),(35,some 1)]] rfl S aN kf kf kf ⟨px,pc (Ac (n:=1) dc),pc (r1),trivial⟩ ?_);clear S;intro _ _ _ S);refine bM fun _ _ _ S=>?_;exact wp_ret (pF [_,_] S rfl ⟨_,_,_,rfl,rfl,rfl⟩)
  ·rw[ah C]at ok ⊢;have hz:¬cz (((a+d-1)/d*e:Nat):Int) (b:Int)≤0:=by rw[Tf];exact C
   obtain⟨O,Q,T,H,hq,y⟩:=AZ h C;have P:=cu a d0;have u:a/d<B^m:=cZ (fE _ _) ha;have U:=n_floor hm ha hd d0;have G:Nat.gcd (a%d) d=1:=by rw[kH];exact y.cb
   have F:Nat.gcd (b-a/d*e) e=1:=by rw[kH];exact y.ca
   have s1:=n_sub hm j ha hd u d0 H G;have s2:=n_sub hm j (a:=b) (d:=e) (g:=b-a/d*e) hb he u OM (by rw[bV e];omega) F;have J:a%d<B^m:=om;have E:b-a/d*e<B^m:=om;have q1:=ZR hm j hd J d0 O y.cb;have q2:=ZR hm j he E OM om y.ca;have N:=Y e (b-a/d*e) d (a%d) m y om hm l he E hd J;obtain⟨p1,p2,M,p4,p5,p6,p7⟩:=tu k e (b-a/d*e) d (a%d) y om;generalize uw k e (b-a/d*e) d (a%d)=r at*
   have L:=ZR (g:=r.1) (d:=r.2) hm j om om p2 p1 (by rw[kH];exact M);have a1:=n_add (f:=a/d) (p:=r.1) (q:=r.2) hm j u om om p1 ok.2.2.1;generalize cz (((a+d-1)/d*e:Nat):Int) (b:Int)=z at*
   clear ok;generalize (a+d-1)/d=c at*
   generalize a/d*r.1+r.2=t at*
   generalize r.1=Z at*
   generalize r.2=t2 at*
   generalize b-a/d*e=b' at*
   generalize a/d=f at*
   generalize a%d=a' at*
   refine dV Tryz.func81 (code:=qf Tryz.f81) rfl rfl fun w ac S=>?_
   refine bM fun _ _ _ S=>?_;(refine aj S (pc (c1)) fun _ _ _ S=>?_);refine bM fun _ _ _ S=>?_;refine wp_seq ?_;(refine wp_seq (gU 9 [_,_,_,_,_,_,_,_,_] [_,_,_,_,_,_,_,_,_] [[(5,none)],[],[(25,some 0),(26,some 1)],[(3,none)],[(27,some 2),(28,some 3)],[(29,some 4)],[(24,some 5)],[(24,some 5)],[(30,some 6)]] rfl S aN kf kf kf ⟨px,pc (Ac (n:=1) dc),px,px,pf (d:= .t [.k (.int .i64 z),e0]) c2,px,px,px,px,trivial⟩ ?_);clear S;intro _ _ _ S);refine bM fun _ _ _ S=>?_;refine eH S rfl (rfl) (wp_skip (bM ?_));clear S;intro _ _ _ S;(refine aj S (pc (U)) fun _ _ _ S=>?_);refine bM fun _ _ _ S=>?_;(refine wp_seq (gU 4 [_,_,_,_] [_,_,_,_] [[(9,none)],[],[(42,some 0),(43,some 1)],[]] rfl S aN kf kf kf ⟨px,pc (Ac (n:=1) dc),px,px,trivial⟩ ?_);clear S;intro _ _ _ S);refine bM fun _ _ _ S=>?_;(refine aj S (pc (s1)) fun _ _ _ S=>?_);refine bM fun _ _ _ S=>?_;(refine aj S (pc (s2)) fun _ _ _ S=>?_);refine bM fun _ _ _ S=>?_;(refine aj S (pc (f_zof1)) fun _ _ _ S=>?_);refine bM ?_;(refine aj S (pc (Ac (n:=1) dc)) fun _ _ _ S=>?_);refine bM fun _ _ _ S=>?_;(refine aj S (pc (q1)) fun _ _ _ S=>?_);refine bM fun _ _ _ S=>?_;(refine aj S (pc (q2)) fun _ _ _ S=>?_);refine bM fun _ _ _ S=>?_;(refine wp_seq (Oe 11 [.v _ _,.v _ _,.v _ _,.v _ _,.v _ _,.v _ _,.v _ _,.v _ _,.v _ _,.st (S.cn 8) _,.v _ _] [[(16,none)],[(14,none)],[(12,none)],[(74,some 1),(75,some 2)],[(73,some 0),(76,some 3)],[(77,some 4)],[(72,some 5)],[(72,some 5)],[],[(17,some 8),(78,some 6)],[(79,some 7)]] rfl S aN kf kf ⟨px,px,px,pc (N),pc (L),px,px,px,px,psn,px,trivial⟩ kf kf ?_);intro _ _ _ S);refine bM fun _ _ _ S=>?_;(refine aj S (pc (a1)) fun _ _ _ S=>?_);refine bM fun _ _ _ S=>?_;exact wp_ret (pF [_,_] S rfl ⟨_,_,_,rfl,rfl,rfl⟩)
end
