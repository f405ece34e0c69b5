import Derived.Test.YtpopphdnlhihdaaGreatDoorQD
set_option linter.all false
set_option maxRecDepth 2000000
set_option maxHeartbeats 10000000
namespace Go.Proofs.YtpopphdnlhihdaaGreatDoor
open Go Go.RowKit Ab
def tC:=an @aQ<|an @fK<|an @aW<|an @aO<|an @aI<|an @fZ<|an @mJ<|an @dR<|an @iL<|an @wi<|an @lu<|an @gG @di
variable{m:Nat}{z:Int}{l:List (Bool×List Nat×List Nat)}
theorem mul_lt{x y:Int}(c:x.natAbs<B^m)(a:y.natAbs<B^m):(x*y).natAbs<B^(m+m):=by
 rw[jy,dn];exact Nat.mul_lt_mul'' c a
theorem rF{x y:Nat}(c:x<B^m)(a:y<B^m):x*y<B^(m+m):=by
 rw[dn];exact Nat.mul_lt_mul'' c a
theorem Fg(s t:Bool)(a b d e:List Nat)(m:Nat)(hm:m≤10000000)(j:Wd a)(hb:Wd b)(hd:Wd d)(he:Wd e)(g:a.length≤m)(f:b.length≤m)(ld:d.length≤m)(le:e.length≤m)(h:nv B d*nv B e≠0):
 aT 95 [rL s a d,rL t b e] (rN (rz (zv s a*zv t b) (nv B d*nv B e)) (aH (zv s a*zv t b) (nv B d*nv B e))):=by
 have A:=sD s t a b m om j hb g f
 have z:=(vw d e hd he om om).frozen
 have y:=mul_lt (bF (s:=s) j g) (bF (s:=t) hb f)
 have l:=rF (bP hd ld) (bP he le)
 generalize zv s a*zv t b=x at*
 generalize nv B d*nv B e=w at*
 have r1:=oH (decide (x<0)) (dg B x.natAbs) (dg B w) (m+m) om (af _) (af _) (aA y) (aA l) (by rw[ae];exact h)
 rw[fD,ae]at r1
 generalize rz x w=u at*
 generalize aH x w=v at*
 refine b_ aN a_ Tryz.func95 [.c 4 true 3] ?_
 exact lV @tC
theorem zv_mz(x:Int)(t:Bool)(b d e:List Nat)(hb:nv B b≠0)(hd:nv B d≠0):x*zv t e=mz (x*(nv B e:Int)) (zv t b*(nv B d:Int)):=by
 have a:=Nat.mul_pos (C_ hb) (C_ hd);unfold mz zv zI;cases t
 ·simp only[aJ,if_false];rw[←jC,ah om]
 ·simp only[if_true];rw[Int.neg_mul,←jC,au om,Int.mul_neg]
theorem Ci(s t:Bool)(a b d e:List Nat)(m:Nat)(hm:m≤10000000)(l:Wd a)(hb:Wd b)(hd:Wd d)(he:Wd e)(j:a.length≤m)(A:b.length≤m)(ld:d.length≤m)(le:e.length≤m)(f:nv B d≠0)(g:nv B b≠0):
 aT 97 [rL s a d,rL t b e] (rN (rz (zv s a*zv t e) (nv B d*nv B b)) (aH (zv s a*zv t e) (nv B d*nv B b))):=by
 have G:=uY t e he om
 have be:=bF (s:=t) he le
 have z:=sD s (decide (zv t e<0)) a (dg B (zv t e).natAbs) m om l (af _) j (aA be)
 rw[fD]at z
 have F:=(vw d b hd hb om om).frozen
 have E:=mul_lt (bF (s:=s) l j) be
 have C:=rF (bP hd ld) (bP hb A)
 have h:nv B d*nv B b≠0:=mM f g
 generalize zv s a*zv t e=x at*
 generalize zv t e=y at*
 generalize nv B d*nv B b=w at*
 have r1:=oH (decide (x<0)) (dg B x.natAbs) (dg B w) (m+m) om (af _) (af _) (aA E) (aA C) (by rw[ae];exact h)
 rw[fD,ae]at r1
 generalize rz x w=u at*
 generalize aH x w=v at*
 refine b_ aN a_ Tryz.func97 [.c 4 true 3] ?_
 exact lV @tC
theorem Vu(s t:Bool)(a b d e:List Nat)(m:Nat)(hm:m≤10000000)(l:Wd a)(hb:Wd b)(hd:Wd d)(he:Wd e)(j:a.length≤m)(g:b.length≤m)(ld:d.length≤m)(le:e.length≤m):
 aT 31 [rL s a d,rL t b e] (.t [rv (zv s a*(nv B e:Int)+zv t b*(nv B d:Int)) (nv B d*nv B e),.i .i64 (re (nv B d*nv B e))]):=by
 have f:=oJ s t a b d e hd he om om
 by_cases h:nv B d*nv B e=0
 ·rw[h,wH,kS];rw[h,kS]at f;refine b_ aN a_ Tryz.func31 [.c 4 true 3,.t 5] ?_;exact lV @tC
 ·have y:=wL s t a b d e m hm l hb hd he j g ld le h;rw[rX _ h,ja h];rw[ja h]at f;generalize rz (zv s a*(nv B e:Int)+zv t b*(nv B d:Int)) (nv B d*nv B e)=u at*
  generalize aH (zv s a*(nv B e:Int)+zv t b*(nv B d:Int)) (nv B d*nv B e)=v at*
  refine b_ aN a_ Tryz.func31 [.c 4 true 3,.t 5] ?_;exact lV @tC
theorem Vw(s t:Bool)(a b d e:List Nat)(m:Nat)(hm:m≤10000000)(y:Wd a)(hb:Wd b)(hd:Wd d)(he:Wd e)(l:a.length≤m)(j:b.length≤m)(ld:d.length≤m)(le:e.length≤m):
 aT 32 [rL s a d,rL t b e] (.t [rv (zv s a*(nv B e:Int)-zv t b*(nv B d:Int)) (nv B d*nv B e),.i .i64 (re (nv B d*nv B e))]):=by
 have g:=oJ s t a b d e hd he om om
 by_cases h:nv B d*nv B e=0
 ·rw[h,wH,kS];rw[h,kS]at g;refine b_ aN a_ Tryz.func32 [.c 4 true 3,.t 5] ?_;exact lV @tC
 ·have z:=xm s t a b d e m hm y hb hd he l j ld le (fun f=>h (by rw[f,iT])) (fun f=>h (by rw[f,kG]));rw[rX _ h,ja h];rw[ja h]at g;generalize rz (zv s a*(nv B e:Int)-zv t b*(nv B d:Int)) (nv B d*nv B e)=u at*
  generalize aH (zv s a*(nv B e:Int)-zv t b*(nv B d:Int)) (nv B d*nv B e)=v at*
  refine b_ aN a_ Tryz.func32 [.c 4 true 3,.t 5] ?_;exact lV @tC
theorem Vx(s t:Bool)(a b d e:List Nat)(m:Nat)(hm:m≤10000000)(l:Wd a)(hb:Wd b)(hd:Wd d)(he:Wd e)(j:a.length≤m)(g:b.length≤m)(ld:d.length≤m)(le:e.length≤m):
 aT 33 [rL s a d,rL t b e] (.t [rv (zv s a*zv t b) (nv B d*nv B e),.i .i64 (re (nv B d*nv B e))]):=by
 have f:=oJ s t a b d e hd he om om
 by_cases h:nv B d*nv B e=0
 ·rw[h,wH,kS];rw[h,kS]at f;refine b_ aN a_ Tryz.func33 [.c 4 true 3,.t 5] ?_;exact lV @tC
 ·have y:=Fg s t a b d e m hm l hb hd he j g ld le h;rw[rX _ h,ja h];rw[ja h]at f;generalize rz (zv s a*zv t b) (nv B d*nv B e)=u at*
  generalize aH (zv s a*zv t b) (nv B d*nv B e)=v at*
  refine b_ aN a_ Tryz.func33 [.c 4 true 3,.t 5] ?_;exact lV @tC
def qv(x:Int)(d:Nat)(y:Int)(e:Nat):V:=if d*e=0 then .g [.b false,.l 1 [],.l 1 []]else rv (mz (x*(e:Int)) (y*(d:Int))) (y*(d:Int)).natAbs
def qqe(d:Nat)(y:Int)(e:Nat):Int:=if d*e=0 then 1 else re (y*(d:Int)).natAbs
theorem YP(t:Bool)(b:List Nat):(gp (zv t b)=0)=(nv B b=0):=by rw[KN];exact propext KU
theorem Vy(s t:Bool)(a b d e:List Nat)(m:Nat)(hm:m≤10000000)(F:Wd a)(hb:Wd b)(hd:Wd d)(he:Wd e)(E:a.length≤m)(C:b.length≤m)(ld:d.length≤m)(le:e.length≤m):
 aT 34 [rL s a d,rL t b e] (.t [qv (zv s a) (nv B d) (zv t b) (nv B e),.i .i64 (qqe (nv B d) (zv t b) (nv B e))]):=by
 have A:=oJ s t a b d e hd he om om
 have H:=yR t b e hb om
 unfold qv qqe
 by_cases h:nv B d*nv B e=0
 ·rw[au h,au h];rw[h,kS]at A;refine b_ aN a_ Tryz.func34 [.c 4 true 3,.t 5] ?_;exact lV @tC
 ·rw[ah h,ah h];rw[ja h]at A;have j:nv B d≠0:=fun I=>h (by rw[I,iT])
  have l:(zv t b*(nv B d:Int)).natAbs=nv B d*nv B b:=by rw[jy,zV,Gn,bV]
  by_cases f:nv B b=0
  ·have y:gp (zv t b)=0:=by rw[YP];exact f
   rw[l,f,kG,wH,kS];rw[y]at H;refine b_ aN a_ Tryz.func34 [.c 4 true 3,.t 5] ?_;exact lV @tC
  ·have y:¬gp (zv t b)=0:=by rw[YP];exact f
   have G:=Ci s t a b d e m hm F hb hd he E C ld le j f;rw[zv_mz _ t b d e f j]at G;rw[l,rX _ (mM j f),ja (mM j f)];generalize mz (zv s a*(nv B e:Int)) (zv t b*(nv B d:Int))=z at*
   generalize rz z (nv B d*nv B b)=u at*
   generalize aH z (nv B d*nv B b)=v at*
   generalize gp (zv t b)=g at*
   refine b_ aN a_ Tryz.func34 [.c 4 true 3,.t 5] ?_;exact lV (ai @y @tC)
theorem Vz(s:Bool)(a d:List Nat)(m:Nat)(hm:m≤100000000)(j:Wd a)(hd:Wd d)(g:a.length≤m)(ld:d.length≤m):aT 35 [rL s a d] (.t [rv (-(zv s a)) (nv B d),.i .i64 (re (nv B d))]):=by
 have f:=jW s a d hd om;by_cases h:nv B d=0
 ·rw[h,wH,kS];rw[cO h]at f;refine b_ aN a_ Tryz.func35 [.c 2 true 3,.t 3] ?_;exact lV @tC
 ·have l:=vK s a d m hm j hd g ld h;rw[rX _ h,ja h];rw[aZ h]at f;generalize rz (-(zv s a)) (nv B d)=u at*
  generalize aH (-(zv s a)) (nv B d)=v at*
  refine b_ aN a_ Tryz.func35 [.c 2 true 3,.t 3] ?_;exact lV @tC
def pv(z:Int)(d:Nat)(n:Int):V:=if n<0 then rv (mz ((d^(-n).toNat:Nat):Int) (z^(-n).toNat)) (z^(-n).toNat).natAbs else rN (rz (z^n.toNat) (d^n.toNat)) (aH (z^n.toNat) (d^n.toNat))
def pe(z:Int)(n:Int):Int:=if n<0 then re (z^(-n).toNat).natAbs else 0
def pV(z:Int)(d:Nat)(n:Int):V:=if d=0∨n< -4096∨4096<n then .g [.b false,.l 1 [],.l 1 []]else pv (rz z d) (aH z d) n
def pE(z:Int)(d:Nat)(n:Int):Int:=if d=0 then 1 else if n< -4096∨4096<n then 3 else pe (rz z d) n
theorem zpow_lt{n:Nat}(h:z.natAbs<B^m)(h1:1≤m):(z^n).natAbs<B^(m*n+1):=by rw[Int.natAbs_pow];exact pow_B h h1
theorem npow_lt{z n:Nat}(h:z<B^m)(h1:1≤m):z^n<B^(m*n+1):=pow_B h h1
theorem cap(m k K:Nat)(h:m*(K+1)+1≤1000000)(a:k≤K):m*k+1≤1000000∧m*(k+1)+1≤100000000:=by
 have f:=iZ m (show k+1≤K+1 by omega);have c:=iZ m (show k≤k+1 by omega);omega
def xC:=an @aQ<|an @fK<|an @aW<|an @aO<|an @aI<|an @fZ<|an @mJ<|an @dR<|an @iL<|an @wi<|an @lu<|an @gG @di
theorem Ti(z:Int)(k:Nat):zI (decide (z<0)&&decide (k%2=1)) (z.natAbs^k)=z^k:=by rw[YQ,Aq]
theorem mz_pow(z:Int)(d k:Nat)(h0:z≠0):mz ((d^k:Nat):Int) (z^k)=(zI (decide (z<0)) d)^k:=by
 have c:(0:Nat)<z.natAbs^k:=bg om;rw[←YQ,←Ti z k];unfold mz;have a:=Qy (decide (z<0)&&decide (k%2=1)) (z.natAbs^k);rw[cO c,jf]at a;generalize (decide (z<0)&&decide (k%2=1))=s at*
 cases s
 ·rw[ah (of_decide_eq_false a)];rfl
 ·rw[au (of_decide_eq_true a)];rfl
theorem rzN_co{d:Nat}(h:Nat.gcd z.natAbs d=1):rz z d=z:=by unfold rz;rw[show rG z d=1 from h];exact Int.tdiv_one _
theorem YR{d:Nat}(h:Nat.gcd z.natAbs d=1):aH z d=d:=by unfold aH;rw[show rG z d=1 from h];exact aW _
theorem rN_b(z:Int)(d:Nat):rN z d= .g [.b (decide (z<0)),.l 1 (W (dg B z.natAbs)),.l 1 (W (dg B d))]:=rfl
theorem VA(s:Bool)(a d:List Nat)(n:Int)(m K:Nat)(hm:m*(K+1)+1≤1000000)(h1:1≤m)(T:Wd a)(hd:Wd d)(la:a.length≤m)(ld:d.length≤m)(hn:(n< -4096∨4096<n)∨n.natAbs≤K):
 aT 36 [rL s a d,.i .i64 n] (.t [pV (zv s a) (nv B d) n,.i .i64 (pE (zv s a) (nv B d) n)]):=by
 have hmK:m≤m*(K+1):=Nat.le_mul_of_pos_right m om
 have k1:=jW s a d hd om
 unfold pV pE
 by_cases h:nv B d=0
 ·rw[cO h]at k1;rw[au (.inl h),au h];refine b_ aN a_ Tryz.func36 [.c 4 true 3,.t 5] ?_;exact lV @xC
 ·rw[aZ h]at k1;rw[ah h];by_cases Q:n< -4096∨4096<n
  ·rw[au (.inr Q),au Q];by_cases C:n< -4096
   ·refine b_ aN a_ Tryz.func36 [.c 4 true 3,.t 5] ?_;exact lV (ai @C @xC)
   ·have E:4096<n:=om;refine b_ aN a_ Tryz.func36 [.c 4 true 3,.t 5] ?_;exact lV (ai @E<|ai @C @xC)
  ·rw[ah om,ah Q];have hK:n.natAbs≤K:=om;have C:¬n< -4096:=om;have E:¬4096<n:=om;obtain⟨c1,c2⟩:=cap m n.natAbs K hm hK;have k2:=oH s a d m om T hd la ld h;have O:=yR s a d T om;rw[←YG h]at O;have bz:(rz (zv s a) (nv B d)).natAbs<B^m:=by rw[uH];exact cZ (fE _ _) (bF T la)
   have G:aH (zv s a) (nv B d)<B^m:=cZ (fE _ _) (bP hd ld);have U:=g_ (z:=zv s a) h;have co:=Ig (zv s a) h;generalize rz (zv s a) (nv B d)=z at*
   generalize aH (zv s a) (nv B d)=e at*
   have hodd:∀k:Nat,k≤4096→IntKind.i64.wrap ((k:Int).tmod 2)=((k%2:Nat):Int):=fun k hk=>wi (by have:(k:Int).tmod 2=((k%2:Nat):Int):=rfl;omega)
   have j:∀k:Nat,(k:Int).tmod 2=((k%2:Nat):Int):=fun k=>rfl
   have f:∀k:Nat,(((k%2:Nat):Int)=1)=(k%2=1):=fun k=>propext om
   have F:¬(2:Int)=0:=dc;have tail:∀(z:Int) (e k:Nat),z.natAbs<B^m→e<B^m→e≠0→m*k+1≤1000000→m*(k+1)+1≤100000000→k≤4096→
    aT 99 [.l 1 (W (dg B z.natAbs)),.i .i64 (k:Int)] (.l 1 (W (dg B (z.natAbs^k))))∧
    aT 99 [.l 1 (W (dg B e)),.i .i64 (k:Int)] (.l 1 (W (dg B (e^k))))∧
    aT 75 [.b (decide (z<0)&&decide (k%2=1)),.l 1 (W (dg B (z.natAbs^k)))] (zN (z^k))∧
    aT 82 [zN (z^k),.l 1 (W (dg B (e^k)))] (rN (rz (z^k) (e^k)) (aH (z^k) (e^k))):=fun z e k bz G U c1 c2 hk=>by
    have b1:=zpow_lt (n:=k) bz h1
    have b2:=npow_lt (n:=k) G h1
    refine⟨(Jl z.natAbs k m bz om h1 om).frozen,(Jl e k m G om h1 om).frozen,?_,?_⟩
    ·have:=VU (decide (z<0)&&decide (k%2=1)) (n:=z.natAbs^k) (m:=m*k+1) (by rw[←Int.natAbs_pow];exact b1) om;rwa[Ti]at this
    ·have:=oH (decide (z^k<0)) (dg B (z^k).natAbs) (dg B (e^k)) (m*k+1) om (af _) (af _) (aA b1) (aA b2) (by rw[ae];exact Nat.pos_iff_ne_zero.1 (bg (C_ U)));rwa[fD,ae]at this
   unfold pv pe;by_cases A:n<0
   ·rw[au A,au A];obtain⟨k,hk⟩:∃k:Nat,-n=(k:Int):=⟨(-n).toNat,om⟩;have M:IntKind.i64.wrap (0-n)=(k:Int):=by rw[wi om];omega
    rw[show(-n).toNat=k from om];rw[show n.natAbs=k from om]at*
    by_cases z0:z=0
    ·have s0:gp z=0:=by rw[z0];rfl
     rw[z0,Int.zero_pow om];show fC _ _ _ _ (.t [rv (mz ((e^k:Nat):Int) 0) 0,.i .i64 (re 0)]);rw[wH,kS];rw[s0]at O;clear tail;refine b_ aN a_ Tryz.func36 [.c 4 true 3,.t 5] ?_;exact lV (ai @A<|ai @E<|ai @C @xC)
    ·have s0:¬gp z=0:=by rw[KN];exact z0
     rw[mz_pow z e k z0,Int.natAbs_pow,rX _ (Nat.pos_iff_ne_zero.1 (bg om)),ja (Nat.pos_iff_ne_zero.1 (bg om))];have p1:=xq 1 1 dc dc dc dc;rw[show rz 1 ((1:Nat))=1 from rfl,show aH 1 ((1:Nat))=1 from rfl]at p1;have J:1<B^m:=by
      have:B^1≤B^m:=gX dc h1;rw[Nat.pow_one]at this;exact eu dc this
     have N:=Ci (decide ((1:Int)<0)) (decide (z<0)) (dg B (1:Int).natAbs) (dg B z.natAbs) (dg B 1) (dg B e) m om (af _) (af _) (af _) (af _) (aA J) (aA bz) (aA J) (aA G) (by rw[ae];decide) (by rw[ae];omega);rw[fD,ae,ae,Int.one_mul,iV,show zv (decide (z<0)) (dg B e)=zI (decide (z<0)) e from by unfold zv;rw[ae]]at N;have L:Nat.gcd (zI (decide (z<0)) e).natAbs z.natAbs=1:=by rw[EJ,kH];exact co
     rw[rzN_co L,YR L]at N;obtain⟨I,t2,y,H⟩:=tail (zI (decide (z<0)) e) z.natAbs k (by rw[EJ];exact G) bz om c1 c2 om;clear tail;have hodd:=hodd k om;have j:=j k;have f:=f k;generalize zI (decide (z<0)) e=x at*
     generalize gp z=g at*
     have P:∃b,b=decide (x<0):=⟨_,rfl⟩;obtain⟨b,hb⟩:=P;rw[rN_b,←hb]at N;rw[←hb]at y;generalize rz (x^k) (z.natAbs^k)=u at*
     generalize aH (x^k) (z.natAbs^k)=v at*
     cases b
     ·rw[gG]at y;refine b_ aN a_ Tryz.func36 [.c 4 true 3,.t 5] ?_;have zc1:=I;have zc2:=t2;have zc3:=y;have zc4:=H;repeat first|(refine hK _ ?_;clear hK K)|simp only[Sv,↓reduceIte,Nat.reduceEqDiff]|((first|refine ay (fun K hK=>?_)|refine ax (fun K hK=>?_)|refine ak (fun K hK=>?_)|refine fM ?_|refine dE (by assumption) ?_|refine fO ?_|(apply dF;assumption)|(apply dG;assumption));simp(disch:=(first|omega|assumption)) only[S1,seval,-Int.reduceToNat,-List.reduceReplicate,aK.sb,aK.mut,aU,↓aJ,aV,aC,xC,C,E,A,s0,M])
      simp(disch:=(first|omega|assumption)) only[rU,iy,fG,qp,qw,lJ,qA,qB,iC,lK,lL,fH,eF,dY,iF,iK,jv,fA,V.aP,bW,bY,S1,seval,-Int.reduceToNat,-List.reduceReplicate,aK.sb,aK.mut,aU,↓aJ,aV,aC,xC,C,E,A,s0,M]
     ·rw[jP]at y;refine b_ aN a_ Tryz.func36 [.c 4 true 3,.t 5] ?_;have zc5:=I;have zc6:=t2;have zc7:=y;have zc8:=H;repeat first|(refine hK _ ?_;clear hK K)|simp only[Sv,↓reduceIte,Nat.reduceEqDiff]|((first|refine ay (fun K hK=>?_)|refine ax (fun K hK=>?_)|refine ak (fun K hK=>?_)|refine fM ?_|refine dE (by assumption) ?_|refine fO ?_|(apply dF;assumption)|(apply dG;assumption));simp(disch:=(first|omega|assumption)) only[S1,seval,-Int.reduceToNat,-List.reduceReplicate,aK.sb,aK.mut,aU,↓aJ,aV,aC,xC,C,E,A,s0,M,hodd,j,f,F])
      simp(disch:=(first|omega|assumption)) only[rU,iy,fG,qp,qw,lJ,qA,qB,iC,lK,lL,fH,eF,dY,iF,iK,jv,fA,V.aP,bW,bY,S1,seval,-Int.reduceToNat,-List.reduceReplicate,aK.sb,aK.mut,aU,↓aJ,aV,aC,xC,C,E,A,s0,M,hodd,j,f,F]
   ·rw[ah A,ah A];obtain⟨k,rfl⟩:∃k:Nat,n=(k:Int):=⟨n.toNat,om⟩;rw[show((k:Int)).toNat=k from rfl];rw[show((k:Int)).natAbs=k from rfl]at*
    obtain⟨I,t2,y,H⟩:=tail z e k bz G U c1 c2 om;clear tail;have hodd:=hodd k om;have j:=j k;have f:=f k;have P:∃b,b=decide (z<0):=⟨_,rfl⟩;obtain⟨b,hb⟩:=P;rw[rN_b,←hb]at k2;rw[←hb]at y;generalize rz (z^k) (e^k)=u at*
    generalize aH (z^k) (e^k)=v at*
    clear O;cases b
    ·rw[gG]at y;refine b_ aN a_ Tryz.func36 [.c 4 true 3,.t 5] ?_;have zc9:=I;have zc10:=t2;have zc11:=y;have zc12:=H;exact lV (ai @A<|ai @E<|ai @C @xC)
    ·rw[jP]at y;refine b_ aN a_ Tryz.func36 [.c 4 true 3,.t 5] ?_;have zc13:=I;have zc14:=t2;have Z:=y;have Y:=H;exact lV (ai @F<|ai @f<|ai @j<|ai @hodd<|ai @A<|ai @E<|ai @C @xC)
def tH:=an @YF<|an @aQ<|an @fK<|an @aW<|an @aO<|an @aI<|an @fZ<|an @mJ<|an @dR<|an @iL<|an @wi<|an @lu<|an @gG @di
abbrev iP:Bool×List Nat×List Nat:=(false,[],[])
def kK(l:List (Bool×List Nat×List Nat)):Nat→Int×Nat
 |0=>(0,1)
 |i+1=>(rz ((kK l i).1*(nv B (l.getD i iP).2.2:Int)+zv (l.getD i iP).1 (l.getD i iP).2.1*((kK l i).2:Int)) ((kK l i).2*nv B (l.getD i iP).2.2),
   aH ((kK l i).1*(nv B (l.getD i iP).2.2:Int)+zv (l.getD i iP).1 (l.getD i iP).2.1*((kK l i).2:Int)) ((kK l i).2*nv B (l.getD i iP).2.2))
def LOk(l:List (Bool×List Nat×List Nat)):Prop:=∀p,p∈l→Wd p.2.1∧Wd p.2.2∧p.2.1.length≤12∧p.2.2.length≤12
theorem getD_mem{i:Nat}(h:i<l.length):l.getD i iP∈l:=by
 rw[dN,bC h];exact uP _
theorem ce_0(h:ce l=0){i:Nat}(a:i<l.length):nv B (l.getD i iP).2.2≠0:=fun c=>by
 unfold ce at h;rw[au (List.any_eq_true.2 ⟨_,getD_mem a,by simpa using c⟩)]at h;exact absurd h dc
theorem ce_01(l:List (Bool×List Nat×List Nat)):ce l=0∨ce l=1:=by unfold ce;split;exact .inr rfl;exact .inl rfl
theorem ce_1(h:ce l=1):∃i,i<l.length∧nv B (l.getD i iP).2.2=0∧∀u,u<i→nv B (l.getD u iP).2.2≠0:=by
 have j:∃i,i<l.length∧nv B (l.getD i iP).2.2=0:=by
  unfold ce at h;split at h
  ·rename_i C;obtain⟨p,z,m⟩:=List.any_eq_true.1 C;obtain⟨u,a,rfl⟩:=vU z;exact⟨u,a,by rw[dN,bC a];simpa using m⟩
  ·exact absurd h dc
 obtain⟨i,A,m⟩:=j;have key:∀n i,i≤n→i<l.length→nv B (l.getD i iP).2.2=0→∃i,i<l.length∧nv B (l.getD i iP).2.2=0∧∀u,u<i→nv B (l.getD u iP).2.2≠0:=by
  intro n;induction n with
  |zero=>intro i j g f;exact⟨i,g,f,fun u a=>om⟩
  |succ n y=>
   intro i j g f;rcases Classical.em (∃u,u<i∧nv B (l.getD u iP).2.2=0)with ⟨u,a,c⟩|c
   ·exact y u om om c
   ·exact⟨i,g,f,fun u a E=>c ⟨u,a,E⟩⟩
 exact key i i (aY _) A m
theorem KW{l:List (Bool×List Nat×List Nat)}(h:LOk l)(a:ce l=0):∀i,i≤l.length→(kK l i).1.natAbs<B^(13*i+1)∧(kK l i).2<B^(13*i+1)∧(kK l i).2≠0
 |0,_=>⟨(by decide:(0:Int).natAbs<B^(13*0+1)),(by decide:1<B^(13*0+1)),(by decide:(1:Nat)≠0)⟩
 |i+1,F=>by
  obtain⟨C,c,A⟩:=KW h a i om;have u:=getD_mem (l:=l) (i:=i) om;have y:=ce_0 a (i:=i) om;obtain⟨g,wd,m,j⟩:=h _ u;have f:=bP wd j;have E:=bF (s:=(l.getD i iP).1) g m;unfold kK;generalize l.getD i iP=p at*
  generalize (kK l i).1=z at*
  generalize (kK l i).2=d at*
  have c1:(z*(nv B p.2.2:Int)).natAbs<B^(13*i+13):=by
   rw[jy,show 13*i+13=(13*i+1)+12 from om,dn];exact Nat.mul_lt_mul'' C f
  have c2:(zv p.1 p.2.1*(d:Int)).natAbs<B^(13*i+13):=by
   rw[jy,show 13*i+13=12+(13*i+1)from om,dn];exact Nat.mul_lt_mul'' E c
  have c3:d*nv B p.2.2<B^(13*i+13):=by
   rw[show 13*i+13=(13*i+1)+12 from om,dn];exact Nat.mul_lt_mul'' c f
  rw[show 13*(i+1)+1=13*i+13+1 from om];refine⟨?_,?_,g_ (mM A y)⟩
  ·simp only[uH];exact cZ (fE _ _) (cZ (Int.natAbs_add_le _ _) (Bj c1 c2))
  ·exact cZ (fE _ _) (KE c3 om)
def sumV(l:List (Bool×List Nat×List Nat)):V:=if ce l=1 then .g [.b false,.l 1 [],.l 1 []]else rN (kK l l.length).1 (kK l l.length).2
theorem VB(l:List (Bool×List Nat×List Nat))(ll:l.length≤1000)(h:LOk l):aT 37 [.l 3 (RC l)] (.t [sumV l,.i .i64 (ce l)]):=by
 have hz:=qh l;have g:l.length*3/3=l.length:=om;have a:∀i,i<l.length→aT 87 [rL (l.getD i iP).1 (l.getD i iP).2.1 (l.getD i iP).2.2] (.b (!decide (nv B (l.getD i iP).2.2=0))):=fun i f=>by
  obtain⟨J,wd,U,T⟩:=h _ (getD_mem f);exact jW _ _ _ wd om
 unfold sumV;rcases ce_01 l with m|m
 ·have ok:=KW h m;have F:∀i,i<l.length→nv B (l.getD i iP).2.2≠0:=fun i f=>ce_0 m f
  rw[ah (by rw[m];decide),m];have z0:(kK l 0).1=0:=rfl;have Q:(kK l 0).2=1:=rfl;have step:∀i,i<l.length→aT 93 [rN (kK l i).1 (kK l i).2,rL (l.getD i iP).1 (l.getD i iP).2.1 (l.getD i iP).2.2] (rN (kK l (i+1)).1 (kK l (i+1)).2):=fun i f=>by
   obtain⟨k1,k2,Y⟩:=ok i om;obtain⟨J,wd,U,T⟩:=h _ (getD_mem f);have:=wL (decide ((kK l i).1<0)) (l.getD i iP).1 (dg B (kK l i).1.natAbs) (l.getD i iP).2.1 (dg B (kK l i).2) (l.getD i iP).2.2 (13*i+13) om (af _) J (af _) wd (aA (KE k1 om)) om (aA (KE k2 om)) om (by rw[ae];exact mM Y (F i f));rw[fD,ae]at this;exact this
  have p1:=xq 0 1 dc dc dc dc;rw[show rz 0 ((1:Nat))=0 from rfl,show aH 0 ((1:Nat))=1 from rfl]at p1;clear ok;generalize y:(fun i=>(kK l i).1)=zs at*
  generalize C:(fun i=>(kK l i).2)=ds at*
  have O:∀i,(kK l i).1=zs i:=fun i=>by rw[←y]
  have P:∀i,(kK l i).2=ds i:=fun i=>by rw[←C]
  simp only[O,P]at z0 Q step ⊢;clear O P y C;refine b_ aN a_ Tryz.func37 [.c 2 true 3,.t 3] ?_;repeat first
   |(refine hK _ ?_;clear hK K)
   |((first|refine ay (fun K hK=>?_)|refine ax (fun K hK=>?_)|refine ak (fun K hK=>?_));simp(disch:=(first|omega|assumption)) only[S1,seval,-Int.reduceToNat,-List.reduceReplicate,aK.sb,aK.mut,aU,↓aJ,aV,aC,tH,hz,g];refine hK _ ?_;clear hK K)
   |simp only[Sv,↓reduceIte,Nat.reduceEqDiff]
  refine aF [] Nat (fun i=>⟨[(0,.l 3 (RC l)),(2,.pt 0 0),(4,.i .i64 (i:Int))],[(0,some ⟨27,3,[.b false,.l 1 [],.l 1 []],true,true⟩)],1⟩)
   (fun i=>i≤l.length) (fun i=>l.length-i) 0 (aG _) (by exact oL) (by
   exact lC) ?_
  intro i f Q' I M L;by_cases E:(i:Int)<(l.length:Int)
  ·have row:=xA l i om;have z:=a i om;rw[aZ (F i om)]at z;clear step a F;generalize l.getD i iP=x at*
   repeat first|(refine hK _ ?_;clear hK K)|simp only[Sv,↓reduceIte,Nat.reduceEqDiff]|((first|refine ay (fun K hK=>?_)|refine ax (fun K hK=>?_)|refine ak (fun K hK=>?_)|refine fM ?_|refine dE (by assumption) ?_|refine fO ?_|(apply dF;assumption)|(apply dG;assumption));simp(disch:=(first|omega|assumption)) only[S1,seval,-Int.reduceToNat,-List.reduceReplicate,aK.sb,aK.mut,aU,↓aJ,aV,aC,tH,E,hz,g,row])
   refine I _ (i+1) om om ?_;exact lC
  ·obtain rfl:i=l.length:=om;repeat first
    |(refine hK _ ?_;clear hK K)
    |((first|refine ay (fun K hK=>?_)|refine ax (fun K hK=>?_)|refine ak (fun K hK=>?_));simp(disch:=(first|omega|assumption)) only[S1,seval,-Int.reduceToNat,-List.reduceReplicate,aK.sb,aK.mut,aU,↓aJ,aV,aC,tH,E,hz,g];refine hK _ ?_;clear hK K)
    |simp only[Sv,↓reduceIte,Nat.reduceEqDiff]
   refine M _ _ ?_;refine pJ @tH ?_;refine aF [] Nat (fun i=>⟨[(0,.l 3 (RC l)),(2,.pt 0 0),(5,.pt 1 0),(6,.i .i64 (i:Int))],
    [(0,some ⟨27,3,[.b false,.l 1 [],.l 1 []],true,true⟩),
     (1,some ⟨27,3,[.b (decide (zs i<0)),.l 1 (W (dg B (zs i).natAbs)),.l 1 (W (dg B (ds i)))],true,true⟩)],2⟩)
    (fun i=>i≤l.length) (fun i=>l.length-i) 0 (aG _) (by exact oL) (by
    rw[z0,Q]
    exact lC) ?_
   intro i f Q2 H G Z;by_cases N:(i:Int)<(l.length:Int)
   ·have row:=xA l i om;have z:=step i om;clear step a F;generalize l.getD i iP=x at*
    repeat first|(refine hK _ ?_;clear hK K)|simp only[Sv,↓reduceIte,Nat.reduceEqDiff]|((first|refine ay (fun K hK=>?_)|refine ax (fun K hK=>?_)|refine ak (fun K hK=>?_)|refine fM ?_|refine dE (by assumption) ?_|refine fO ?_|(apply dF;assumption)|(apply dG;assumption));simp(disch:=(first|omega|assumption)) only[S1,seval,-Int.reduceToNat,-List.reduceReplicate,aK.sb,aK.mut,aU,↓aJ,aV,aC,tH,N,hz,g,row])
    refine H _ (i+1) om om ?_;exact lC
   ·obtain rfl:i=l.length:=om;repeat first
     |(refine hK _ ?_;clear hK K)
     |((first|refine ay (fun K hK=>?_)|refine ax (fun K hK=>?_)|refine ak (fun K hK=>?_));simp(disch:=(first|omega|assumption)) only[S1,seval,-Int.reduceToNat,-List.reduceReplicate,aK.sb,aK.mut,aU,↓aJ,aV,aC,tH,N,hz,g];refine hK _ ?_;clear hK K)
     |simp only[Sv,↓reduceIte,Nat.reduceEqDiff]
    refine G _ _ ?_;refine aX @tH ?_;exact X0 @tH
 ·rw[au m,m];obtain⟨j,hj,A,u⟩:=ce_1 m;refine b_ aN a_ Tryz.func37 [.c 2 true 3,.t 3] ?_;repeat first
   |(refine hK _ ?_;clear hK K)
   |((first|refine ay (fun K hK=>?_)|refine ax (fun K hK=>?_)|refine ak (fun K hK=>?_));simp(disch:=(first|omega|assumption)) only[S1,seval,-Int.reduceToNat,-List.reduceReplicate,aK.sb,aK.mut,aU,↓aJ,aV,aC,tH,hz,g];refine hK _ ?_;clear hK K)
   |simp only[Sv,↓reduceIte,Nat.reduceEqDiff]
  refine aF [] Nat (fun i=>⟨[(0,.l 3 (RC l)),(2,.pt 0 0),(4,.i .i64 (i:Int))],[(0,some ⟨27,3,[.b false,.l 1 [],.l 1 []],true,true⟩)],1⟩)
   (fun i=>i≤j) (fun i=>l.length-i) 0 (aG _) (by exact oL) (by
   exact lC) ?_
  intro i f Q' I M L;have E:(i:Int)<(l.length:Int):=om;have row:=xA l i om;have z:=a i om;by_cases hij:i=j
  ·subst hij;rw[cO A]at z;clear a u A;generalize l.getD i iP=x at*
   repeat first|(refine hK _ ?_;clear hK K)|simp only[Sv,↓reduceIte,Nat.reduceEqDiff]|((first|refine ay (fun K hK=>?_)|refine ax (fun K hK=>?_)|refine ak (fun K hK=>?_)|refine fM ?_|refine dE (by assumption) ?_|refine fO ?_|(apply dF;assumption)|(apply dG;assumption));simp(disch:=(first|omega|assumption)) only[S1,seval,-Int.reduceToNat,-List.reduceReplicate,aK.sb,aK.mut,aU,↓aJ,aV,aC,tH,E,hz,g,row])
   refine L _ ?_;refine aX @tH ?_;exact X0 @tH
  ·rw[aZ (u i om)]at z;clear a u;generalize l.getD i iP=x at*
   repeat first|(refine hK _ ?_;clear hK K)|simp only[Sv,↓reduceIte,Nat.reduceEqDiff]|((first|refine ay (fun K hK=>?_)|refine ax (fun K hK=>?_)|refine ak (fun K hK=>?_)|refine fM ?_|refine dE (by assumption) ?_|refine fO ?_|(apply dF;assumption)|(apply dG;assumption));simp(disch:=(first|omega|assumption)) only[S1,seval,-Int.reduceToNat,-List.reduceReplicate,aK.sb,aK.mut,aU,↓aJ,aV,aC,tH,E,hz,g,row])
   refine I _ (i+1) om om ?_;exact lC
