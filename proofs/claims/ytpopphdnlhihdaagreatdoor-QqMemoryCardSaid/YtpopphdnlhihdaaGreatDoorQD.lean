import Derived.Test.YtpopphdnlhihdaaGreatDoorQC
set_option linter.all false
set_option maxRecDepth 2000000
set_option maxHeartbeats 10000000
namespace Go.Proofs.YtpopphdnlhihdaaGreatDoor
open Go Go.RowKit Ab
def KT:=an @aQ<|an @fK<|an @aW<|an @aO<|an @aI<|an @fZ<|an @mJ<|an @dR<|an @iL<|an @wi<|an @lu<|an @gG @di
abbrev rQ(a d:Nat):V:= .g [.b false,.l 1 (W (dg B a)),.l 1 (W (dg B d))]
theorem qi(a d:Nat):rN (a:Int) d=rQ a d:=by
 show V.g [.b (decide ((a:Int)<0)),.l 1 (W (dg B (a:Int).natAbs)),.l 1 (W (dg B d))]=_;rw[aZ om];rfl
theorem xB(a:Nat):zN (a:Int)= .g [.b false,.l 1 (W (dg B a))]:=by
 show V.g [.b (decide ((a:Int)<0)),.l 1 (W (dg B (a:Int).natAbs))]=_;rw[aZ om];rfl
variable{a e m f g:Nat}{z:Int}
theorem rG_1{d:Nat}(h:Nat.gcd a d=1):rG (a:Int) d=1:=h
theorem uq{d:Nat}(h:Nat.gcd a d=1):rz (a:Int) d=(a:Int):=by unfold rz;rw[rG_1 h];exact Int.tdiv_one _
theorem kT{d:Nat}(h:Nat.gcd a d=1):aH (a:Int) d=d:=by unfold aH;rw[rG_1 h];exact aW _
theorem YM{d:Nat}(h:Nat.gcd a d=1)(h0:d≠0):rv (a:Int) d=rQ a d:=by rw[rX _ h0,uq h,kT h,qi]
theorem Ic(a d:Nat)(h0:0<d): -((-(a:Int)*2^0).fdiv (d:Int))=(((a+d-1)/d:Nat):Int):=by
 rw[Int.pow_zero,Int.mul_one,yG _ (by omega:(0:Int)≤(d:Int))];have g:=qo (a+d-1) d;have f:=cu (a+d-1) h0;generalize (a+d-1)/d=q at*
 generalize (a+d-1)%d=r at*
 have c: -(a:Int)/(d:Int)= -(q:Int):=by
  have e: -(a:Int)=((d-1-r:Nat):Int)+(d:Int)*(-(q:Int)):=by
   have:((d*q:Nat):Int)=(d:Int)*(q:Int):=jC d q;rw[Int.mul_neg];omega
  rw[e,Int.add_mul_ediv_left _ _ om,Int.ediv_eq_zero_of_lt om om];omega
 rw[c];omega
theorem EO(a d:Nat):((a:Int)*2^0).fdiv (d:Int)=((a/d:Nat):Int):=by
 rw[Int.pow_zero,Int.mul_one,yG _ (by omega:(0:Int)≤(d:Int))];rfl
def uw:Nat→Nat→Nat→Nat→Nat→Nat×Nat
 |0,_,_,_,_=>(0,1)
 |k+1,a,d,b,e=>if(a+d-1)/d*e≤b then((a+d-1)/d,1)else((a/d)*(uw k e (b-a/d*e) d (a%d)).1+(uw k e (b-a/d*e) d (a%d)).2,(uw k e (b-a/d*e) d (a%d)).1)
structure Ends(a d b e:Nat):Prop where
 a0:0<a
 d0:0<d
 e0:0<e
 ca:Nat.gcd a d=1
 cb:Nat.gcd b e=1
 le:a*e≤b*d
theorem AZ{d b:Nat}(h:Ends a d b e)(m:¬(a+d-1)/d*e≤b):0<a%d∧a/d*e<b∧b-a/d*e<e∧a=d*(a/d)+a%d∧(a+d-1)/d=a/d+1∧Ends e (b-a/d*e) d (a%d):=by
 obtain⟨a0,f,e0,z,y,le⟩:=h;have c:=qo a d;have E:=cu a f;have j:0<a%d:=by
  rcases kz (a%d)with h|h
  ·exfalso;apply m;rw[h,ik]at c;have:(a+d-1)/d=a/d:=by
    conv=>lhs;rw[←c,Nat.add_sub_assoc f,Nat.mul_add_div f,jQ (by omega:d-1<d)]
    rfl
   rw[this];have g:d*(a/d*e)≤d*b:=by rw[←fB,c,bV d b];exact le
   exact Nat.le_of_mul_le_mul_left g f
  ·exact h
 have hq:(a+d-1)/d=a/d+1:=by
  conv=>lhs;rw[show a+d-1=d*(a/d+1)+(a%d-1)from by rw[Nat.mul_succ];omega,Nat.mul_add_div f,jQ (by omega:a%d-1<d),ik]
 rw[hq,Nat.succ_mul]at m;have l:a/d*e<b:=by
  rcases dW (a/d*e) b with h|h
  ·exact h
  ·exfalso;have g:b*d≤a/d*e*d:=kF _ h;have C:a/d*e*d=(d*(a/d))*e:=by rw[bV d,Nat.mul_right_comm]
   have u:a*e=(d*(a/d))*e+(a%d)*e:=by rw[←kQ,c]
   have A:=Nat.mul_pos j e0;omega
 refine⟨j,l,om,c.symm,hq,e0,om,j,?_,?_,?_⟩
 ·rw[kH];have g:Nat.gcd (b-a/d*e) e=Nat.gcd b e:=by
   have e1:b=(b-a/d*e)+e*(a/d):=by rw[bV e];omega
   conv=>rhs;rw[e1,Nat.gcd_add_mul_left_left]
  rw[g];exact y
 ·rw[kH,←Nat.gcd_rec,kH];exact z
 ·rw[Nat.mul_sub,bV d b,←fB];have u:a*e=(d*(a/d))*e+(a%d)*e:=by rw[←kQ,c]
  rw[bV e];omega
theorem tu:∀(k a d b e:Nat),Ends a d b e→d+e≤k→0<(uw k a d b e).1∧0<(uw k a d b e).2∧Nat.gcd (uw k a d b e).1 (uw k a d b e).2=1∧(uw k a d b e).1≤a∧(uw k a d b e).2≤d∧(uw k a d b e).1≤b∧(uw k a d b e).2≤e
 |0,a,d,b,e,h,y=>by have:=h.d0;omega
 |k+1,a,d,b,e,h,y=>by
  unfold uw;by_cases f:(a+d-1)/d*e≤b
  ·rw[au f];obtain⟨a0,c,e0,I,H,le⟩:=h;have c1:0<(a+d-1)/d:=Nat.div_pos om c;have c2:(a+d-1)/d≤a:=by
    refine Nat.lt_succ_iff.1 ((fP c).2 ?_);rw[Nat.succ_mul];have:a*1≤a*d:=iZ _ c;omega
   have c3:(a+d-1)/d*1≤(a+d-1)/d*e:=iZ _ e0;exact⟨c1,uf,sG _,c2,c,by simp only;omega,e0⟩
  ·rw[ah f];obtain⟨F,u,z,A,hq,m⟩:=AZ h f;have G:=cu a h.d0;obtain⟨p1,p2,l,j,E,g,C⟩:=tu k e (b-a/d*e) d (a%d) m om;generalize uw k e (b-a/d*e) d (a%d)=r at*
   refine⟨Nat.add_pos_right _ p2,p1,?_,?_,g,?_,j⟩
   ·show Nat.gcd (a/d*r.1+r.2) r.1=1;rw[kH,Nat.gcd_mul_right_add_right];exact l
   ·have:a/d*r.1≤a/d*d:=iZ _ g;rw[bV _ d]at this;show a/d*r.1+r.2≤a;omega
   ·have:a/d*r.1≤a/d*e:=iZ _ j;show a/d*r.1+r.2≤b;omega
theorem qceilN{d:Nat}(hm:m≤1100000)(c:16384≤m)(f:a<B^m)(hd:d<B^m)(h0:0<d):aT 60 [rQ a d,.i .i64 0] (.t [.g [.b false,.l 1 (W (dg B ((a+d-1)/d)))],.i .i64 0]):=by
 have h:=YL false (dg B a) (dg B d) 0 m dc om c (af _) (af _) (aA f) (aA hd) (by rw[ae];omega);rw[oC,ae,ae,Ic _ _ h0,xB]at h;exact h
theorem qfloorN{d:Nat}(hm:m≤1100000)(c:16384≤m)(f:a<B^m)(hd:d<B^m)(h0:0<d):aT 18 [rQ a d,.i .i64 0] (.t [.g [.b false,.l 1 (W (dg B (a/d)))],.i .i64 0]):=by
 have h:=EN false (dg B a) (dg B d) 0 m dc om c (af _) (af _) (aA f) (aA hd) (by rw[ae];omega);rw[oC,ae,ae,EO,xB]at h;exact h
theorem qsubN{d:Nat}(hm:m≤1100000)(l:a<B^m)(hd:d<B^m)(j:f<B^m)(h1:1<B^m)(h0:0<d)(e:a=d*f+g)(c:Nat.gcd g d=1):aT 53 [rQ a d,rQ f 1] (.t [rQ g d,.i .i64 0]):=by
 have h:=Vp false false (dg B a) (dg B f) (dg B d) (dg B 1) m om (af _) (af _) (af _) (af _) (aA l) (aA j) (aA hd) (aA h1);rw[oC,oC,ae,ae,ae,ae,aO,show(a:Int)*((1:Nat):Int)-(f:Int)*(d:Int)=(g:Int)from by rw[e,Int.mul_comm (f:Int)];rw[←jC];omega,YM c om,ja om]at h;exact h
theorem YN{d:Nat}(hm:m≤1100000)(hd:d<B^m)(a:g<B^m)(h1:1<B^m)(h0:0<d)(g0:0<g)(c:Nat.gcd d g=1):aT 55 [rQ 1 1,rQ g d] (.t [rQ d g,.i .i64 0]):=by
 have h:=Vq false false (dg B 1) (dg B g) (dg B 1) (dg B d) m om (af _) (af _) (af _) (af _) (aA h1) (aA a) (aA h1) (aA hd) (by rw[ae,ae];omega);rw[oC,oC,ae,ae,ae,show((1:Nat):Int)*(d:Int)=(d:Int)from om,show(g:Int)*((1:Nat):Int)=(g:Int)from om,Gn,show mz (d:Int) (g:Int)=(d:Int)from ah om,YM c om,ja om]at h;exact h
theorem qaddN{p q:Nat}(hm:m≤1100000)(g:f<B^m)(a:p<B^m)(hq:q<B^m)(h1:1<B^m)(j:0<p)(c:Nat.gcd (f*p+q) p=1):aT 22 [rQ f 1,rQ q p] (.t [rQ (f*p+q) p,.i .i64 0]):=by
 have h:=EM false false (dg B f) (dg B q) (dg B 1) (dg B p) m om (af _) (af _) (af _) (af _) (aA g) (aA hq) (aA h1) (aA a);rw[oC,oC,ae,ae,ae,ae,iV,show(f:Int)*(p:Int)+(q:Int)*((1:Nat):Int)=((f*p+q:Nat):Int)from by rw[Int.natCast_add,jC];omega,YM c om,ja om]at h;exact h
theorem qcmpN{d b:Nat}(hm:m≤1100000)(f:a<B^m)(hd:d<B^m)(hb:b<B^m)(he:e<B^m)(g:0<d)(e0:0<e):aT 61 [rQ a d,rQ b e] (.t [.i .i64 (cz ((a*e:Nat):Int) ((b*d:Nat):Int)),.i .i64 0]):=by
 have h:=vJ false false (dg B a) (dg B b) (dg B d) (dg B e) m om (af _) (af _) (af _) (af _) (aA f) (aA hb) (aA hd) (aA he);have c:=Nat.mul_pos g e0;rw[oC,oC,ae,ae,ae,ae,ah om,ja om,←jC,←jC]at h;exact h
theorem qredN(hm:m≤1100000)(c:a<B^m)(h1:1<B^m):aT 78 [.g [.b false,.l 1 (W (dg B a))],.l 1 (W (dg B 1))] (rQ a 1):=by
 have h:=yh false (dg B a) (dg B 1) m om (af _) (af _) (aA c) (aA h1) (by rw[ae];decide);rw[oC,ae,ae,uq (sG _),kT (sG _),qi]at h;exact h
theorem Tf(x y:Nat):(cz (x:Int) (y:Int)≤0)=(x≤y):=by
 unfold cz;refine propext ⟨fun h=>?_,fun h=>?_⟩
 ·by_cases h1:(x:Int)<(y:Int)
  ·omega
  ·by_cases a:(x:Int)=(y:Int)
   ·omega
   ·rw[ah h1,ah a]at h;exact absurd h dc
 ·by_cases h1:(x:Int)<(y:Int)
  ·rw[au h1];decide
  ·rw[ah h1,au om];exact Int.le_refl 0
theorem yT(h:16384≤m):1<B^m:=by
 have:B^1≤B^m:=gX dc om;rw[Nat.pow_one]at this;exact eu dc this
theorem EP:∀(k a d b e m:Nat),Ends a d b e→d+e≤k→m≤1100000→16384≤m→a<B^m→d<B^m→b<B^m→e<B^m→aT 81 [rQ a d,rQ b e] (rQ (uw k a d b e).1 (uw k a d b e).2)
 |0,a,d,b,e,m,h,P,u,y,G,F,hb,H=>by have:=h.d0;omega
 |k+1,a,d,b,e,m,h,P,u,y,G,F,hb,H=>by
  have ok:=tu (k+1) a d b e h P;have j:=yT y;have C:=h.d0;have e0:=h.e0;have c1:=qceilN u y G F C;have o1:=(wF 1 dc).frozen;have I:(a+d-1)/d<B^m:=by
   refine cZ (Nat.lt_succ_iff.1 ((fP C).2 ?_)) G;rw[Nat.succ_mul];have:a*1≤a*d:=iZ _ C;omega
  have c2:=qcmpN u I j hb H dc e0;rw[aO]at c2;unfold uw at ok ⊢;by_cases J:(a+d-1)/d*e≤b
  ·rw[au J];have hz:cz (((a+d-1)/d*e:Nat):Int) (b:Int)≤0:=by rw[Tf];exact J
   have r1:=qredN u I j;generalize cz (((a+d-1)/d*e:Nat):Int) (b:Int)=z at*
   generalize (a+d-1)/d=c at*
   clear ok;refine b_ aN a_ Tryz.func81 [.c 4 true 3] ?_;repeat first|(refine hK _ ?_;clear hK K)|simp only[Sv,↓reduceIte,Nat.reduceEqDiff]|((first|refine ay (fun K hK=>?_)|refine ax (fun K hK=>?_)|refine ak (fun K hK=>?_)|refine fM ?_|refine dE (by assumption) ?_|refine fO ?_|(apply dF;assumption)|(apply dG;assumption));simp(disch:=(first|omega|assumption)) only[S1,seval,-Int.reduceToNat,-List.reduceReplicate,aK.sb,aK.mut,aU,↓aJ,aV,aC,KT,hz])
   simp(disch:=(first|omega|assumption)) only[rU,iy,fG,qp,qw,lJ,qA,qB,iC,lK,lL,fH,eF,dY,iF,iK,jv,fA,V.aP,bW,bY,S1,seval,-Int.reduceToNat,-List.reduceReplicate,aK.sb,aK.mut,aU,↓aJ,aV,aC,KT,hz]
  ·rw[ah J]at ok ⊢;have hz:¬cz (((a+d-1)/d*e:Nat):Int) (b:Int)≤0:=by rw[Tf];exact J
   obtain⟨U,Z,hbe,O,hq,E⟩:=AZ h J;have Y:=cu a C;have A:a/d<B^m:=cZ (fE _ _) G;have f1:=qfloorN u y G F C;have N:Nat.gcd (a%d) d=1:=by rw[kH];exact E.cb
   have M:Nat.gcd (b-a/d*e) e=1:=by rw[kH];exact E.ca
   have s1:=qsubN u G F A j C O N;have s2:=qsubN (a:=b) (d:=e) (g:=b-a/d*e) u hb H A j e0 (by rw[bV e];omega) M;have Q:a%d<B^m:=om;have L:b-a/d*e<B^m:=om;have q1:=YN u F Q j C U E.cb;have q2:=YN u H L j e0 om E.ca;have ih:=EP k e (b-a/d*e) d (a%d) m E om u y H L F Q;obtain⟨p1,p2,T,p4,p5,p6,p7⟩:=tu k e (b-a/d*e) d (a%d) E om;have z1:=yl 1 dc dc;rw[show zN 1= .g [.b false,.l 1 (W (dg B 1))]from xB 1]at z1;generalize uw k e (b-a/d*e) d (a%d)=r at*
   have q3:=YN (g:=r.1) (d:=r.2) u om om j p2 p1 (by rw[kH];exact T);have a1:=qaddN (f:=a/d) (p:=r.1) (q:=r.2) u A om om j p1 ok.2.2.1;generalize cz (((a+d-1)/d*e:Nat):Int) (b:Int)=z at*
   clear ok;generalize (a+d-1)/d=c at*
   generalize a/d*r.1+r.2=t at*
   generalize r.1=t1 at*
   generalize r.2=t2 at*
   generalize b-a/d*e=b' at*
   generalize a/d=f at*
   generalize a%d=g at*
   refine b_ aN a_ Tryz.func81 [.c 4 true 3] ?_;repeat first|(refine hK _ ?_;clear hK K)|simp only[Sv,↓reduceIte,Nat.reduceEqDiff]|((first|refine ay (fun K hK=>?_)|refine ax (fun K hK=>?_)|refine ak (fun K hK=>?_)|refine fM ?_|refine dE (by assumption) ?_|refine fO ?_|(apply dF;assumption)|(apply dG;assumption));simp(disch:=(first|omega|assumption)) only[S1,seval,-Int.reduceToNat,-List.reduceReplicate,aK.sb,aK.mut,aU,↓aJ,aV,aC,KT,hz])
   simp(disch:=(first|omega|assumption)) only[rU,iy,fG,qp,qw,lJ,qA,qB,iC,lK,lL,fH,eF,dY,iF,iK,jv,fA,V.aP,bW,bY,S1,seval,-Int.reduceToNat,-List.reduceReplicate,aK.sb,aK.mut,aU,↓aJ,aV,aC,KT,hz]
def Ie:=an @aQ<|an @fK<|an @aW<|an @aO<|an @aI<|an @fZ<|an @mJ<|an @dR<|an @iL<|an @wi<|an @lu<|an @gG @di
theorem Ig(z:Int){d:Nat}(h:d≠0):Nat.gcd (rz z d).natAbs (aH z d)=1:=by
 rw[uH];have a:=oZ (z:=z) h;have e:=Nat.gcd_div (Nat.gcd_dvd_left z.natAbs d) (Nat.gcd_dvd_right z.natAbs d);rw[Nat.div_self (show 0<Nat.gcd z.natAbs d from a)]at e;exact e
theorem Vt{w:Int}{d:Nat}(hd:d≠0)(he:e≠0):(rz z d*(aH w e:Int)≤rz w e*(aH z d:Int))↔z*(e:Int)≤w*(d:Int):=by
 have m:=tK (z:=z) (d:=d);have l:=oI (z:=z) (d:=d);have j:=tK (z:=w) (d:=e);have c:=oI (z:=w) (d:=e);have p1:=oZ (z:=z) hd;have p2:=oZ (z:=w) he;generalize rz z d=x at*
 generalize aH z d=y at*
 generalize rz w e=u at*
 generalize aH w e=v at*
 generalize rG z d=g at*
 generalize rG w e=f at*
 subst m l j c;have e1:x*(g:Int)*((v*f:Nat):Int)=x*(v:Int)*((g*f:Nat):Int):=by
  rw[jC,jC,Int.mul_assoc,Int.mul_assoc,Int.mul_left_comm (g:Int)]
 have A:u*(f:Int)*((y*g:Nat):Int)=u*(y:Int)*((g*f:Nat):Int):=by
  rw[jC,jC,Int.mul_assoc,Int.mul_assoc,Int.mul_left_comm (f:Int),Int.mul_comm (f:Int)]
 rw[e1,A];have a:(0:Int)<((g*f:Nat):Int):=by have:=Nat.mul_pos p1 p2;omega
 exact⟨fun h=>Int.mul_le_mul_of_nonneg_right h om,fun h=>Int.le_of_mul_le_mul_right h a⟩
def FQ(z:Int)(d:Nat)(w:Int)(e:Nat):Int×Nat:=
 if z≤0∧0≤w then(0,1)
 else if w<0 then(-((uw (e+d) w.natAbs e z.natAbs d).1:Int),(uw (e+d) w.natAbs e z.natAbs d).2)
 else(((uw (d+e) z.natAbs d w.natAbs e).1:Int),(uw (d+e) z.natAbs d w.natAbs e).2)
theorem Ih(z:Int):(gp z≤0)=(z≤0):=by
 unfold gp;split
 ·exact propext ⟨fun _=>om,fun _=>dc⟩
 ·split
  ·exact propext ⟨fun h=>absurd h dc,fun h=>om⟩
  ·exact propext ⟨fun _=>om,fun _=>dc⟩
theorem Qv(z:Int):(0≤gp z)=(0≤z):=by
 unfold gp;split
 ·exact propext ⟨fun h=>absurd h dc,fun h=>om⟩
 ·split
  ·exact propext ⟨fun _=>om,fun _=>dc⟩
  ·exact propext ⟨fun _=>om,fun _=>dc⟩
theorem Ii(x y:Int):(0<cz x y)=(y<x):=by
 unfold cz;split
 ·exact propext ⟨fun h=>absurd h dc,fun h=>om⟩
 ·split
  ·exact propext ⟨fun h=>absurd h dc,fun h=>om⟩
  ·exact propext ⟨fun _=>om,fun _=>dc⟩
theorem zX{w:Int}{d:Nat}(hz:0<z)(a:0<w)(hd:d≠0)(he:e≠0)(c1:Nat.gcd z.natAbs d=1)(c2:Nat.gcd w.natAbs e=1)(h:z*(e:Int)≤w*(d:Int)):Ends z.natAbs d w.natAbs e:=by
 obtain⟨x,rfl⟩:∃x:Nat,z=(x:Int):=⟨z.toNat,om⟩;obtain⟨y,rfl⟩:∃y:Nat,w=(y:Int):=⟨w.toNat,om⟩;refine⟨om,om,om,c1,c2,?_⟩;rw[←jC,←jC]at h;exact Int.ofNat_le.1 h
theorem DR{w:Int}{d:Nat}(hz:z<0)(a:w<0)(hd:d≠0)(he:e≠0)(c1:Nat.gcd z.natAbs d=1)(c2:Nat.gcd w.natAbs e=1)(h:z*(e:Int)≤w*(d:Int)):Ends w.natAbs e z.natAbs d:=by
 have:=zX (z:= -w) (w:= -z) (d:=e) (e:=d) om om he hd (by rw[kX];exact c2) (by rw[kX];exact c1) (by rw[Int.neg_mul,Int.neg_mul];omega);rwa[kX,kX]at this
theorem rN_pos(h:0≤z)(d:Nat):rN z d=rQ z.natAbs d:=by
 rw[←qi,show((z.natAbs:Nat):Int)=z from om]
theorem Qw(s t:Bool)(a b d e:List Nat)(m:Nat)(hm:m≤1100000)(F:16384≤m)(O:Wd a)(hb:Wd b)(hd:Wd d)(he:Wd e)(M:a.length≤m)(L:b.length≤m)(ld:d.length≤m)(le:e.length≤m)(j:nv B d≠0)(f:nv B e≠0)(hle:zv s a*(nv B e:Int)≤zv t b*(nv B d:Int)):
 aT 20 [rL s a d,rL t b e] (.t [rN (FQ (rz (zv s a) (nv B d)) (aH (zv s a) (nv B d)) (rz (zv t b) (nv B e)) (aH (zv t b) (nv B e))).1 (FQ (rz (zv s a) (nv B d)) (aH (zv s a) (nv B d)) (rz (zv t b) (nv B e)) (aH (zv t b) (nv B e))).2,.i .i64 0]):=by
 have h1:=vJ s t a b d e m om O hb hd he M L ld le
 have G:nv B d*nv B e≠0:=mM j f
 rw[ah G,ja G]at h1
 have I:¬0<cz (zv s a*(nv B e:Int)) (zv t b*(nv B d:Int)):=by rw[Ii];omega
 have n1:=wI s a d m om O hd M ld
 have n2:=wI t b e m om hb he L le
 rw[rX _ j,ja j]at n1
 rw[rX _ f,ja f]at n2
 have bz:(rz (zv s a) (nv B d)).natAbs<B^m:=by rw[uH];exact cZ (fE _ _) (bF O M)
 have J:(rz (zv t b) (nv B e)).natAbs<B^m:=by rw[uH];exact cZ (fE _ _) (bF hb L)
 have bd:aH (zv s a) (nv B d)<B^m:=cZ (fE _ _) (bP hd ld)
 have be:aH (zv t b) (nv B e)<B^m:=cZ (fE _ _) (bP he le)
 have cd:=Ig (zv s a) j
 have ce:=Ig (zv t b) f
 have dp:=g_ (z:=zv s a) j
 have Z:=g_ (z:=zv t b) f
 have A:=(Vt j f).2 hle
 generalize cz (zv s a*(nv B e:Int)) (zv t b*(nv B d:Int))=c at*
 generalize rz (zv s a) (nv B d)=z at*
 generalize aH (zv s a) (nv B d)=x at*
 generalize rz (zv t b) (nv B e)=w at*
 generalize aH (zv t b) (nv B e)=y at*
 have P:=yT F
 have o1:=(wF 1 dc).frozen
 have s1:=Qx bz om
 have s2:=Qx J om
 have Y:=Ih z
 have U:=Qv w
 have g3:=zU w
 by_cases k1:z≤0
 ·by_cases k2:0≤w
  ·rw[show FQ z x w y=(0,1)from au ⟨k1,k2⟩];have z0:=yl 0 dc dc;rw[show zN 0= .g [.b false,.l 1 (W (dg B 0))]from xB 0]at z0;have r1:=qredN (a:=0) om om P;rw[show rN ((0,1):Int×Nat).1 ((0,1):Int×Nat).2=rQ 0 1 from qi 0 1];rw[←Y]at k1;rw[←U]at k2;generalize gp z=Q at*
   generalize gp w=T at*
   refine b_ aN a_ Tryz.func20 [.c 4 true 3,.t 5] ?_;repeat first|(refine hK _ ?_;clear hK K)|simp only[Sv,↓reduceIte,Nat.reduceEqDiff]|((first|refine ay (fun K hK=>?_)|refine ax (fun K hK=>?_)|refine ak (fun K hK=>?_)|refine fM ?_|refine dE (by assumption) ?_|refine fO ?_|(apply dF;assumption)|(apply dG;assumption));simp(disch:=(first|omega|assumption)) only[S1,seval,-Int.reduceToNat,-List.reduceReplicate,aK.sb,aK.mut,aU,↓aJ,aV,aC,Ie,I,k1,k2])
   simp(disch:=(first|omega|assumption)) only[rU,iy,fG,qp,qw,lJ,qA,qB,iC,lK,lL,fH,eF,dY,iF,iK,jv,fA,V.aP,bW,bY,S1,seval,-Int.reduceToNat,-List.reduceReplicate,aK.sb,aK.mut,aU,↓aJ,aV,aC,Ie,I,k1,k2]
  ·have kw:w<0:=om;have H:z<0:=by
    rcases(by omega:z<0∨0≤z)with h|h
    ·exact h
    ·exfalso;have h3:0≤z*(y:Int):=Int.mul_nonneg h om;have h4:w*(x:Int)<0:=Int.mul_neg_of_neg_of_pos kw om;omega
   have u:=DR H kw dp Z cd ce A;have bt:=EP (y+x) w.natAbs y z.natAbs x m u (aY _) hm F J be bz bd;obtain⟨p1,p2,p3,p4,_⟩:=tu (y+x) w.natAbs y z.natAbs x u (aY _);rw[show FQ z x w y=(-((uw (y+x) w.natAbs y z.natAbs x).1:Int),(uw (y+x) w.natAbs y z.natAbs x).2)from by unfold FQ;rw[ah om,au kw]];generalize uw (y+x) w.natAbs y z.natAbs x=r at*
   have zw:=qK (decide (w<0)) (dg B w.natAbs) (af _) (bK (aA J) om);rw[fD,show-w=((w.natAbs:Nat):Int)from om,xB]at zw;have zz:=qK (decide (z<0)) (dg B z.natAbs) (af _) (bK (aA bz) om);rw[fD,show-z=((z.natAbs:Nat):Int)from om,xB]at zz;have zr:=qK false (dg B r.1) (af _) (bK (aA (show r.1<B^m by omega)) om);rw[oC,ae]at zr;have E:gp z≤0:=by rw[Y];exact k1
   have N:¬0≤gp w:=by rw[U];exact k2
   have C:gp w<0:=by rw[g3];exact kw
   generalize gp z=Q at*
   generalize gp w=T at*
   generalize -((r.1:Nat):Int)=nr at*
   generalize r.1=r1 at*
   generalize r.2=r2 at*
   refine b_ aN a_ Tryz.func20 [.c 4 true 3,.t 5] ?_;exact lV (ai @C<|ai @N<|ai @E<|ai @I @Ie)
 ·have H:0<z:=om;have kw:0<w:=by
   rcases(by omega:0<w∨w≤0)with h|h
   ·exact h
   ·exfalso;have h3:0<z*(y:Int):=Int.mul_pos H om;have h4:w*(x:Int)≤0:=GN h om;omega
  have u:=zX H kw dp Z cd ce A;have bt:=EP (x+y) z.natAbs x w.natAbs y m u (aY _) hm F bz bd J be;obtain⟨p1,p2,p3,p4,_⟩:=tu (x+y) z.natAbs x w.natAbs y u (aY _);rw[show FQ z x w y=(((uw (x+y) z.natAbs x w.natAbs y).1:Int),(uw (x+y) z.natAbs x w.natAbs y).2)from by unfold FQ;rw[ah om,ah om]];generalize uw (x+y) z.natAbs x w.natAbs y=r at*
  rw[qi];rw[rN_pos om]at n1 n2;rw[←Aq z,show decide (z<0)=false from aZ om,show zI false z.natAbs=((z.natAbs:Nat):Int)from rfl,xB]at s1;rw[←Aq w,show decide (w<0)=false from aZ om,show zI false w.natAbs=((w.natAbs:Nat):Int)from rfl,xB]at s2;have E:¬gp ((z.natAbs:Nat):Int)≤0:=by rw[Ih];omega
  have C:¬gp ((w.natAbs:Nat):Int)<0:=by rw[zU];omega
  generalize gp ((z.natAbs:Nat):Int)=Q at*
  generalize gp ((w.natAbs:Nat):Int)=T at*
  generalize r.1=r1 at*
  generalize r.2=r2 at*
  refine b_ aN a_ Tryz.func20 [.c 4 true 3,.t 5] ?_;exact lV (ai @C<|ai @E<|ai @I @Ie)
theorem fx_simp:aT 20 [.g [.b false,.l 1 (W (dg B 2)),.l 1 (W (dg B 7))],.g [.b false,.l 1 (W (dg B 3)),.l 1 (W (dg B 8))]] (.t [.g [.b false,.l 1 (W (dg B 1)),.l 1 (W (dg B 3))],.i .i64 0]):=by
 have a:=yT (m:=16384) (aY _);have hl:∀n,n<18446744073709551616→(dg B n).length≤16384:=fun n h=>bK (aA (k:=1) (by rw[Nat.pow_one];exact h)) dc
 have h:=Qw false false (dg B 2) (dg B 3) (dg B 7) (dg B 8) 16384 dc (aY _) (af _) (af _) (af _) (af _) (hl _ dc) (hl _ dc) (hl _ dc) (hl _ dc) (by rw[ae];decide) (by rw[ae];decide) (by rw[oC,oC,ae,ae,ae,ae];decide);rw[oC,oC,ae,ae,ae,ae,show FQ (rz ((2:Nat):Int) 7) (aH ((2:Nat):Int) 7) (rz ((3:Nat):Int) 8) (aH ((3:Nat):Int) 8)=(1,3)from by decide+kernel]at h;rw[show rN ((1,3):Int×Nat).1 ((1,3):Int×Nat).2=rQ 1 3 from qi 1 3]at h;exact h
theorem YO:aT 18 [.g [.b true,.l 1 (W (dg B 7)),.l 1 (W [2])],.i .i64 0] (.t [.g [.b true,.l 1 (W (dg B 4))],.i .i64 0]):=by
 have h:=EN true (dg B 7) [2] 0 16384 dc dc (aY _) (af _) (af 2) (bK (aA (k:=1) dc) dc) dc dc;rw[show zv true (dg B 7)= -7 from by unfold zv;rw[ae];rfl,show nv B [2]=2 from rfl,show Int.fdiv ((-7:Int)*2^0) ((2:Nat):Int)= -4 from by decide+kernel]at h;exact h
def a4:AC:= .seq (.reg [qr 0 (.mv (.k (.b false)))]) (.seq (.reg [qr 12 (.call 16 [(1,(.k (.i .i64 (-6)))),(1,(.k (.i .i64 (-4))))]),qm 11 12,qr 13 (.ext (.t 11) 0),qr 14 (.ext (.t 11) 1),qr 1 (.al 27 [(.b false),(.l 1 []),(.l 1 [])]),qn (.st 3 (.t 1) (.t 13)),qm 2 14]) (.seq (.reg [qr 16 (.ld true 3 (.t 1)),qr 17 (.call 17 [(1,(.t 16))]),qm 15 17,qr 18 (.ext (.t 15) 0),qr 19 (.ext (.t 15) 1),qm 3 18,qm 4 19]) (.seq (.reg [qr 21 (.call 19 [(1,(.k (.i .i64 (-7))))]),qr 22 (.RN 49 1 1 [(.i .u64 0)] [(0,(.k (.i .u64 2)))]),qr 23 (.RJ [(.b false),(.l 1 []),(.l 1 [])] [(0,2,(.t 21)),(2,1,(.t 22))]),qr 24 (.call 18 [(1,(.t 23)),(1,(.k (.i .i64 0)))]),qm 20 24,qr 25 (.ext (.t 20) 0),qr 26 (.ext (.t 20) 1),qr 5 (.al 25 [(.b false),(.l 1 [])]),qn (.st 2 (.t 5) (.t 25)),qm 6 26]) (.seq (.reg [qr 28 (.call 21 [(1,(.k (.i .i64 2))),(1,(.k (.i .i64 7)))]),qr 29 (.call 21 [(1,(.k (.i .i64 3))),(1,(.k (.i .i64 8)))]),qr 30 (.call 20 [(1,(.t 28)),(1,(.t 29))]),qm 27 30,qr 31 (.ext (.t 27) 0),qr 32 (.ext (.t 27) 1),qr 7 (.al 27 [(.b false),(.l 1 []),(.l 1 [])]),qn (.st 3 (.t 7) (.t 31)),qm 8 32]) (.seq (.reg [qr 34 (.ld true 3 (.t 1)),qr 35 (.RJ [(.b false),(.l 1 []),(.l 1 [])] []),qr 36 (.call 22 [(1,(.t 34)),(1,(.t 35))]),qm 33 36,qr 37 (.ext (.t 33) 0),qr 38 (.ext (.t 33) 1),qr 9 (.al 27 [(.b false),(.l 1 []),(.l 1 [])]),qn (.st 3 (.t 9) (.t 37)),qm 10 38]) (.seq (.Us [qm 39 2,qr 40 (.bin .eql (.t 39) (.k (.i .i64 0))),qm 41 40,⟨some 42,some (41,true),.mv (.t 4)⟩,⟨some 43,some (41,true),.bin .eql (.t 42) (.k (.i .i64 0))⟩,qr 44 (.pick (.t 41) (.t 43) (.k (.b false))),qm 45 44,⟨some 46,some (45,true),.mv (.t 3)⟩,⟨some 47,some (45,true),.bin .eql (.t 46) (.k (.s [51,47,50]))⟩,qr 48 (.pick (.t 45) (.t 47) (.k (.b false))),qm 49 48,⟨some 50,some (49,true),.mv (.t 6)⟩,⟨some 51,some (49,true),.bin .eql (.t 50) (.k (.i .i64 0))⟩,qr 52 (.pick (.t 49) (.t 51) (.k (.b false))),qm 53 52,⟨some 54,some (53,true),.ld true 2 (.t 5)⟩,⟨some 55,some (53,true),.call 19 [(1,(.k (.i .i64 (-4))))]⟩,⟨some 56,some (53,true),.call 23 [(1,(.t 54)),(1,(.t 55))]⟩,qr 57 (.pick (.t 53) (.t 56) (.k (.b false))),qm 58 57,⟨some 59,some (58,true),.mv (.t 8)⟩,⟨some 60,some (58,true),.bin .eql (.t 59) (.k (.i .i64 0))⟩,qr 61 (.pick (.t 58) (.t 60) (.k (.b false))),qm 62 61,⟨some 63,some (62,true),.ld true 3 (.t 7)⟩,⟨some 64,some (62,true),.call 21 [(1,(.k (.i .i64 1))),(1,(.k (.i .i64 3)))]⟩,⟨some 65,some (62,true),.call 24 [(1,(.t 63)),(1,(.t 64))]⟩,qr 66 (.pick (.t 62) (.t 65) (.k (.b false))),qm 67 66,⟨some 68,some (67,true),.mv (.t 10)⟩,⟨some 69,some (67,true),.bin .eql (.t 68) (.k (.i .i64 1))⟩,qr 70 (.pick (.t 67) (.t 69) (.k (.b false))),qm 0 70]) (.ret)))))))
theorem NZ:aT 4 [] (.b true):=by
 have a:=J5 (-7) dc dc;rw[show zN (-7)= .g [.b true,.l 1 (W (dg B 7))]from rfl]at a;have c:=J5 (-4) dc dc;rw[show zN (-4)= .g [.b true,.l 1 (W (dg B 4))]from rfl]at c;have f:=YO;rw[show W [2]=[.i .u64 2]from rfl]at f;have L:(dg B 4).length≤1:=aA dc;have N:(dg B 1).length≤1:=aA dc;have M:(dg B 3).length≤1:=aA dc;have m:=zy true true (dg B 4) (dg B 4) om om;rw[show(true==true)=true from rfl,jP,cO rfl]at m;have J:=Ia false (dg B 1) (dg B 3) om om;have I:=fx_of;have H:=YK;have G:=fx_p27;have F:=fx_p38;have E:=fx_simp;have C:=fx_add;have A:=fx_p13;have j:([51,47,50]:List UInt8)=[51,47,50]:=rfl;generalize dg B 2=x2 at*
 generalize dg B 3=x3 at*
 generalize dg B 4=z at*
 generalize dg B 7=y at*
 generalize dg B 8=u at*
 generalize dg B 1=x1 at*
 refine Jq aN a_ Tryz.func4 a4 ?_;unfold a4;simp only[dw,eU,qm,qr,qn];exact jO (ai @U9 @Ie)
