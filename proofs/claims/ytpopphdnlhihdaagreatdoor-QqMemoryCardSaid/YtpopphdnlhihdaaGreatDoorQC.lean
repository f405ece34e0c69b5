import Derived.Test.YtpopphdnlhihdaaGreatDoorU18
import Derived.Test.YtpopphdnlhihdaaGreatDoorQB
set_option linter.all false
set_option maxRecDepth 2000000
set_option maxHeartbeats 10000000
namespace Go.Proofs.YtpopphdnlhihdaaGreatDoor
open Go Go.RowKit Ab
def NV:=an @wi<|an @aI<|an @aW<|an @aO<|an @aQ<|an @fZ<|an @di<|an @dR @dH
set_option maxRecDepth 4000 in
theorem Qs(v:Nat)(h0:0<v)(h1:v<10):aT 126 [.l 1 (W (dg B v)),.i .i64 10] (.s [(48+v).toUInt8]):=by
 have m:=JE (dg B v) 10 (af _) dc (bK (aA (k:=1) (by rw[Nat.pow_one];show v<18446744073709551616;omega)) dc);rw[ae,show dgE 10=0 from rfl,show dgD v 10=dg 10 v from rfl]at m;have e:dg 10 v=[v]:=by
  rcases(show v=1∨v=2∨v=3∨v=4∨v=5∨v=6∨v=7∨v=8∨v=9 by omega)with rfl|rfl|rfl|rfl|rfl|rfl|rfl|rfl|rfl<;>decide+kernel
 rw[e,show W [v]=[.i .u64 (v:Int)]from rfl]at m;have u:([.i .u64 (v:Int)]:List V).getD (Int.toNat 0) .un= .i .u64 (v:Int):=rfl;have j:bytesOf [.i .u8 ((48+v:Nat):Int)]=some [(48+v).toUInt8]:=by
  rcases(show v=1∨v=2∨v=3∨v=4∨v=5∨v=6∨v=7∨v=8∨v=9 by omega)with rfl|rfl|rfl|rfl|rfl|rfl|rfl|rfl|rfl<;>rfl
 have omap:∀x:List UInt8,(some x).map V.s=some (.s x):=fun _=>rfl
 have z:((48+v:Nat):Int)<256:=om;generalize (48+v).toUInt8=c at*
 refine Jq aN a_ Tryz.func126 Vo ?_;unfold Vo;simp only[dw,eU,qm,qr,qn];refine pJ (ai @bG @NV) ?_;have ht:BA.getD v .un= .i .u8 ((48+v:Nat):Int):=by
  rcases(show v=1∨v=2∨v=3∨v=4∨v=5∨v=6∨v=7∨v=8∨v=9 by omega)with rfl|rfl|rfl|rfl|rfl|rfl|rfl|rfl|rfl<;>rfl
 have g:BA.length=36:=rfl;have a:v<36:=om;refine aF [] Bool (fun f=>match f with
  |false=>⟨[(0,.l 1 (W (dg B v))),(5,.l 1 [.i .u64 (v:Int)]),(7,.ow 1 0 1),(25,.l 1 [.i .u64 (v:Int)]),(26,.i .i64 1),(27,.i .i64 0)],[(0,some ⟨5,1,[.i .u8 0],true,false⟩)],1⟩
  |true=>⟨[(0,.l 1 (W (dg B v))),(5,.l 1 [.i .u64 (v:Int)]),(7,.ow 1 0 1),(25,.l 1 [.i .u64 (v:Int)]),(26,.i .i64 1),(27,.i .i64 1)],[(0,some ⟨5,1,[.i .u8 ((48+v:Nat):Int)],true,false⟩)],1⟩)
  (fun _=>True) (fun f=>match f with|false=>1|true=>0) false trivial (by exact oL) (by
  exact lC) ?_
 rintro f-E A y C;cases f
 ·simp only[];refine aX (ai @eY<|ai @a<|ai @g<|ai @ht<|ai @u<|ai @bG @NV) ?_;refine A _ true trivial dc ?_;exact lC
 ·simp only[];refine aX (ai @bG @NV) ?_;refine y _ _ ?_;refine aX (ai @omap<|ai @j<|ai @bG @NV) ?_;exact rP (ai @bG @NV)
def KP:=an @aQ<|an @fK<|an @aW<|an @aO<|an @aI<|an @fZ<|an @mJ<|an @dR<|an @iL<|an @wi<|an @lu<|an @gG @di
theorem DN(v:Nat)(h0:0<v)(h1:v<10):aT 71 [.l 1 (W (dg B v))] (.s [(48+v).toUInt8]):=by
 have h:=Qs v h0 h1;generalize (48+v).toUInt8=c at*
 refine f_ aN a_ Tryz.func71 ?_;exact jO @KP
theorem KQ(v:Nat)(h0:0<v)(h1:v<10):aT 69 [zN (v:Int)] (.s [(48+v).toUInt8]):=by
 have h:=DN v h0 h1;have a:=wG (decide ((v:Int)<0)) (dg B (v:Int).natAbs) (af _) (bK (aA (k:=1) (by rw[Nat.pow_one];show v<18446744073709551616;omega)) dc);rw[fD]at a;rw[show zN (v:Int)= .g [.b false,.l 1 (W (dg B v))]from by show V.g [.b (decide ((v:Int)<0)),.l 1 (W (dg B v))]=_;rw[aZ om]]at a ⊢;rw[show decide ((v:Int)<0)=false from aZ om,Gn]at a;generalize (48+v).toUInt8=c at*
 refine Jq aN a_ Tryz.func69 a69 ?_;unfold a69;simp only[dw,eU,qm,qr,qn];exact jO @KP
def a17:AC:= .seq (.reg [qr 1 (.bx 27 (.t 0)),qr 2 (.mv (.k (.s []))),qr 3 (.mv (.k (.i .i64 0)))]) (.seq (.reg [qr 7 (.ld true 3 (.t 1)),qr 8 (.call 50 [(1,(.t 7))]),qm 6 8,qr 9 (.ext (.t 6) 0),qr 10 (.ext (.t 6) 1),qn (.st 3 (.t 1) (.t 9)),qm 4 10]) (.seq (.seq (.reg [qm 11 4,qr 12 (.bin .neq (.t 11) (.k (.i .i64 0)))]) (.cond (.t 12) (.seq (.reg [qm 13 4,qr 2 (.mv (.k (.s []))),qm 3 13]) (.ret)) (.skip))) (.seq (.reg [qr 14 (.FK 0 (.t 1)),qr 15 (.ld true 2 (.t 14)),qr 16 (.call 69 [(1,(.t 15))]),qm 5 16]) (.seq (.seq (.reg [qr 17 (.FK 2 (.t 1)),qr 18 (.ld false 1 (.t 17)),qr 19 (.call 70 [(1,(.t 18))]),qr 20 (.bin .gtr (.t 19) (.k (.i .i64 1)))]) (.cond (.t 20) (.reg [qm 21 5,qr 22 (.FK 2 (.t 1)),qr 23 (.ld false 1 (.t 22)),qr 24 (.call 71 [(1,(.t 23))]),qr 25 (.bin .add (.k (.s [47])) (.t 24)),qr 26 (.bin .add (.t 21) (.t 25)),qm 5 26]) (.skip))) (.seq (.reg [qm 27 5,qm 2 27,qr 3 (.mv (.k (.i .i64 0)))]) (.ret))))))
theorem YK:aT 17 [.g [.b false,.l 1 (W (dg B 3)),.l 1 (W (dg B 2))]] (.t [.s [51,47,50],.i .i64 0]):=by
 have a:aT 50 [.g [.b false,.l 1 (W (dg B 3)),.l 1 (W (dg B 2))]] (.t [.g [.b false,.l 1 (W (dg B 3)),.l 1 (W (dg B 2))],.i .i64 0]):=by
  have a:=wI (decide ((3:Int)<0)) (dg B (3:Int).natAbs) (dg B 2) 1 dc (af _) (af _) (aA dc) (aA dc);rw[fD,ae,rX _ dc,ja dc,show rz 3 2=3 from by decide+kernel,show aH 3 2=2 from by decide+kernel]at a;exact a
 have u:aT 69 [.g [.b false,.l 1 (W (dg B 3))]] (.s [51]):=KQ 3 dc dc;have j:=mX (dg B 2) (af _) (bK (aA (k:=1) dc) dc);rw[ae,show((bl 2:Nat):Int)=2 from by decide+kernel]at j;have m:aT 71 [.l 1 (W (dg B 2))] (.s [50]):=DN 2 dc dc;have e1:([47]:List UInt8).length+([50]:List UInt8).length≤9223372036854775807:=dc;have f:([51]:List UInt8).length+(([47]:List UInt8)++[50]).length≤9223372036854775807:=dc;have c:([51]:List UInt8)++([47]++[50])=[51,47,50]:=rfl;generalize dg B 2=z at*
 generalize dg B 3=y at*
 refine Jq aN a_ Tryz.func17 a17 ?_;unfold a17;simp only[dw,eU,qm,qr,qn];repeat first|(refine hK _ ?_;clear hK K)|simp only[Sv,↓reduceIte,Nat.reduceEqDiff]|((first|refine ay (fun K hK=>?_)|refine ax (fun K hK=>?_)|refine ak (fun K hK=>?_)|refine fM ?_|refine dE (by assumption) ?_|refine fO ?_|(apply dF;assumption)|(apply dG;assumption));simp(disch:=(first|omega|assumption)) only[S1,seval,-Int.reduceToNat,-List.reduceReplicate,aK.sb,aK.mut,aU,↓aJ,aV,aC,KP,e1,f,c])
 simp(disch:=(first|omega|assumption)) only[dY,iF,iK,jv,fA,V.aP,bW,bY,S1,seval,-Int.reduceToNat,-List.reduceReplicate,aK.sb,aK.mut,aU,↓aJ,aV,aC,KP,e1,f,c]
def KR:=an @aQ<|an @fK<|an @aW<|an @aO<|an @aI<|an @fZ<|an @mJ<|an @dR<|an @iL<|an @wi<|an @lu<|an @gG @di
theorem EM(s t:Bool)(a b d e:List Nat)(m:Nat)(hm:m≤49000000)(f:Wd a)(hb:Wd b)(hd:Wd d)(he:Wd e)(A:a.length≤m)(z:b.length≤m)(ld:d.length≤m)(le:e.length≤m):
 aT 22 [rL s a d,rL t b e] (.t [rv (zv s a*(nv B e:Int)+zv t b*(nv B d:Int)) (nv B d*nv B e),.i .i64 (re (nv B d*nv B e))]):=by
 have g:=pz s t a b d e hd he om om
 by_cases h:nv B d*nv B e=0
 ·rw[h,wH,kS];rw[h,kS]at g;refine b_ aN a_ Tryz.func22 [.c 4 true 3,.t 5] ?_;exact lV @KR
 ·rw[rX _ h,ja h];rw[ja h]at g;have L:=qM s a e f he om om;have J:=qM t b d hb hd om om;have l:(zv s a*(nv B e:Int)).natAbs<B^(m+m):=by rw[jy,dn];exact Nat.mul_lt_mul'' (bF f A) (bP he le)
  have j:(zv t b*(nv B d:Int)).natAbs<B^(m+m):=by rw[jy,dn];exact Nat.mul_lt_mul'' (bF hb z) (bP hd ld)
  have F:nv B d*nv B e<B^(m+m):=by rw[dn];exact Nat.mul_lt_mul'' (bP hd ld) (bP he le)
  have H:=NW d e hd he om om;generalize zv s a*(nv B e:Int)=x at*
  generalize zv t b*(nv B d:Int)=y at*
  generalize nv B d*nv B e=w at*
  have I:=zaddN l j om;have E:(x+y).natAbs<B^(m+m+1):=cZ (Int.natAbs_add_le _ _) (Bj l j);have C:=yh (decide (x+y<0)) (dg B (x+y).natAbs) (dg B w) (m+m+1) om (af _) (af _) (aA E) (aA (KE F om)) (by rw[ae];exact h);rw[fD,ae]at C;generalize rz (x+y) w=u at*
  generalize aH (x+y) w=v at*
  generalize x+y=G at*
  refine b_ aN a_ Tryz.func22 [.c 4 true 3,.t 5] ?_;exact lV @KR
theorem Vp(s t:Bool)(a b d e:List Nat)(m:Nat)(hm:m≤49000000)(j:Wd a)(hb:Wd b)(hd:Wd d)(he:Wd e)(g:a.length≤m)(f:b.length≤m)(ld:d.length≤m)(le:e.length≤m):
 aT 53 [rL s a d,rL t b e] (.t [rv (zv s a*(nv B e:Int)-zv t b*(nv B d:Int)) (nv B d*nv B e),.i .i64 (re (nv B d*nv B e))]):=by
 have C:=qK t b hb om
 have u:(-(zv t b)).natAbs<B^m:=by rw[kX];exact bF hb f
 have l:=EM s (decide (-(zv t b)<0)) a (dg B (-(zv t b)).natAbs) d e m hm j (af _) hd he g (aA u) ld le
 have z:(zv s a*(nv B e:Int)-zv t b*(nv B d:Int)).natAbs<B^(m+m+1):=by
  refine cZ (Int.natAbs_sub_le _ _) (Bj ?_ ?_)
  ·rw[jy,dn];exact Nat.mul_lt_mul'' (bF j g) (bP he le)
  ·rw[jy,dn];exact Nat.mul_lt_mul'' (bF hb f) (bP hd ld)
 have y:nv B d*nv B e<B^(m+m+1):=KE (by rw[dn];exact Nat.mul_lt_mul'' (bP hd ld) (bP he le):nv B d*nv B e<B^(m+m)) om
 rw[fD,Int.neg_mul,←Int.sub_eq_add_neg]at l
 obtain⟨A,G,F,ev,_⟩:=YE z y
 rw[ev]at l ⊢
 generalize -(zv t b)=nb at*
 generalize re (nv B d*nv B e)=E at*
 refine b_ aN a_ Tryz.func53 [.c 4 true 3,.t 5] ?_
 exact lV @KR
theorem Vq(s t:Bool)(a b d e:List Nat)(m:Nat)(hm:m≤49000000)(g:Wd a)(hb:Wd b)(hd:Wd d)(he:Wd e)(z:a.length≤m)(u:b.length≤m)(ld:d.length≤m)(le:e.length≤m)(h:nv B d*nv B e≠0):
 aT 55 [rL s a d,rL t b e] (.t [rv (mz (zv s a*(nv B e:Int)) (zv t b*(nv B d:Int))) (zv t b*(nv B d:Int)).natAbs,.i .i64 (re (zv t b*(nv B d:Int)).natAbs)]):=by
 have A:=pz s t a b d e hd he om om
 rw[ja h]at A
 have F:=qM s a e g he om om
 have E:=qM t b d hb hd om om
 have f:(zv s a*(nv B e:Int)).natAbs<B^(m+m):=by rw[jy,dn];exact Nat.mul_lt_mul'' (bF g z) (bP he le)
 have l:(zv t b*(nv B d:Int)).natAbs<B^(m+m):=by rw[jy,dn];exact Nat.mul_lt_mul'' (bF hb u) (bP hd ld)
 generalize zv s a*(nv B e:Int)=x at*
 generalize zv t b*(nv B d:Int)=y at*
 have j:=H_ (decide (x<0)) (decide (y<0)) (dg B x.natAbs) (dg B y.natAbs) (m+m) om (af _) (af _) (aA f) (aA l)
 rw[fD,fD,ae]at j
 obtain⟨C,I,H,ev,_⟩:RV (rv (mz x y) y.natAbs) (m+m):=YE (by unfold mz;split;(rw[kX];exact f);exact f) l
 rw[ev]at j ⊢
 generalize re y.natAbs=G at*
 refine b_ aN a_ Tryz.func55 [.c 4 true 3,.t 5] ?_
 exact lV @KR
def Qu:=an @aQ<|an @fK<|an @aW<|an @aO<|an @aI<|an @fZ<|an @mJ<|an @dR<|an @iL<|an @wi<|an @lu<|an @gG @di
theorem EN(s:Bool)(a d:List Nat)(k m:Nat)(u:k≤1048576)(hm:m≤10000000)(l:16384≤m)(g:Wd a)(hd:Wd d)(j:a.length≤m)(ld:d.length≤m)(h0:nv B d≠0):aT 18 [rL s a d,.i .i64 (k:Int)] (.t [zN ((zv s a*2^k).fdiv (nv B d:Int)),.i .i64 0]):=by
 have E:=mD s a d hd om;rw[ah h0]at E;have C:=EK false d hd om;rw[oC]at C;have A:=Vr s a (k:Int) g om;rw[show zlV (zv s a) (k:Int)=zv s a*2^k from ah om,show zlE (k:Int)=0 from ah om]at A;have hb:(zv s a*2^k).natAbs<B^(m+16384):=by
  rw[jy,Int.natAbs_pow];exact yS (bF g j) u
 generalize zv s a*2^k=z at*
 have y:=NY (decide (z<0)) (decide ((nv B d:Int)<0)) (dg B z.natAbs) (dg B ((nv B d:Int)).natAbs) (af _) (af _) (bK (aA hb) om) (bK (aA (bP hd ld)) om);rw[fD,fD,show ze (nv B d:Int)=0 from ah om]at y;have k1:¬(k:Int)< -1048576:=om;have k2:¬(1048576:Int)<(k:Int):=om;have f:¬(k:Int)<0:=om;generalize z.fdiv (nv B d:Int)=q at*
 generalize (nv B d:Int)=F at*
 refine b_ aN a_ Tryz.func18 [.c 4 true 2,.t 5] ?_;repeat first|(refine hK _ ?_;clear hK K)|simp only[Sv,↓reduceIte,Nat.reduceEqDiff]|((first|refine ay (fun K hK=>?_)|refine ax (fun K hK=>?_)|refine ak (fun K hK=>?_)|refine fM ?_|refine dE (by assumption) ?_|refine fO ?_|(apply dF;assumption)|(apply dG;assumption));simp(disch:=(first|omega|assumption)) only[S1,seval,-Int.reduceToNat,-List.reduceReplicate,aK.sb,aK.mut,aU,↓aJ,aV,aC,Qu,k1,k2,f])
 simp(disch:=(first|omega|assumption)) only[rU,iy,fG,qp,qw,lJ,qA,qB,iC,lK,lL,fH,eF,dY,iF,iK,jv,fA,V.aP,bW,bY,S1,seval,-Int.reduceToNat,-List.reduceReplicate,aK.sb,aK.mut,aU,↓aJ,aV,aC,Qu,k1,k2,f]
theorem YL(s:Bool)(a d:List Nat)(k m:Nat)(j:k≤1048576)(hm:m≤10000000)(f:16384≤m)(l:Wd a)(hd:Wd d)(y:a.length≤m)(ld:d.length≤m)(h0:nv B d≠0):aT 60 [rL s a d,.i .i64 (k:Int)] (.t [zN (-((-(zv s a)*2^k).fdiv (nv B d:Int))),.i .i64 0]):=by
 have E:=qK s a l om;have u:(-(zv s a)).natAbs<B^m:=by rw[kX];exact bF l y
 have C:=EN (decide (-(zv s a)<0)) (dg B (-(zv s a)).natAbs) d k m j hm f (af _) hd (aA u) ld h0;rw[fD]at C;have hq:((-(zv s a)*2^k).fdiv (nv B d:Int)).natAbs<B^(m+16384+1):=by
  have hb:(-(zv s a)*2^k).natAbs<B^(m+16384):=by
   rw[jy,Int.natAbs_pow];exact yS u j
  generalize -(zv s a)*2^k=z at*
  have g:(0:Int)<(nv B d:Int):=om;have e1:=yG z (Int.le_of_lt g);rw[e1];exact cZ (Int.natAbs_ediv_le_natAbs z _) (KE hb om)
 generalize (-(zv s a)*2^k).fdiv (nv B d:Int)=q at*
 have A:=qK (decide (q<0)) (dg B q.natAbs) (af _) (bK (aA hq) om);rw[fD]at A;generalize -(zv s a)=nb at*
 refine b_ aN a_ Tryz.func60 [.c 4 true 2,.t 5] ?_;exact lV @Qu
theorem fx_of:aT 16 [.i .i64 (-6),.i .i64 (-4)] (.t [.g [.b false,.l 1 (W (dg B 3)),.l 1 (W (dg B 2))],.i .i64 0]):=by
 have h:=YH (-6) (-4) dc dc dc dc;rw[rX _ dc,ja dc,show mz (-6) (-4)=6 from rfl,show rz 6 (-4:Int).natAbs=3 from by decide+kernel,show aH 6 (-4:Int).natAbs=2 from by decide+kernel]at h;exact h
theorem fx_add:aT 22 [.g [.b false,.l 1 (W (dg B 3)),.l 1 (W (dg B 2))],.g [.b false,.l 1 [],.l 1 []]] (.t [.g [.b false,.l 1 [],.l 1 []],.i .i64 1]):=by
 have h:=EM false false (dg B 3) [] (dg B 2) [] 1 dc (af _) BZ (af _) BZ (aA dc) dc (aA dc) dc;rw[show nv B []=0 from rfl,kG,wH,kS]at h;exact h
theorem fx_p27:aT 21 [.i .i64 2,.i .i64 7] (.g [.b false,.l 1 (W (dg B 2)),.l 1 (W (dg B 7))]):=by
 have h:=xq 2 7 dc dc dc dc;rw[show rz 2 7=2 from by decide+kernel,show aH 2 7=7 from by decide+kernel]at h;exact h
theorem fx_p38:aT 21 [.i .i64 3,.i .i64 8] (.g [.b false,.l 1 (W (dg B 3)),.l 1 (W (dg B 8))]):=by
 have h:=xq 3 8 dc dc dc dc;rw[show rz 3 8=3 from by decide+kernel,show aH 3 8=8 from by decide+kernel]at h;exact h
theorem fx_p13:aT 21 [.i .i64 1,.i .i64 3] (.g [.b false,.l 1 (W (dg B 1)),.l 1 (W (dg B 3))]):=by
 have h:=xq 1 3 dc dc dc dc;rw[show rz 1 3=1 from by decide+kernel,show aH 1 3=3 from by decide+kernel]at h;exact h
