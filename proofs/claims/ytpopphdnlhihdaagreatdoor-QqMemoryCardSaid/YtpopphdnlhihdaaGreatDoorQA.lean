import Derived.Test.YtpopphdnlhihdaaGreatDoorFB
import Derived.Test.YtpopphdnlhihdaaGreatDoorU13
set_option linter.all false
set_option maxRecDepth 2000000
set_option maxHeartbeats 10000000
namespace Go.Proofs.YtpopphdnlhihdaaGreatDoor
open Go Go.RowKit Ab
def H9:=an @aQ<|an @fK<|an @aW<|an @aO<|an @aI<|an @fZ<|an @mJ<|an @dR<|an @iL<|an @wi<|an @lu<|an @gG @di
abbrev rL(s:Bool)(a d:List Nat):V:= .g [.b s,.l 1 (W a),.l 1 (W d)]
abbrev rN(z:Int)(e:Nat):V:= .g [.b (decide (z<0)),.l 1 (W (dg B z.natAbs)),.l 1 (W (dg B e))]
def rG(z:Int)(d:Nat):Nat:=Nat.gcd z.natAbs d
def rz(z:Int)(d:Nat):Int:=z.tdiv (rG z d:Int)
def aH(z:Int)(d:Nat):Nat:=d/rG z d
variable{z:Int}{m k:Nat}
theorem oZ{d:Nat}(h:d≠0):0<rG z d:=Nat.gcd_pos_of_pos_right _ om
theorem rz_I(z:Int)(d:Nat):zI (decide (z<0)) (z.natAbs/rG z d)=rz z d:=by
 have h:=Gm (decide (z<0)) false z.natAbs (rG z d);rw[show(!(decide (z<0)==false))=decide (z<0)from by cases decide (z<0)<;>rfl,Aq]at h;rw[h];rfl
theorem uH(z:Int)(d:Nat):(rz z d).natAbs=z.natAbs/rG z d:=by rw[←rz_I,EJ]
theorem S_{u g:Nat}(h:g∣u)(h0:0<g):exQ u g=dg B (u/g)∧exE u g=0:=by
 have a:u%g=0:=Nat.mod_eq_zero_of_dvd h;have c:g≠0:=om;constructor
 ·unfold exQ;simp[a,c]
 ·unfold exE;simp[a,c]
theorem yh(s:Bool)(a d:List Nat)(m:Nat)(hm:m≤100000000)(A:Wd a)(hd:Wd d)(F:a.length≤m)(ld:d.length≤m)(h0:nv B d≠0):aT 78 [zL s a,.l 1 (W d)] (rN (rz (zv s a) (nv B d)) (aH (zv s a) (nv B d))):=by
 have L:=wG s a A om;have l1:=bF (s:=s) A F;have G:=bP hd ld;generalize zv s a=z at*
 have J:=YD (dg B z.natAbs) d m om (af _) hd (aA l1) ld;rw[ae,show Nat.gcd z.natAbs (nv B d)=rG z (nv B d)from rfl]at J;have f:=oZ (z:=z) h0;have E:rG z (nv B d)∣z.natAbs:=Nat.gcd_dvd_left _ _;have j:rG z (nv B d)∣nv B d:=Nat.gcd_dvd_right _ _;have u:rG z (nv B d)<B^m:=cZ (Nat.le_of_dvd om j) G;have I:=H6 (dg B z.natAbs) (dg B (rG z (nv B d))) (af _) (af _) (bK (aA l1) om) (bK (aA u) om);rw[ae,ae,(S_ E f).1,(S_ E f).2]at I;have C:=H6 d (dg B (rG z (nv B d))) hd (af _) om (bK (aA u) om);rw[ae,(S_ j f).1,(S_ j f).2]at C;have H:=EK (decide (z<0)) (dg B (z.natAbs/rG z (nv B d))) (af _) (bK (aA (cZ (fE _ _) l1)) om);rw[zv,ae,rz_I]at H;rw[show nv B d/rG z (nv B d)=aH z (nv B d)from rfl]at C;generalize rz z (nv B d)=x at*
 generalize aH z (nv B d)=y at*
 generalize z.natAbs/rG z (nv B d)=t at*
 generalize rG z (nv B d)=g at*
 refine b_ aN a_ Tryz.func78 [.c 4 true 3] ?_;exact lV @H9
theorem oH(s:Bool)(a d:List Nat)(m:Nat)(hm:m≤100000000)(j:Wd a)(hd:Wd d)(A:a.length≤m)(ld:d.length≤m)(h0:nv B d≠0):aT 82 [zL s a,.l 1 (W d)] (rN (rz (zv s a) (nv B d)) (aH (zv s a) (nv B d))):=by
 have L:=uY s a j om;have l1:=bF (s:=s) j A;have C:=bP hd ld;generalize zv s a=z at*
 have H:=Ue (dg B z.natAbs) d (af _) hd (bK (aA l1) om) om;rw[ae,show Nat.gcd z.natAbs (nv B d)=rG z (nv B d)from rfl]at H;have E:=oZ (z:=z) h0;have I:rG z (nv B d)∣nv B d:=Nat.gcd_dvd_right _ _;have f:rG z (nv B d)<B^m:=cZ (Nat.le_of_dvd om I) C;have G:=xM (dg B z.natAbs) (dg B (rG z (nv B d))) (af _) (af _) (bK (aA l1) om) (bK (aA f) om) (by rw[ae];omega);rw[ae,ae]at G;have u:=xM d (dg B (rG z (nv B d))) hd (af _) om (bK (aA f) om) (by rw[ae];omega);rw[ae]at u;have F:=uY (decide (z<0)) (dg B (z.natAbs/rG z (nv B d))) (af _) (bK (aA (cZ (fE _ _) l1)) om);rw[zv,ae,rz_I]at F;rw[show nv B d/rG z (nv B d)=aH z (nv B d)from rfl]at u;generalize rz z (nv B d)=x at*
 generalize aH z (nv B d)=y at*
 generalize z.natAbs/rG z (nv B d)=t at*
 generalize z.natAbs%rG z (nv B d)=J at*
 generalize nv B d%rG z (nv B d)=t2 at*
 generalize rG z (nv B d)=g at*
 refine b_ aN a_ Tryz.func82 [.c 4 true 3] ?_;exact lV @H9
theorem mD(s:Bool)(a d:List Nat)(hd:Wd d)(ld:d.length≤1000000000):aT 65 [rL s a d] (.i .i64 (if nv B d=0 then 1 else 0)):=by
 have h:=mX d hd om;have hb:=bl_z (n:=nv B d);by_cases h0:nv B d=0
 ·rw[au h0];have f:((bl (nv B d):Nat):Int)=0:=by rw[hb];exact h0
  rw[f]at h;refine f_ aN a_ Tryz.func65 ?_;exact jO @H9
 ·rw[ah h0];have f:¬((bl (nv B d):Nat):Int)=0:=by rw[hb];exact h0
  generalize ((bl (nv B d):Nat):Int)=c at*
  refine f_ aN a_ Tryz.func65 ?_;exact jO (ai @f @H9)
theorem jW(s:Bool)(a d:List Nat)(hd:Wd d)(ld:d.length≤1000000000):aT 87 [rL s a d] (.b (!decide (nv B d=0))):=by
 have h:=n_ d hd om;refine f_ aN a_ Tryz.func87 ?_;exact jO @H9
theorem NQ(s:Bool)(a d:List Nat)(hd:Wd d)(ld:d.length≤1000000000):aT 49 [rL s a d] (.i .i64 (if nv B d=0 then 1 else 0)):=by
 have h:=jW s a d hd ld;by_cases h0:nv B d=0
 ·rw[au h0];rw[cO h0]at h;refine f_ aN a_ Tryz.func49 ?_;exact jO @H9
 ·rw[ah h0];rw[aZ h0]at h;refine f_ aN a_ Tryz.func49 ?_;exact jO @H9
def DL:=an @aQ<|an @fK<|an @aW<|an @aO<|an @aI<|an @fZ<|an @mJ<|an @dR<|an @iL<|an @wi<|an @lu<|an @gG @di
def rv(z:Int)(d:Nat):V:=if d=0 then .g [.b false,.l 1 [],.l 1 []]else rN (rz z d) (aH z d)
def re(d:Nat):Int:=if d=0 then 1 else 0
theorem kS:re 0=1:=rfl
theorem ja{d:Nat}(h:d≠0):re d=0:=ah h
theorem wH(z:Int):rv z 0= .g [.b false,.l 1 [],.l 1 []]:=rfl
theorem rX(z:Int){d:Nat}(h:d≠0):rv z d=rN (rz z d) (aH z d):=ah h
def RV(v:V)(m:Nat):Prop:=∃(s:Bool) (a d:List Nat),v=rL s a d∧Wd a∧Wd d∧a.length≤m∧d.length≤m
theorem YE{d:Nat}(hz:z.natAbs<B^m)(hd:d<B^m):RV (rv z d) m:=by
 by_cases h:d=0
 ·subst h;exact⟨false,[],[],rfl,BZ,BZ,aG _,aG _⟩
 ·rw[rX z h];exact⟨_,_,_,rfl,af _,af _,aA (by rw[uH];exact cZ (fE _ _) hz),aA (cZ (fE _ _) hd)⟩
theorem wI(s:Bool)(a d:List Nat)(m:Nat)(hm:m≤100000000)(j:Wd a)(hd:Wd d)(g:a.length≤m)(ld:d.length≤m):aT 50 [rL s a d] (.t [rv (zv s a) (nv B d),.i .i64 (re (nv B d))]):=by
 have f:=mD s a d hd om;by_cases h:nv B d=0
 ·rw[h,wH,kS];rw[au h]at f;refine b_ aN a_ Tryz.func50 [.c 2 true 3,.t 3] ?_;exact lV @DL
 ·have l:=yh s a d m hm j hd g ld h;rw[rX _ h,ja h];rw[ah h]at f;generalize rz (zv s a) (nv B d)=x at*
  generalize aH (zv s a) (nv B d)=y at*
  refine b_ aN a_ Tryz.func50 [.c 2 true 3,.t 3] ?_;exact lV @DL
theorem Ql(s:Bool)(a d:List Nat)(m:Nat)(hm:m≤100000000)(j:Wd a)(hd:Wd d)(g:a.length≤m)(ld:d.length≤m):aT 28 [rL s a d] (.t [rv (zv s a) (nv B d),.i .i64 (re (nv B d))]):=by
 have f:=jW s a d hd om;by_cases h:nv B d=0
 ·rw[h,wH,kS];rw[cO h]at f;refine b_ aN a_ Tryz.func28 [.c 2 true 3,.t 3] ?_;exact lV @DL
 ·have l:=oH s a d m hm j hd g ld h;rw[rX _ h,ja h];rw[aZ h]at f;generalize rz (zv s a) (nv B d)=x at*
  generalize aH (zv s a) (nv B d)=y at*
  refine b_ aN a_ Tryz.func28 [.c 2 true 3,.t 3] ?_;exact lV @DL
def mz(x y:Int):Int:=if y<0 then-x else x
theorem KN(z:Int):(gp z=0)=(z=0):=by unfold gp;split;(exact propext ⟨fun h=>absurd h dc,fun h=>om⟩);split;(exact propext ⟨fun h=>absurd h dc,fun h=>om⟩);exact propext ⟨fun _=>om,fun _=>rfl⟩
theorem zU(z:Int):(gp z<0)=(z<0):=by
 unfold gp;split
 ·rename_i h;exact propext ⟨fun _=>h,fun _=>dc⟩
 ·rename_i h;split<;>exact propext ⟨fun a=>absurd a dc,fun a=>absurd a h⟩
theorem H_(s t:Bool)(a b:List Nat)(m:Nat)(hm:m≤100000000)(j:Wd a)(hb:Wd b)(z:a.length≤m)(u:b.length≤m):aT 51 [zL s a,zL t b] (.t [rv (mz (zv s a) (zv t b)) (nv B b),.i .i64 (re (nv B b))]):=by
 have C:=jX t b hb om;have hz:=KN (zv t b);have hl:=zU (zv t b);have A:=zV t b;have l1:=bF (s:=s) j z;by_cases h:nv B b=0
 ·rw[h,wH,kS];have g:gp (zv t b)=0:=by rw[hz];omega
  rw[g]at C;refine b_ aN a_ Tryz.func51 [.c 4 true 3,.t 5] ?_;exact lV @DL
 ·rw[rX _ h,ja h];have g:¬gp (zv t b)=0:=by rw[hz];omega
  have E:=(JD t b hb om).frozen;by_cases hn:zv t b<0
  ·rw[show mz (zv s a) (zv t b)= -(zv s a)from au hn];have f:gp (zv t b)<0:=by rw[hl];exact hn
   have F:=qK s a j om;have l:=yh (decide (-(zv s a)<0)) (dg B (-(zv s a)).natAbs) (dg B (nv B b)) m hm (af _) (af _) (aA (by rw[kX];exact l1)) (aA (bP hb u)) (by rw[ae];exact h);rw[fD,ae]at l;generalize gp (zv t b)=sg at*
   generalize rz (-(zv s a)) (nv B b)=x at*
   generalize aH (-(zv s a)) (nv B b)=y at*
   refine b_ aN a_ Tryz.func51 [.c 4 true 3,.t 5] ?_;exact lV (ai @f<|ai @g @DL)
  ·rw[show mz (zv s a) (zv t b)=zv s a from ah hn];have f:¬gp (zv t b)<0:=by rw[hl];exact hn
   have l:=yh s a (dg B (nv B b)) m hm j (af _) z (aA (bP hb u)) (by rw[ae];exact h);rw[ae]at l;generalize gp (zv t b)=sg at*
   generalize rz (zv s a) (nv B b)=x at*
   generalize aH (zv s a) (nv B b)=y at*
   refine b_ aN a_ Tryz.func51 [.c 4 true 3,.t 5] ?_;exact lV (ai @f<|ai @g @DL)
theorem Qm(s t:Bool)(a b:List Nat)(m:Nat)(hm:m≤100000000)(f:Wd a)(hb:Wd b)(g:a.length≤m)(u:b.length≤m):aT 29 [zL s a,zL t b] (.t [rv (mz (zv s a) (zv t b)) (nv B b),.i .i64 (re (nv B b))]):=by
 have l:=n_ b hb om;have l1:=bF (s:=s) f g;by_cases h:nv B b=0
 ·rw[h,wH,kS];rw[cO h]at l;refine b_ aN a_ Tryz.func29 [.c 4 true 3,.t 5] ?_;exact lV @DL
 ·rw[rX _ h,ja h];rw[aZ h]at l;have e:zv (!(s==t)) a=mz (zv s a) (zv t b):=by
   unfold mz zv zI;cases s<;>cases t<;>simp<;>omega
  have C:=uY (!(s==t)) a f om;have A:(zv (!(s==t)) a).natAbs<B^m:=bF f g;have j:=oH (decide (zv (!(s==t)) a<0)) (dg B (zv (!(s==t)) a).natAbs) b m hm (af _) hb (aA A) u h;rw[fD]at j;rw[e]at C j;generalize mz (zv s a) (zv t b)=z at*
  generalize rz z (nv B b)=x at*
  generalize aH z (nv B b)=y at*
  refine b_ aN a_ Tryz.func29 [.c 4 true 3,.t 5] ?_;exact lV @DL
def yj:=an @aQ<|an @fK<|an @aW<|an @aO<|an @aI<|an @fZ<|an @mJ<|an @dR<|an @iL<|an @wi<|an @lu<|an @gG @di
def RC:List (Bool×List Nat×List Nat)→List V
 |[]=>[]
 |p::r=> .b p.1:: .l 1 (W p.2.1):: .l 1 (W p.2.2)::RC r
theorem qh:∀l,(RC l).length=l.length*3
 |[]=>rfl
 |p::r=>by simp only[RC,dX,qh r];omega
theorem xA:∀(l:List (Bool×List Nat×List Nat)) (i:Nat),i<l.length→((RC l).drop (i*3)).take 3=[.b (l.getD i (false,[],[])).1,.l 1 (W (l.getD i (false,[],[])).2.1),.l 1 (W (l.getD i (false,[],[])).2.2)]
 |[],i,h=>by simp at h
 |p::r,0,h=>rfl
 |p::r,i+1,h=>by
  have:=xA r i (by simpa using h);rw[show(i+1)*3=(i*3+2)+1 from om];exact this
theorem YF:∀l,(RC l).all V.cell=true
 |[]=>rfl
 |p::r=>by simp only[RC,iI,V.cell,YF r,jf]
def ce(l:List (Bool×List Nat×List Nat)):Int:=if l.any (fun p=>nv B p.2.2==0)then 1 else 0
theorem yQ(l:List (Bool×List Nat×List Nat))(G:l.length≤1000000000)(hl:∀p,p∈l→Wd p.2.2∧p.2.2.length≤1000000000):aT 83 [.l 3 (RC l)] (.i .i64 (ce l)):=by
 have hz:=qh l;have C:l.length*3/3=l.length:=om;obtain⟨r,c⟩:∃r,r=ce l:=⟨_,rfl⟩;rw[←c];refine f_ aN a_ Tryz.func83 ?_;repeat first
  |(refine hK _ ?_;clear hK K)
  |((first|refine ay (fun K hK=>?_)|refine ax (fun K hK=>?_)|refine ak (fun K hK=>?_));simp(disch:=(first|omega|assumption)) only[S1,seval,-Int.reduceToNat,-List.reduceReplicate,aK.sb,aK.mut,aU,↓aJ,aV,aC,yj,hz,C];refine hK _ ?_;clear hK K)
  |simp only[Sv,↓reduceIte,Nat.reduceEqDiff]
 refine aF [] Nat (fun i=>⟨[(6,.l 3 (RC l)),(7,.i .i64 (l.length:Int)),(8,.i .i64 (i:Int))],[],0⟩)
  (fun i=>i≤l.length∧∀u,u<i→¬nv B (l.getD u (false,[],[])).2.2=0) (fun i=>l.length-i) 0 ⟨aG _,fun u g=>om⟩ (by exact oL) (by
  exact lC) ?_
 intro i ⟨H,hall⟩ I F A y;by_cases h:(i:Int)<(l.length:Int)
 ·have row:=xA l i om;have hmem:l.getD i (false,[],[])∈l:=by rw[dN,bC om];exact uP _
  obtain⟨m,l1⟩:=hl _ hmem;have j:=mD (l.getD i (false,[],[])).1 (l.getD i (false,[],[])).2.1 (l.getD i (false,[],[])).2.2 m l1;by_cases f:nv B (l.getD i (false,[],[])).2.2=0
  ·rw[au f]at j;have a:r=1:=by
    rw[c];unfold ce;rw[au (List.any_eq_true.2 ⟨_,hmem,by simpa using f⟩)]
   generalize l.getD i (false,[],[])=x at*
   repeat first|(refine hK _ ?_;clear hK K)|simp only[Sv,↓reduceIte,Nat.reduceEqDiff]|((first|refine ay (fun K hK=>?_)|refine ax (fun K hK=>?_)|refine ak (fun K hK=>?_)|refine fM ?_|refine dE (by assumption) ?_|refine fO ?_|(apply dF;assumption)|(apply dG;assumption));simp(disch:=(first|omega|assumption)) only[S1,seval,-Int.reduceToNat,-List.reduceReplicate,aK.sb,aK.mut,aU,↓aJ,aV,aC,yj,h,hz,row])
   refine y _ ?_;refine aX @yj ?_;exact rP (ai @a @yj)
  ·rw[ah f]at j;have NP:∀u,u<i+1→¬nv B (l.getD u (false,[],[])).2.2=0:=fun u g=>by
    by_cases e:u=i
    ·subst e;exact f
    ·exact hall u om
   generalize l.getD i (false,[],[])=x at*
   repeat first|(refine hK _ ?_;clear hK K)|simp only[Sv,↓reduceIte,Nat.reduceEqDiff]|((first|refine ay (fun K hK=>?_)|refine ax (fun K hK=>?_)|refine ak (fun K hK=>?_)|refine fM ?_|refine dE (by assumption) ?_|refine fO ?_|(apply dF;assumption)|(apply dG;assumption));simp(disch:=(first|omega|assumption)) only[S1,seval,-Int.reduceToNat,-List.reduceReplicate,aK.sb,aK.mut,aU,↓aJ,aV,aC,yj,h,hz,row])
   refine F _ (i+1) ⟨om,NP⟩ om ?_;exact lC
 ·have a:r=0:=by
   rw[c];unfold ce;rw[ah];intro E;obtain⟨p,z,f⟩:=List.any_eq_true.1 E;obtain⟨u,g,rfl⟩:=vU z;have:=hall u om;rw[dN,bC g]at this;exact this (by simpa using f)
  refine aX (ai @h @yj) ?_;refine A _ _ ?_;refine aX @yj ?_;exact rP (ai @a @yj)
theorem ce_2(s t:Bool)(a b d e:List Nat):ce [(s,a,d),(t,b,e)]=re (nv B d*nv B e):=by
 unfold ce re;simp only[List.any_cons,List.any_nil,Bool.or_false,Bool.or_eq_true,beq_iff_eq,Nat.mul_eq_zero]
theorem pz(s t:Bool)(a b d e:List Nat)(hd:Wd d)(he:Wd e)(ld:d.length≤1000000000)(le:e.length≤1000000000):
 aT 83 [.l 3 [.b s,.l 1 (W a),.l 1 (W d),.b t,.l 1 (W b),.l 1 (W e)]] (.i .i64 (re (nv B d*nv B e))):=by
 have:=yQ [(s,a,d),(t,b,e)] sy (fun p c=>by
  rcases dZ.1 c with rfl|c
  ·exact⟨hd,ld⟩
  ·rcases dZ.1 c with rfl|c
   ·exact⟨he,le⟩
   ·cases c)
 rwa[ce_2]at this
theorem oC(d:List Nat):zv false d=(nv B d:Int):=rfl
theorem Gn(n:Nat):((n:Int)).natAbs=n:=rfl
theorem qM(s:Bool)(a d:List Nat)(g:Wd a)(hd:Wd d)(f:a.length≤100000000)(ld:d.length≤100000000):aT 85 [zL s a,.l 1 (W d)] (zN (zv s a*(nv B d:Int))):=by
 have m:=EK false d hd om;have j:=Vk s (decide (zv false d<0)) a (dg B (zv false d).natAbs) g (af _) f (bK (aA (bF hd (aY _))) ld);rw[fD,oC]at j;rw[oC]at m;refine b_ aN a_ Tryz.func85 [.c 4 true 2] ?_;exact lV @yj
theorem vJ(s t:Bool)(a b d e:List Nat)(m:Nat)(hm:m≤10000000)(c:Wd a)(hb:Wd b)(hd:Wd d)(he:Wd e)(j:a.length≤m)(g:b.length≤m)(ld:d.length≤m)(le:e.length≤m):
 aT 61 [rL s a d,rL t b e] (.t [.i .i64 (if nv B d*nv B e=0 then 0 else cz (zv s a*(nv B e:Int)) (zv t b*(nv B d:Int))),.i .i64 (re (nv B d*nv B e))]):=by
 have f:=pz s t a b d e hd he om om
 by_cases h:nv B d*nv B e=0
 ·rw[au h,h,kS];rw[h,kS]at f;refine f_ aN a_ Tryz.func61 ?_;exact jO @yj
 ·rw[ah h,ja h];rw[ja h]at f;have C:=qM s a e c he om om;have A:=qM t b d hb hd om om;have z:(zv s a*(nv B e:Int)).natAbs<B^(m+m):=by rw[jy,dn];exact Nat.mul_lt_mul'' (bF c j) (bP he le)
  have u:(zv t b*(nv B d:Int)).natAbs<B^(m+m):=by rw[jy,dn];exact Nat.mul_lt_mul'' (bF hb g) (bP hd ld)
  generalize zv s a*(nv B e:Int)=x at*
  generalize zv t b*(nv B d:Int)=y at*
  have l:=Vl (decide (x<0)) (decide (y<0)) (dg B x.natAbs) (dg B y.natAbs) (af _) (af _) (bK (aA z) om) (bK (aA u) om);rw[fD,fD]at l;refine f_ aN a_ Tryz.func61 ?_;exact jO @yj
theorem Qn(s:Bool)(a d:List Nat)(m:Nat)(hm:m≤100000000)(f:Wd a)(hd:Wd d)(j:a.length≤m)(ld:d.length≤m):aT 62 [rL s a d] (.t [.i .i64 (if nv B d=0 then 0 else gp (zv s a)),.i .i64 (re (nv B d))]):=by
 have c:=mD s a d hd om;have l:=jX s a f om;by_cases h:nv B d=0
 ·rw[au h,h,kS];rw[au h]at c;refine f_ aN a_ Tryz.func62 ?_;exact jO @yj
 ·rw[ah h,ja h];rw[ah h]at c;generalize gp (zv s a)=g at*
  refine f_ aN a_ Tryz.func62 ?_;exact jO @yj
def wJ:=an @aQ<|an @fK<|an @aW<|an @aO<|an @aI<|an @fZ<|an @mJ<|an @dR<|an @iL<|an @wi<|an @lu<|an @gG @di
theorem NR(z:Int)(d k:Nat):rG (z*k) (d*k)=rG z d*k:=by
 unfold rG;rw[jy,vS,Nat.gcd_mul_right]
theorem zW{d:Nat}(a:0<k):rz (z*k) (d*k)=rz z d:=by
 unfold rz;rw[NR,jC];exact Int.mul_tdiv_mul_of_pos_left _ _ om
theorem wK{d:Nat}(a:0<k):aH (z*k) (d*k)=aH z d:=by
 unfold aH;rw[NR];exact Nat.mul_div_mul_right _ _ a
theorem tK{d:Nat}:rz z d*(rG z d:Int)=z:=Int.tdiv_mul_cancel (Int.ofNat_dvd_left.2 (Nat.gcd_dvd_left _ _))
theorem oI{d:Nat}:aH z d*rG z d=d:=Nat.div_mul_cancel (Nat.gcd_dvd_right _ _)
theorem g_{d:Nat}(h:d≠0):aH z d≠0:=fun a=>by
 have:=oI (z:=z) (d:=d);rw[a,iT]at this;exact h this.symm
theorem YG{d:Nat}(h:d≠0):gp (rz z d)=gp z:=by
 have hb:=tK (z:=z) (d:=d);have f:=oZ (z:=z) h;generalize rz z d=w at*
 generalize rG z d=g at*
 subst hb;unfold gp;have a:(0:Int)<(g:Int):=om;by_cases h1:w<0
 ·rw[au h1,au (Int.mul_neg_of_neg_of_pos h1 a)]
 ·by_cases c:0<w
  ·have:=Int.mul_pos c a;rw[ah h1,au c,ah om,au this]
  ·obtain rfl:w=0:=om;simp
theorem cz_sgz(x y:Int):cz x y=gp (x-y):=by
 unfold cz gp;by_cases h1:x<y
 ·rw[au h1,au om]
 ·by_cases a:x=y
  ·rw[ah h1,au a,ah om,ah om]
  ·rw[ah h1,ah a,ah om,au om]
theorem AV(s:Bool)(a:List Nat)(f:Wd a)(g:a.length≤1000000000):aT 142 [zL s a] (.i .i64 (gp (zv s a))):=by
 have c:=n_ a f om;unfold zv zI;by_cases h:nv B a=0
 ·rw[cO h]at c;rw[h,show gp (if s=true then -((0:Nat):Int)else((0:Nat):Int))=0 from by cases s<;>rfl];refine f_ aN a_ Tryz.func142 ?_;exact jO @wJ
 ·rw[aZ h]at c;cases s
  ·rw[show gp (if false=true then -(nv B a:Int)else(nv B a:Int))=1 from by unfold gp;simp;omega];refine f_ aN a_ Tryz.func142 ?_;exact jO @wJ
  ·rw[show gp (if true=true then -(nv B a:Int)else(nv B a:Int))= -1 from by unfold gp;simp;omega];refine f_ aN a_ Tryz.func142 ?_;exact jO @wJ
theorem hsgnN(hz:z.natAbs<B^m)(hm:m≤1000000000):aT 142 [zN z] (.i .i64 (gp z)):=by
 have:=AV (decide (z<0)) (dg B z.natAbs) (af _) (bK (aA hz) hm);rwa[fD]at this
theorem yR(s:Bool)(a d:List Nat)(f:Wd a)(c:a.length≤1000000000):aT 96 [rL s a d] (.i .i64 (gp (zv s a))):=by
 have h:=AV s a f c;refine f_ aN a_ Tryz.func96 ?_;exact jO @wJ
theorem Qo(s:Bool)(a d:List Nat)(m:Nat)(hm:m≤100000000)(f:Wd a)(hd:Wd d)(j:a.length≤m)(ld:d.length≤m):aT 45 [rL s a d] (.t [.i .i64 (if nv B d=0 then 0 else gp (zv s a)),.i .i64 (re (nv B d))]):=by
 have c:=jW s a d hd om;have l:=yR s a d f om;by_cases h:nv B d=0
 ·rw[au h,h,kS];rw[cO h]at c;refine f_ aN a_ Tryz.func45 ?_;exact jO @wJ
 ·rw[ah h,ja h];rw[aZ h]at c;generalize gp (zv s a)=g at*
  refine f_ aN a_ Tryz.func45 ?_;exact jO @wJ
theorem oJ(s t:Bool)(a b d e:List Nat)(hd:Wd d)(he:Wd e)(ld:d.length≤1000000000)(le:e.length≤1000000000):aT 92 [rL s a d,rL t b e] (.i .i64 (re (nv B d*nv B e))):=by
 have j:=jW s a d hd ld;have g:=jW t b e he le;by_cases f:nv B d=0
 ·rw[f,iT,kS];rw[cO f]at j;refine f_ aN a_ Tryz.func92 ?_;exact jO @wJ
 ·rw[aZ f]at j;by_cases c:nv B e=0
  ·rw[c,kG,kS];rw[cO c]at g;refine f_ aN a_ Tryz.func92 ?_;exact jO @wJ
  ·rw[ja (mM f c)];rw[aZ c]at g;refine f_ aN a_ Tryz.func92 ?_;exact jO @wJ
theorem wL(s t:Bool)(a b d e:List Nat)(m:Nat)(hm:m≤10000000)(j:Wd a)(hb:Wd b)(hd:Wd d)(he:Wd e)(g:a.length≤m)(f:b.length≤m)(ld:d.length≤m)(le:e.length≤m)(h:nv B d*nv B e≠0):
 aT 93 [rL s a d,rL t b e] (rN (rz (zv s a*(nv B e:Int)+zv t b*(nv B d:Int)) (nv B d*nv B e)) (aH (zv s a*(nv B e:Int)+zv t b*(nv B d:Int)) (nv B d*nv B e))):=by
 have F:=uY false e he om
 have E:=uY false d hd om
 rw[oC]at F E
 have C:=sD s (decide ((nv B e:Int)<0)) a (dg B ((nv B e:Int)).natAbs) m om j (af _) g (aA (bP he le))
 have A:=sD t (decide ((nv B d:Int)<0)) b (dg B ((nv B d:Int)).natAbs) m om hb (af _) f (aA (bP hd ld))
 rw[fD]at C A
 have z:(zv s a*(nv B e:Int)).natAbs<B^(m+m):=by rw[jy,dn];exact Nat.mul_lt_mul'' (bF j g) (bP he le)
 have l:(zv t b*(nv B d:Int)).natAbs<B^(m+m):=by rw[jy,dn];exact Nat.mul_lt_mul'' (bF hb f) (bP hd ld)
 have H:nv B d*nv B e<B^(m+m):=by rw[dn];exact Nat.mul_lt_mul'' (bP hd ld) (bP he le)
 have J:=(vw d e hd he om om).frozen
 generalize zv s a*(nv B e:Int)=x at*
 generalize zv t b*(nv B d:Int)=y at*
 generalize nv B d*nv B e=w at*
 have s1:=haddZ z l om
 have G:(x+y).natAbs<B^(m+m+1):=cZ (Int.natAbs_add_le _ _) (Bj z l)
 have r1:=oH (decide (x+y<0)) (dg B (x+y).natAbs) (dg B w) (m+m+1) om (af _) (af _) (aA G) (aA (KE H om)) (by rw[ae];exact h)
 rw[fD,ae]at r1
 generalize rz (x+y) w=u at*
 generalize aH (x+y) w=v at*
 generalize x+y=I at*
 refine b_ aN a_ Tryz.func93 [.c 4 true 3] ?_
 exact lV @wJ
theorem vK(s:Bool)(a d:List Nat)(m:Nat)(hm:m≤100000000)(f:Wd a)(hd:Wd d)(g:a.length≤m)(ld:d.length≤m)(h:nv B d≠0):aT 98 [rL s a d] (rN (rz (-(zv s a)) (nv B d)) (aH (-(zv s a)) (nv B d))):=by
 have y:=Jk s a f om;have l:(-(zv s a)).natAbs<B^m:=by rw[kX];exact bF f g
 have j:=oH (decide (-(zv s a)<0)) (dg B (-(zv s a)).natAbs) d m hm (af _) hd (aA l) ld h;rw[fD]at j;generalize -(zv s a)=x at*
 generalize rz x (nv B d)=u at*
 generalize aH x (nv B d)=v at*
 refine b_ aN a_ Tryz.func98 [.c 2 true 3] ?_;exact lV @wJ
theorem xm(s t:Bool)(a b d e:List Nat)(m:Nat)(hm:m≤10000000)(C:Wd a)(hb:Wd b)(hd:Wd d)(he:Wd e)(y:a.length≤m)(j:b.length≤m)(ld:d.length≤m)(le:e.length≤m)(g:nv B d≠0)(f:nv B e≠0):
 aT 94 [rL s a d,rL t b e] (rN (rz (zv s a*(nv B e:Int)-zv t b*(nv B d:Int)) (nv B d*nv B e)) (aH (zv s a*(nv B e:Int)-zv t b*(nv B d:Int)) (nv B d*nv B e))):=by
 have J:=vK t b e m om hb he j le f
 have l:=oZ (z:= -(zv t b)) f
 have k1:=tK (z:= -(zv t b)) (d:=nv B e)
 have k2:=oI (z:= -(zv t b)) (d:=nv B e)
 have A:=g_ (z:= -(zv t b)) f
 have H:(rz (-(zv t b)) (nv B e)).natAbs<B^m:=by rw[uH,kX];exact cZ (fE _ _) (bF hb j)
 have G:aH (-(zv t b)) (nv B e)<B^m:=cZ (fE _ _) (bP he le)
 have E:=wL s (decide (rz (-(zv t b)) (nv B e)<0)) a (dg B (rz (-(zv t b)) (nv B e)).natAbs) d (dg B (aH (-(zv t b)) (nv B e))) m hm C (af _) hd (af _) y (aA H) ld (aA G) (by rw[ae];exact mM g A)
 rw[fD,ae]at E
 have e1:zv s a*(nv B e:Int)-zv t b*(nv B d:Int)=(zv s a*(aH (-(zv t b)) (nv B e):Int)+rz (-(zv t b)) (nv B e)*(nv B d:Int))*(rG (-(zv t b)) (nv B e):Int):=by
  rw[Int.add_mul,Int.mul_assoc,←jC,k2,Int.mul_right_comm,k1,Int.neg_mul];omega
 have F:nv B d*nv B e=nv B d*aH (-(zv t b)) (nv B e)*rG (-(zv t b)) (nv B e):=by rw[fB,k2]
 rw[e1,F,zW l,wK l]
 generalize rz (zv s a*(aH (-(zv t b)) (nv B e):Int)+rz (-(zv t b)) (nv B e)*(nv B d:Int)) (nv B d*aH (-(zv t b)) (nv B e))=u at*
 generalize aH (zv s a*(aH (-(zv t b)) (nv B e):Int)+rz (-(zv t b)) (nv B e)*(nv B d:Int)) (nv B d*aH (-(zv t b)) (nv B e))=v at*
 generalize rz (-(zv t b)) (nv B e)=I at*
 generalize aH (-(zv t b)) (nv B e)=v1 at*
 refine b_ aN a_ Tryz.func94 [.c 4 true 3] ?_
 exact lV @wJ
theorem xn(s t:Bool)(a b d e:List Nat)(m:Nat)(hm:m≤10000000)(A:Wd a)(hb:Wd b)(hd:Wd d)(he:Wd e)(l:a.length≤m)(j:b.length≤m)(ld:d.length≤m)(le:e.length≤m)(f:nv B d≠0)(c:nv B e≠0):
 aT 100 [rL s a d,rL t b e] (.i .i64 (cz (zv s a*(nv B e:Int)) (zv t b*(nv B d:Int)))):=by
 have I:=xm s t a b d e m hm A hb hd he l j ld le f c
 have H:(zv s a*(nv B e:Int)).natAbs<B^(m+m):=by rw[jy,dn];exact Nat.mul_lt_mul'' (bF A l) (bP he le)
 have G:(zv t b*(nv B d:Int)).natAbs<B^(m+m):=by rw[jy,dn];exact Nat.mul_lt_mul'' (bF hb j) (bP hd ld)
 have C:nv B d*nv B e≠0:=mM f c
 rw[cz_sgz]
 generalize zv s a*(nv B e:Int)=x at*
 generalize zv t b*(nv B d:Int)=y at*
 generalize nv B d*nv B e=w at*
 have F:(x-y).natAbs<B^(m+m+1):=cZ (Int.natAbs_sub_le _ _) (Bj H G)
 have E:=hsgnN (z:=rz (x-y) w) (m:=m+m+1) (by rw[uH];exact cZ (fE _ _) F) om
 rw[YG C]at E
 generalize rz (x-y) w=u at*
 generalize aH (x-y) w=v at*
 generalize gp (x-y)=g at*
 refine f_ aN a_ Tryz.func100 ?_
 exact jO @wJ
theorem Vm(s t:Bool)(a b d e:List Nat)(m:Nat)(hm:m≤10000000)(u:Wd a)(hb:Wd b)(hd:Wd d)(he:Wd e)(l:a.length≤m)(j:b.length≤m)(ld:d.length≤m)(le:e.length≤m):
 aT 44 [rL s a d,rL t b e] (.t [.i .i64 (if nv B d*nv B e=0 then 0 else cz (zv s a*(nv B e:Int)) (zv t b*(nv B d:Int))),.i .i64 (re (nv B d*nv B e))]):=by
 have f:=oJ s t a b d e hd he om om
 by_cases h:nv B d*nv B e=0
 ·rw[au h,h,kS];rw[h,kS]at f;refine f_ aN a_ Tryz.func44 ?_;exact jO @wJ
 ·have y:=xn s t a b d e m hm u hb hd he l j ld le (fun c=>h (by rw[c,iT])) (fun c=>h (by rw[c,kG]));rw[ah h,ja h];rw[ja h]at f;generalize cz (zv s a*(nv B e:Int)) (zv t b*(nv B d:Int))=g at*
  refine f_ aN a_ Tryz.func44 ?_;exact jO @wJ
