import Derived.Test.YtpopphdnlhihdaaGreatDoorGG
set_option linter.all false
set_option maxHeartbeats 10000000
set_option maxRecDepth 2000000
namespace Go.Proofs.YtpopphdnlhihdaaGreatDoor
open Go Go.RowKit Ab
theorem zx{b:Nat}:∀(l:List Nat) (i x:Nat),i<l.length→nv b (l.set i x)+b^i*l.getD i 0=nv b l+b^i*x
 |[],i,x,h=>by simp at h
 |y::l,0,x,h=>by
  show nv b (x::l)+b^0*y=nv b (y::l)+b^0*x;rw[yM,yM,Nat.pow_zero];omega
 |y::l,i+1,x,h=>by
  have a:=zx (b:=b) l i x (by simpa using h);show nv b (y::l.set i x)+b^(i+1)*l.getD i 0=nv b (y::l)+b^(i+1)*x;rw[yM,yM,dO,bV (b^i) b,fB,fB];have:=congrArg (b*·) a;simp only[fQ]at this;omega
theorem getD_set_ne(l:List Nat)(i j x:Nat)(h:i≠j):(l.set i x).getD j 0=l.getD j 0:=by
 rw[dN,dN,List.getElem?_set_ne h]
theorem OD{S T c k w x:Nat}{l:List Nat}(a:k<l.length)(g:nv B l+B^k*c=S+T):
 nv B (l.set k ((x*w+c+l.getD k 0)%B))+B^(k+1)*((x*w+c+l.getD k 0)/B)=S+(T+B^k*(x*w)):=by
 have m:=zx (b:=B) l k ((x*w+c+l.getD k 0)%B) a
 have f:=Nat.mod_add_div (x*w+c+l.getD k 0) B
 have j:B^k*((x*w+c+l.getD k 0)%B)+B^(k+1)*((x*w+c+l.getD k 0)/B)=B^k*(x*w)+B^k*c+B^k*l.getD k 0:=by
  rw[dO,fB,←fQ,f,fQ,fQ]
 omega
theorem kar{n a1 a0 b1 b0:Nat}:(a0+B^n*a1)*(b0+B^n*b1)=a1*b1*B^(2*n)+((a1+a0)*(b1+b0)-(a1*b1+a0*b0))*B^n+a0*b0∧a1*b1+a0*b0≤(a1+a0)*(b1+b0):=by
 have e:(a1+a0)*(b1+b0)=a1*b1+a0*b0+(a1*b0+a0*b1):=by rw[kQ,fQ,fQ];omega
 refine⟨?_,om⟩;rw[e,qX,Nat.two_mul,dn];generalize B^n=P;rw[kQ,fQ,fQ,kQ (a1*b0)];have f:P*a1*(P*b1)=a1*b1*(P*P):=by rw[bV P a1,Nat.mul_mul_mul_comm,bV P b1,←fB,←fB,Nat.mul_right_comm a1 P b1,fB (a1*b1)]
 have c:P*a1*b0=a1*b0*P:=by rw[bV P a1,Nat.mul_right_comm]
 have a:a0*(P*b1)=a0*b1*P:=by rw[bV P b1,←fB]
 rw[f,c,a];omega
def iW:=an @wi<|an @aI<|an @aW<|an @aO<|an @aQ<|an @fZ<|an @di<|an @dR @dH
theorem mk_W'(n:Nat):(List.replicate n [V.i .u64 0]).flatten=W (List.replicate n 0):=EF n
theorem JS(a b:Nat):((a:Int)+(b:Int)).toNat=a+b:=om
theorem mn'(a b:Nat):min (a:Int) (b:Int)=((min a b:Nat):Int):=om
theorem JU(a:List Nat)(n:Nat)(c:Wd a)(z:a.length≤1000000000):aT 182 [.l 1 (W a),.i .i64 (n:Int)] (.t [.l 1 (W (dg B (nv B a/B^n))),.l 1 (W (dg B (nv B a%B^n)))]):=by
 have e1:nv B (a.drop (min n a.length))=nv B a/B^n:=by
  rcases Nat.le_total n a.length with h|h
  ·rw[pR h,yE dc c]
  ·rw[Nat.min_eq_right h,List.drop_length,jQ (eu (eP c) (gX dc h))];rfl
 have g:nv B (a.take (min n a.length))=nv B a%B^n:=by
  rcases Nat.le_total n a.length with h|h
  ·rw[pR h,nv_mod dc c]
  ·rw[Nat.min_eq_right h,iH,bD (eu (eP c) (gX dc h))]
 have f:min n a.length≤a.length:=Nat.min_le_right _ _;generalize j:min n a.length=m at e1 g f;have y:=rE (a.drop m) (Wd_drop c _) (by rw[uM];omega);have u:=rE (a.take m) (u_ c _) (by rw[jo];omega);rw[e1]at y;rw[g]at u;refine f_ aN a_ Tryz.func182 ?_;exact jO (ai @mW<|ai @yO<|ai @j<|ai @mn'<|ai @bG @iW)
def lf(v n:Nat):List Nat:=if v=0 then[]else List.replicate n 0++dg B v
theorem lf_nv(v n:Nat):nv B (lf v n)=v*B^n:=by
 unfold lf;split
 ·rename_i h;rw[h,iT];rfl
 ·rw[yF,yB,nS,ae,eY,bV]
theorem lf_Wd(v n:Nat):Wd (lf v n):=by
 unfold lf;split
 ·exact BZ
 ·exact X5 (BP dc) (af v)
theorem lf_len{v n m:Nat}(h:v<B^m):(lf v n).length≤n+m:=by
 unfold lf;split
 ·exact aG _
 ·rw[bZ,nS];have:=aA h;omega
theorem JV(v n:Nat)(f:n≤1000000000)(hl:(dg B v).length≤1000000000):aT 183 [.l 1 (W (dg B v)),.i .i64 (n:Int)] (.l 1 (W (lf v n))):=by
 have a:(((dg B v).length:Int)=0)=(v=0):=propext ⟨fun h=>(uz B2).1 (nz om),fun h=>by rw[h];rfl⟩;refine f_ aN a_ Tryz.func183 ?_;by_cases c:v=0
 ·subst c;rw[show lf 0 n=[]from rfl];rw[uX];exact U8 (ai @bG @iW)
 ·rw[show lf v n=List.replicate n 0++dg B v from ah c];repeat first
   |(refine hK _ ?_;clear hK K)
   |((first|refine ay (fun K hK=>?_)|refine ax (fun K hK=>?_)|refine ak (fun K hK=>?_));simp(disch:=(first|omega|assumption)) only[S1,seval,-Int.reduceToNat,-List.reduceReplicate,aK.sb,aK.mut,aU,↓aJ,aV,aC,iW,dJ,a,c,mk_W',Hf,nS];refine hK _ ?_;clear hK K)
   |simp only[Sv,↓reduceIte,Nat.reduceEqDiff]
  exact rP (ai @bG @iW)
theorem FD(k:Nat)(hk:k≤100000000)
 (Y:∀x y:List Nat,Wd x→Wd y→x.length≤k→y.length≤k→aT 139 [.l 1 (W x),.l 1 (W y)] (.l 1 (W (dg B (nv B x*nv B y)))))
 (a b:List Nat) (ha:Wd a) (hb:Wd b) (hab:a.length≤b.length) (h40:40≤b.length) (lb:b.length≤k+1):
 aT 167 [.l 1 (W a),.l 1 (W b)] (.o 49 1 (W (dg B (nv B a*nv B b)))):=by
 obtain⟨n,hn⟩:∃n,n=(b.length+1)/2:=⟨_,rfl⟩
 have L:((b.length:Int)+1).tdiv 2=(n:Int):=by rw[hn];exact rfl
 have F:nv B a<B^(n+n):=bP ha om
 have E:nv B b<B^(n+n):=bP hb om
 rw[dn]at F E
 have G:0<B^n:=bg dc
 have a1:nv B a/B^n<B^n:=(fP G).2 F
 have H:nv B b/B^n<B^n:=(fP G).2 E
 have a0:nv B a%B^n<B^n:=cu _ G
 have I:nv B b%B^n<B^n:=cu _ G
 have hca:=JU a n ha om
 have hcb:=JU b n hb om
 obtain⟨m,j⟩:=kar (n:=n) (a1:=nv B a/B^n) (a0:=nv B a%B^n) (b1:=nv B b/B^n) (b0:=nv B b%B^n)
 rw[Nat.mod_add_div,Nat.mod_add_div]at m
 rw[m]
 generalize nv B a/B^n=c at*
 generalize nv B a%B^n=f at*
 generalize nv B b/B^n=B1 at*
 generalize nv B b%B^n=B0 at*
 have la1:=aA a1
 have la0:=aA a0
 have lb1:=aA H
 have lb0:=aA I
 have Z:=Bj a1 a0
 have sb:=Bj H I
 have lsa:=aA Z
 have lsb:=aA sb
 have hi:=Y (dg B c) (dg B B1) (af _) (af _) om om
 have lo:=Y (dg B f) (dg B B0) (af _) (af _) om om
 have Q:=v_ (dg B c) (dg B f) (af _) (af _) om om
 have P:=v_ (dg B B1) (dg B B0) (af _) (af _) om om
 have mi:=Y (dg B (c+f)) (dg B (B1+B0)) (af _) (af _) om om
 simp only[ae]at hi lo Q P mi
 have g:c*B1<B^(n+n):=by rw[dn];exact BQ a1 H
 have C:f*B0<B^(n+n):=by rw[dn];exact BQ a0 I
 have A:(c+f)*(B1+B0)<B^(n+1+(n+1)):=by rw[dn B (n+1)];exact BQ Z sb
 have lhi:=aA g
 have llo:=aA C
 have lmi:=aA A
 have J:=Bj g C
 have lhl:=aA J
 have O:=v_ (dg B (c*B1)) (dg B (f*B0)) (af _) (af _) om om
 have z:=Ho (dg B ((c+f)*(B1+B0))) (dg B (c*B1+f*B0)) (af _) (af _) om om
 simp only[ae]at O z
 rw[ah (Nat.not_lt.2 j),ah (Nat.not_lt.2 j)]at z
 have u:(c+f)*(B1+B0)-(c*B1+f*B0)<B^(n+1+(n+1)):=cZ (Nat.sub_le _ _) A
 generalize (c+f)*(B1+B0)-(c*B1+f*B0)=M at*
 have lmd:=aA u
 have lh:=JV (c*B1) (2*n) om om
 have lm:=JV M n om om
 have llh:=lf_len (n:=2*n) g
 have llm:=lf_len (n:=n) u
 have U:=v_ (lf (c*B1) (2*n)) (lf M n) (lf_Wd _ _) (lf_Wd _ _) om om
 rw[lf_nv,lf_nv]at U
 have l1:(dg B (c*B1*B^(2*n)+M*B^n)).length≤4*n+10:=by
  have q1:c*B1*B^(2*n)<B^(4*n+9):=by
   have:=Nat.mul_lt_mul_of_pos_right g (bg (n:=2*n) (by decide:0<B));rw[←dn]at this;exact KE this om
  have q2:M*B^n<B^(4*n+9):=by
   have:=Nat.mul_lt_mul_of_pos_right u G;rw[←dn]at this;exact KE this om
  exact aA (Bj q1 q2)
 have T:=v_ (dg B (c*B1*B^(2*n)+M*B^n)) (dg B (f*B0)) (af _) (af _) om om
 simp only[ae]at T
 have h2n:(2:Int)*(n:Int)=((2*n:Nat):Int):=om
 have N:¬(2:Int)=0:=dc
 refine f_ aN a_ Tryz.func167 ?_
 exact jO (ai @h2n<|ai @Int.natCast_zero<|ai @N<|ai @L<|ai @bG @iW)
theorem OE(k:Nat)(z:k≤100000000):∀x y:List Nat,Wd x→Wd y→x.length≤k→y.length≤k→aT 139 [.l 1 (W x),.l 1 (W y)] (.o 49 1 (W (dg B (nv B x*nv B y)))):=by
 induction k with
 |zero=>
  intro x y hx hy lx ly;have hx0:x=[]:=nz om;have hy0:y=[]:=nz om;subst hx0;subst hy0;rw[show nv B []*nv B []=0 from rfl,uX];refine f_ aN a_ Tryz.func139 ?_;refine aX (ai @bG @iW) ?_;exact rP (ai @bG @iW)
 |succ k ih=>
  have IH:=fun x y a b c d=>(ih om x y a b c d).frozen
  intro x y hx hy lx ly;refine f_ aN a_ Tryz.func139 ?_;by_cases L:(y.length:Int)<(x.length:Int)
  ·rw[bV];by_cases N:((y).length:Int)=0
   ·have e:dg B (nv B (y)*nv B (x))=[]:=by rw[show y=[]from nz om,show nv B []=0 from rfl,iT];rfl
    rw[e];have q1:¬(((x).length:Int)<0):=om;have q2:=(show(0:Int)<(x.length:Int) by omega);repeat first
     |(refine hK _ ?_;clear hK K)
     |((first|refine ay (fun K hK=>?_)|refine ax (fun K hK=>?_)|refine ak (fun K hK=>?_));simp(disch:=(first|omega|assumption)) only[S1,seval,-Int.reduceToNat,-List.reduceReplicate,aK.sb,aK.mut,aU,↓aJ,aV,aC,iW,dJ,q1,q2,N];refine hK _ ?_;clear hK K)
     |simp only[Sv,↓reduceIte,Nat.reduceEqDiff]
    exact rP (ai @bG @iW)
   ·by_cases h40:(40:Int)≤((y).length:Int)
    ·have hh:=FD k om IH (y) (x) hy hx om om om;exact jO (ai @h40<|ai @N<|ai @L<|ai @bG @iW)
    ·obtain⟨u,f⟩:∃u,u=(y).length:=⟨_,rfl⟩;obtain⟨m,g⟩:∃m,m=(x).length:=⟨_,rfl⟩;have E:=L;rw[←f,←g]at E;rw[←f]at N h40;refine aX (ai (Eq.symm g) (ai (Eq.symm f) (ai @JS<|ai @mk_W'<|ai @h40<|ai @N<|ai @E<|ai @bG @iW))) ?_;refine aF [] (Nat×List Nat) (fun s=>⟨[(1,.l 1 (W (x))),(5,.ow 1 0 (u+m)),(35,.l 1 (W (y))),(36,.i .i64 (u:Int)),(37,.i .i64 (s.1:Int))],
      [(0,some ⟨49,1,W s.2,true,false⟩)],1⟩)
      (fun s=>s.1≤u∧s.2.length=u+m∧Wd s.2∧nv B s.2=nv B ((y).take s.1)*nv B (x)∧∀k,s.1+m≤k→s.2.getD k 0=0) (fun s=>u-s.1) (0,List.replicate (u+m) 0)
      ⟨aG _,sy,BP dc,by rw[yB,List.take_zero,show nv B []=0 from rfl,iT],fun k z=>by simp only[dN,List.getElem?_replicate];split<;>rfl⟩ (by exact oL) (by
      exact lC) ?_
     rintro⟨i,R⟩ ⟨hi,lR,O,J,zR⟩ Q' hQ he hr;simp only[]at hi lR O J zR ⊢;by_cases hil:(i:Int)<(u:Int)
     ·have G:i<(y).length:=om;have hw:=fV hy i;refine aX (ai (Eq.symm g) (ai (Eq.symm f) (ai @hil<|ai @bG @iW))) ?_;refine aF [] (Nat×List Nat×Nat) (fun s=>⟨[(1,.l 1 (W (x))),(5,.ow 1 0 (u+m)),(35,.l 1 (W (y))),(36,.i .i64 (u:Int)),(37,.i .i64 (i:Int)),(6,.i .i64 (i:Int)),(7,.i .u64 (((y).getD i 0:Nat):Int)),(8,.i .u64 (s.2.2:Int)),(42,.l 1 (W (x))),(43,.i .i64 (m:Int)),(44,.i .i64 (s.1:Int))],
       [(0,some ⟨49,1,W s.2.1,true,false⟩)],1⟩)
       (fun s=>s.1≤m∧s.2.1.length=u+m∧Wd s.2.1∧s.2.2<18446744073709551616∧nv B s.2.1+B^(i+s.1)*s.2.2=nv B ((y).take i)*nv B (x)+B^i*((y).getD i 0*nv B ((x).take s.1))∧∀k,i+m≤k→s.2.1.getD k 0=0) (fun s=>m-s.1) (0,R,0)
       ⟨aG _,lR,O,(show(0:Nat)<18446744073709551616 from dc),by simp only[List.take_zero,show nv B []=0 from rfl,kG,ik];exact J,zR⟩ (by exact oL) (by
       exact lC) ?_
      rintro⟨j,S,c⟩ ⟨hj,A,H,M,I,zS⟩ Q'' Z U hr';simp only[]at hj A H M I zS ⊢;by_cases hjl:(j:Int)<(m:Int)
      ·have F:j<(x).length:=om;have C:=fV hx j;have hs:=fV H (i+j);have hmw:=AA ((x).getD j 0) ((y).getD i 0) c (S.getD (i+j) 0) C hw M hs;have Y:=Gf C hw M hs;have T:=OD (l:=S) (k:=i+j) (w:=(y).getD i 0) (x:=(x).getD j 0) om I;have Q:=jd (b:=B) (x) j F;refine pJ (ai (Eq.symm g) (ai (Eq.symm f) (ai @ny<|ai @A<|ai @JS<|ai @hjl<|ai @bG @iW))) ?_;refine Z _ (j+1,S.set (i+j) (((x).getD j 0*(y).getD i 0+c+S.getD (i+j) 0)%18446744073709551616),((x).getD j 0*(y).getD i 0+c+S.getD (i+j) 0)/18446744073709551616)
        ⟨by simp only;omega,by simp only[yZ];exact A,yC H _ _ (cu _ dc),Y,?_,fun k z=>by simp only;rw[getD_set_ne _ _ _ _ (by first|omega|(simp only at z;omega))];exact zS k z⟩ (by simp only;omega) ?_
       ·simp only[];rw[Q,fQ,fQ,show i+(j+1)=i+j+1 from rfl];rw[show B^i*((y).getD i 0*(B^j*(x).getD j 0))=B^(i+j)*((x).getD j 0*(y).getD i 0)from by rw[dn,fB,Nat.mul_left_comm ((y).getD i 0),bV ((y).getD i 0)]];exact T
       ·exact lC
      ·obtain rfl:j=m:=om;have hz:=zS (i+j) (aY _);have hset:=zx (b:=B) S (i+j) c om;rw[hz,kG,ik]at hset;rw[show(x).take j=x from by rw[g,iH]]at I;refine aX (ai (Eq.symm g) (ai (Eq.symm f) (ai @hjl<|ai @bG @iW))) ?_;refine U _ _ ?_;refine aX (ai (Eq.symm g) (ai (Eq.symm f) (ai @ny<|ai @A<|ai @JS<|ai @bG @iW))) ?_;refine hQ _ (i+1,S.set (i+j) c) ⟨by simp only;omega,by simp only[yZ];exact A,yC H _ _ M,?_,fun k z=>by simp only;rw[getD_set_ne _ _ _ _ (by first|omega|(simp only at z;omega))];exact zS k (by first|omega|(simp only at z;omega))⟩ (by simp only;omega) ?_
       ·simp only[];rw[hset,I,jd (b:=B) (y) i G,kQ,fB]
       ·exact lC
     ·obtain rfl:i=u:=om;rw[show(y).take i=y from by rw[f,iH]]at J;have P:=vI R om;rw[EY B2 O,J]at P;refine aX (ai @hil<|ai @bG @iW) ?_;refine he _ _ ?_;exact jO (ai @bG @iW)
  ·by_cases N:((x).length:Int)=0
   ·have e:dg B (nv B (x)*nv B (y))=[]:=by rw[show x=[]from nz om,show nv B []=0 from rfl,iT];rfl
    rw[e];have q1:¬(((y).length:Int)<0):=om;have q2:=q1;repeat first
     |(refine hK _ ?_;clear hK K)
     |((first|refine ay (fun K hK=>?_)|refine ax (fun K hK=>?_)|refine ak (fun K hK=>?_));simp(disch:=(first|omega|assumption)) only[S1,seval,-Int.reduceToNat,-List.reduceReplicate,aK.sb,aK.mut,aU,↓aJ,aV,aC,iW,dJ,q1,q2,N];refine hK _ ?_;clear hK K)
     |simp only[Sv,↓reduceIte,Nat.reduceEqDiff]
    exact rP (ai @bG @iW)
   ·by_cases h40:(40:Int)≤((x).length:Int)
    ·have hh:=FD k om IH (x) (y) hx hy om om om;exact jO (ai @h40<|ai @N<|ai @L<|ai @bG @iW)
    ·obtain⟨u,f⟩:∃u,u=(x).length:=⟨_,rfl⟩;obtain⟨m,g⟩:∃m,m=(y).length:=⟨_,rfl⟩;have E:=L;rw[←f,←g]at E;rw[←f]at N h40;refine aX (ai (Eq.symm g) (ai (Eq.symm f) (ai @JS<|ai @mk_W'<|ai @h40<|ai @N<|ai @E<|ai @bG @iW))) ?_;refine aF [] (Nat×List Nat) (fun s=>⟨[(1,.l 1 (W (y))),(5,.ow 1 0 (u+m)),(35,.l 1 (W (x))),(36,.i .i64 (u:Int)),(37,.i .i64 (s.1:Int))],
      [(0,some ⟨49,1,W s.2,true,false⟩)],1⟩)
      (fun s=>s.1≤u∧s.2.length=u+m∧Wd s.2∧nv B s.2=nv B ((x).take s.1)*nv B (y)∧∀k,s.1+m≤k→s.2.getD k 0=0) (fun s=>u-s.1) (0,List.replicate (u+m) 0)
      ⟨aG _,sy,BP dc,by rw[yB,List.take_zero,show nv B []=0 from rfl,iT],fun k z=>by simp only[dN,List.getElem?_replicate];split<;>rfl⟩ (by exact oL) (by
      exact lC) ?_
     rintro⟨i,R⟩ ⟨hi,lR,O,J,zR⟩ Q' hQ he hr;simp only[]at hi lR O J zR ⊢;by_cases hil:(i:Int)<(u:Int)
     ·have G:i<(x).length:=om;have hw:=fV hx i;refine aX (ai (Eq.symm g) (ai (Eq.symm f) (ai @hil<|ai @bG @iW))) ?_;refine aF [] (Nat×List Nat×Nat) (fun s=>⟨[(1,.l 1 (W (y))),(5,.ow 1 0 (u+m)),(35,.l 1 (W (x))),(36,.i .i64 (u:Int)),(37,.i .i64 (i:Int)),(6,.i .i64 (i:Int)),(7,.i .u64 (((x).getD i 0:Nat):Int)),(8,.i .u64 (s.2.2:Int)),(42,.l 1 (W (y))),(43,.i .i64 (m:Int)),(44,.i .i64 (s.1:Int))],
       [(0,some ⟨49,1,W s.2.1,true,false⟩)],1⟩)
       (fun s=>s.1≤m∧s.2.1.length=u+m∧Wd s.2.1∧s.2.2<18446744073709551616∧nv B s.2.1+B^(i+s.1)*s.2.2=nv B ((x).take i)*nv B (y)+B^i*((x).getD i 0*nv B ((y).take s.1))∧∀k,i+m≤k→s.2.1.getD k 0=0) (fun s=>m-s.1) (0,R,0)
       ⟨aG _,lR,O,(show(0:Nat)<18446744073709551616 from dc),by simp only[List.take_zero,show nv B []=0 from rfl,kG,ik];exact J,zR⟩ (by exact oL) (by
       exact lC) ?_
      rintro⟨j,S,c⟩ ⟨hj,A,H,M,I,zS⟩ Q'' Z U hr';simp only[]at hj A H M I zS ⊢;by_cases hjl:(j:Int)<(m:Int)
      ·have F:j<(y).length:=om;have C:=fV hy j;have hs:=fV H (i+j);have hmw:=AA ((y).getD j 0) ((x).getD i 0) c (S.getD (i+j) 0) C hw M hs;have Y:=Gf C hw M hs;have T:=OD (l:=S) (k:=i+j) (w:=(x).getD i 0) (x:=(y).getD j 0) om I;have Q:=jd (b:=B) (y) j F;refine pJ (ai (Eq.symm g) (ai (Eq.symm f) (ai @ny<|ai @A<|ai @JS<|ai @hjl<|ai @bG @iW))) ?_;refine Z _ (j+1,S.set (i+j) (((y).getD j 0*(x).getD i 0+c+S.getD (i+j) 0)%18446744073709551616),((y).getD j 0*(x).getD i 0+c+S.getD (i+j) 0)/18446744073709551616)
        ⟨by simp only;omega,by simp only[yZ];exact A,yC H _ _ (cu _ dc),Y,?_,fun k z=>by simp only;rw[getD_set_ne _ _ _ _ (by first|omega|(simp only at z;omega))];exact zS k z⟩ (by simp only;omega) ?_
       ·simp only[];rw[Q,fQ,fQ,show i+(j+1)=i+j+1 from rfl];rw[show B^i*((x).getD i 0*(B^j*(y).getD j 0))=B^(i+j)*((y).getD j 0*(x).getD i 0)from by rw[dn,fB,Nat.mul_left_comm ((x).getD i 0),bV ((x).getD i 0)]];exact T
       ·exact lC
      ·obtain rfl:j=m:=om;have hz:=zS (i+j) (aY _);have hset:=zx (b:=B) S (i+j) c om;rw[hz,kG,ik]at hset;rw[show(y).take j=y from by rw[g,iH]]at I;refine aX (ai (Eq.symm g) (ai (Eq.symm f) (ai @hjl<|ai @bG @iW))) ?_;refine U _ _ ?_;refine aX (ai (Eq.symm g) (ai (Eq.symm f) (ai @ny<|ai @A<|ai @JS<|ai @bG @iW))) ?_;refine hQ _ (i+1,S.set (i+j) c) ⟨by simp only;omega,by simp only[yZ];exact A,yC H _ _ M,?_,fun k z=>by simp only;rw[getD_set_ne _ _ _ _ (by first|omega|(simp only at z;omega))];exact zS k (by first|omega|(simp only at z;omega))⟩ (by simp only;omega) ?_
       ·simp only[];rw[hset,I,jd (b:=B) (x) i G,kQ,fB]
       ·exact lC
     ·obtain rfl:i=u:=om;rw[show(x).take i=x from by rw[f,iH]]at J;have P:=vI R om;rw[EY B2 O,J]at P;refine aX (ai @hil<|ai @bG @iW) ?_;refine he _ _ ?_;exact jO (ai @bG @iW)
theorem OG(x y:List Nat)(g:Wd x)(f:Wd y)(c:x.length≤100000000)(a:y.length≤100000000):aT 139 [.l 1 (W x),.l 1 (W y)] (.o 49 1 (W (dg B (nv B x*nv B y)))):=
 OE 100000000 (aY _) x y g f c a
theorem TC(x y:List Nat)(c:Wd x)(a:Wd y)(g:x.length≤100000000)(f:y.length≤100000000):aT 86 [.l 1 (W x),.l 1 (W y)] (.o 49 1 (W (dg B (nv B x*nv B y)))):=by
 have n1:=rE x c om;have n2:=rE y a om;have h:=OG (dg B (nv B x)) (dg B (nv B y)) (af _) (af _) (bK (BK B2 (eP c)) g) (bK (BK B2 (eP a)) f);simp only[ae]at h;refine f_ aN a_ Tryz.func86 ?_;exact jO (ai @bG @iW)
theorem NW(x y:List Nat)(g:Wd x)(f:Wd y)(c:x.length≤100000000)(a:y.length≤100000000):aT 86 [.l 1 (W x),.l 1 (W y)] (.l 1 (W (dg B (nv B x*nv B y)))):=(TC x y g f c a).frozen
