import Derived.Test.YtpopphdnlhihdaaGreatDoorGF
import Derived.Test.YtpopphdnlhihdaaGreatDoorGE
set_option linter.all false
set_option maxRecDepth 2000000
set_option maxHeartbeats 10000000
namespace Go.Proofs.YtpopphdnlhihdaaGreatDoor
open Go Go.RowKit Ab
def qQ(u v:Nat):List Nat:=dg B (u/v)
def qR(u v:Nat):List Nat:=if v=0 then[]else dg B (u%v)
def qE(v:Nat):Int:=if v=0 then 1 else 0
theorem qQ_0(u:Nat):qQ u 0=[]:=by unfold qQ;rw[Nat.div_zero];rfl
theorem qR_0(u:Nat):qR u 0=[]:=au rfl
theorem qE_0:qE 0=1:=rfl
variable{u:Nat}
theorem qR_p{v:Nat}(h:0<v):qR u v=dg B (u%v):=ah om
theorem qE_p{v:Nat}(h:0<v):qE v=0:=ah om
theorem W1(x:Nat):W [x]=[.i .u64 (x:Int)]:=rfl
theorem dg_one{w:Nat}(h0:0<w)(a:w<B):dg B w=[w]:=by
 rw[←xI B2 (n:=1) (by rw[Nat.pow_one];exact a),fl,fl,bD a,tz,tz,ah om]
theorem S9{b:List Nat}(h:b.length=1):b.getD 0 0=nv B b:=by
 match b,h with
 |[x],_=>simp[nv]
theorem Yt{v:Nat}:(((qR u v).length:Nat):Int)=0↔(v=0∨u%v=0):=by
 unfold qR;split
 ·rename_i h;simp[h]
 ·rename_i h;constructor
  ·intro a;exact .inr ((uz B2).1 (nz om))
  ·intro a;rw[(uz B2).2 om];rfl
def exQ(u v:Nat):List Nat:=if v=0 then[]else if u%v=0 then dg B (u/v)else[]
def exE(u v:Nat):Int:=if v=0 then 1 else if u%v=0 then 0 else 4
theorem rE(a:List Nat)(f:Wd a)(c:a.length≤1099511627776):aT 134 [.l 1 (W a)] (.o 49 1 (W (dg B (nv B a)))):=by
 have:=sZ a c;rwa[EY B2 f]at this
def nG:=an @wi<|an @aI<|an @aW<|an @aO<|an @aQ<|an @fZ @di
theorem KH(a:List Nat)(i:Nat):(W a).set i (.i .u64 0)=W (a.set i 0):=ny a i 0
theorem kn_un(t c:Nat)(h:c=t+1):(if t<c then 1 else 0:Nat)=1:=au om
theorem kn_m1(t c:Nat)(h:c=t+1):(t+18446744073709551616-c)%18446744073709551616=18446744073709551615:=by
 rw[h,show t+18446744073709551616-(t+1)=18446744073709551615 from om]
theorem kn_d1(g d:Nat)(h:g=d+1):(g:Int)-1=(d:Int):=om
theorem wuN(n:Nat)(h:n<18446744073709551616):IntKind.wrap .u64 (n:Int)=(n:Int):=wu ⟨Int.natCast_nonneg _,om⟩
theorem Yu(a:List Nat)(i:Nat):(W a).set i (.i .u64 18446744073709551615)=W (a.set i 18446744073709551615):=ny a i 18446744073709551615
theorem wrapM:IntKind.wrap .u64 18446744073709551616=0:=dc
theorem jq(a b:Nat):((a:Int)+(b:Int)).toNat=a+b:=om
theorem yf(a b:Nat)(h:1≤b):((a:Int)+(b:Int)-1).toNat=a+(b-1):=om
theorem yg(a b:Nat)(h:2≤b):((a:Int)+(b:Int)-2).toNat=a+(b-2):=om
theorem zf(b:Nat):((b:Int)-1).toNat=b-1:=om
theorem JA(b:Nat):((b:Int)-2).toNat=b-2:=om
noncomputable def a176:AC:=gc Tryz.prog Tryz.f176
theorem Qg(a b:List Nat)(ha:Wd a)(hb:Wd b)(la:a.length≤1000000000)(h2:2≤b.length)(hab:b.length≤a.length)(htop:b.getD (b.length-1) 0≠0):
 aT 176 [.l 1 (W a),.l 1 (W b)] (.t [.l 1 (W (dg B (nv B a/nv B b))),.l 1 (W (dg B (nv B a%nv B b)))]):=by
 have hbt:=fV hb (b.length-1)
 obtain⟨n1,n2,n3⟩:=SY hb om htop
 have hlz:=EI (b.getD (b.length-1) 0) hbt
 have hs64:64-bl (b.getD (b.length-1) 0)≤64:=om
 have KI:=wz b ((64-bl (b.getD (b.length-1) 0):Nat):Int) hb om
 have Qh:=wz a ((64-bl (b.getD (b.length-1) 0):Nat):Int) ha om
 rw[Cb,ah om,aI]at KI Qh
 have hA:=eP ha
 have M:=EE (U:=nv B a) (y:=nv B b) (s:=64-bl (b.getD (b.length-1) 0))
 have Ce:=NL (s:=64-bl (b.getD (b.length-1) 0)) hab om hA n3
 have Y:nv B a*2^(64-bl (b.getD (b.length-1) 0))<B^(a.length+1):=by
  have h64:2^(64-bl (b.getD (b.length-1) 0))≤B:=gX (n:=2) dc hs64;rw[dO];exact eu ((Nat.mul_lt_mul_right (t_ _)).2 hA) (iZ _ h64)
 generalize 64-bl (b.getD (b.length-1) 0)=s at*
 obtain⟨n,hn⟩:∃n,n=b.length:=⟨_,rfl⟩
 obtain⟨m,hm⟩:∃m,m=a.length:=⟨_,rfl⟩
 obtain⟨f,hVs⟩:∃v,v=nv B b*2^s:=⟨_,rfl⟩
 obtain⟨u,hAe⟩:∃v,v=nv B a*2^s:=⟨_,rfl⟩
 rw[←hVs,←hn]at n1 n2
 rw[←hVs]at KI M Ce
 rw[←hAe]at Qh M Y Ce
 rw[←hm]at Y Ce
 rw[←hn]at Ce
 have hvl:dg B f=fl B n f:=(CX dc (.inr n1) n2).symm
 rw[hvl]at KI
 have hupl:=BK (by decide:2≤B) Y
 have MI:[dg B u,List.replicate (m+1-(dg B u).length) 0].flatten=fl B (m+1) u:=by
  rw[←Ym Y];simp
 have hcon:=E_ [dg B u,List.replicate (m+1-(dg B u).length) 0] sy (by rw[MI,bH];omega)
 rw[MI]at hcon
 have hlu:(fl B (m+1) u).length=m+1:=bH _ _
 have I:(fl B n f).length=n:=bH _ _
 have HY:((m:Int)+1-((dg B u).length:Int)).toNat=m+1-(dg B u).length:=om
 have hge:(0:Int)≤(m:Int)+1-((dg B u).length:Int):=om
 refine f_ aN a_ Tryz.func176 ?_
 have hQ1:((m:Int)+1-(n:Int)).toNat=m+1-n:=om
 have hQ0:(0:Int)≤(m:Int)+1-(n:Int):=om
 repeat first|(refine hK _ ?_;clear hK K)|simp only[Sv,↓reduceIte,Nat.reduceEqDiff]|((first|refine ay (fun K hK=>?_)|refine ax (fun K hK=>?_)|refine ak (fun K hK=>?_));refine iw (ai @zf (ai (Eq.symm hn) (ai @dH @nG))) ?_)
 refine qc _ _ (hlz) ?_ ?_
 ·exact OJ (ai @zf (ai (Eq.symm hn) (ai @dH @nG)))
 refine iw (ai @zf (ai (Eq.symm hn) (ai @dH @nG))) ?_
 repeat first|(refine hK _ ?_;clear hK K)|simp only[Sv,↓reduceIte,Nat.reduceEqDiff]|((first|refine ay (fun K hK=>?_)|refine ax (fun K hK=>?_)|refine ak (fun K hK=>?_));refine iw @nG ?_)
 refine qc _ _ (KI) ?_ ?_
 ·exact OJ @nG
 refine iw @nG ?_
 repeat first|(refine hK _ ?_;clear hK K)|simp only[Sv,↓reduceIte,Nat.reduceEqDiff]|((first|refine ay (fun K hK=>?_)|refine ax (fun K hK=>?_)|refine ak (fun K hK=>?_));refine iw @nG ?_)
 refine qc _ _ (Qh) ?_ ?_
 ·exact OJ @nG
 refine iw @nG ?_
 repeat first|(refine hK _ ?_;clear hK K)|simp only[Sv,↓reduceIte,Nat.reduceEqDiff]|((first|refine ay (fun K hK=>?_)|refine ax (fun K hK=>?_)|refine ak (fun K hK=>?_));refine iw (ai @EF<|ai @HY (ai (Eq.symm hm) @nG)) ?_)
 refine qc _ _ (hcon) ?_ ?_
 ·exact OJ (ai @EF<|ai @HY (ai (Eq.symm hm) @nG))
 refine iw (ai @EF<|ai @HY (ai (Eq.symm hm) @nG)) ?_
 try (refine hK _ ?_;clear hK K)
 refine aX (ai @EF<|ai @hQ1<|ai @hlu @nG) ?_
 have H:0<f:=eu (bg dc) n1
 refine aF [] Nat (fun i=>⟨[(6,.i .i64 (n:Int)),(7,.i .i64 (s:Int)),(8,.l 1 (W (fl B n f))),(12,.ow 1 0 (m+1)),(13,.ow 1 1 (m+1-n)),(14,.i .i64 ((i:Int)-1))],
  [(0,some ⟨49,1,W (uL u f m n i),true,false⟩),(1,some ⟨49,1,W (qL u f (m+1-n) i),true,false⟩)],2⟩)
  (fun i=>i≤m+1-n) (fun i=>i) (m+1-n) (aY _) (by exact oL) (by
  refine tV trivial ?_
  refine⟨om,?_,?_⟩
  ·rw[←Yo om Ce]
  ·unfold qL;rw[gW,jQ Ce];simp[fl]) ?_
 intro i hi Q' hQ he hr
 cases i with
 |zero=>
  have hu0:(uL u f m n 0).take n=fl B n (u%f):=by
   unfold uL;rw[Nat.pow_zero,aW,fl,uQ,RI (by rw[bH];exact aY _),jB (by rw[bH];exact aY _)]
  have hul:(uL u f m n 0).length=m+1:=by unfold uL;rw[bZ,bZ,bH,bH,nS];omega
  have hq0:qL u f (m+1-n) 0=fl B (m+1-n) (u/f):=by unfold qL;rw[Nat.pow_zero,aW];rfl
  have hRn:u%f<B^n:=oh (cu _ H) n2;have hQb:u/f<B^(m+1-n):=by
   refine(fP H).2 ?_;rw[bV];exact(fP (bg dc)).1 Ce
  have hsh:=Yf (fl B n (u%f)) (s:Int) (oN dc _ _) (by rw[bH];omega) om;rw[I9,ah om,aI,qj,bD hRn,M.2]at hsh;have hno:=sZ (fl B (m+1-n) (u/f)) (by rw[bH];omega);rw[xI (by decide:2≤B) hQb]at hno;try (refine hK _ ?_;clear hK K)
  refine aX @nG ?_;refine he _ _ ?_;rw[hq0,←M.1];try (refine hK _ ?_;clear hK K)
  exact jO (ai @hu0<|ai @mW<|ai @hul @nG)
 |succ j=>
  have hj:(((j+1:Nat):Int)-1)=(j:Int):=om;have J_:n≤1099511627776:=om;have hnm:n≤m+1-j:=om;have hjm:j+1+n≤m+1:=om;have hx:u/B^j%B<B:=cu _ dc;have hR:u/B^(j+1)%f<f:=cu _ H;have e0:u/B^j=u/B^j%B+B*(u/B^(j+1)):=by
   rw[dO,←lZ];have:=qo (u/B^j) B;omega
  obtain⟨s1,s2,s3,s4⟩:=zM (V:=u/B^(j+1)) H hx;rw[←e0]at s1 s2 s3;rw[Yp];have hUlt:u/B^(j+1)%f*B+u/B^j%B<f*B:=by
   have:=kF B (show u/B^(j+1)%f+1≤f from hR);rw[kQ,iV]at this;omega
  obtain⟨U,hU⟩:∃U,U=u/B^(j+1)%f*B+u/B^j%B:=⟨_,rfl⟩;rw[←hU]at s1 s3 s4 hUlt ⊢;have E:(fl B j u).length=j:=bH _ _;have F:(fl B n U).length=n:=bH _ _;have hUB:U<B^n*B:=eu hUlt (kF B (qC n2));have htB:U/B^n<B:=(fP (bg dc)).2 (by rw[bV];exact hUB);have G:U/B^n%B=U/B^n:=bD htB;obtain⟨k,hk⟩:∃k,n=k+2:=⟨n-2,om⟩;generalize hZ:List.replicate (m+1-(j+1)-n) 0=Z;have hZl:=congrArg List.length hZ;rw[nS]at hZl;have L:=xk (t:=U/B^n%B) (Z:=Z) E F;have w1:=AQ (t:=U/B^n%B) (Z:=Z) E F;have w2:=Gg (t:=U/B^n%B) (Z:=Z) E F (k:=n-1) om (i:=j+(n-1)) rfl;have w3:=Gg (t:=U/B^n%B) (Z:=Z) E F (k:=n-2) om (i:=j+(n-2)) rfl;have w4:=Gi (t:=U/B^n%B) (Z:=Z) E F;rw[Cc _ _ _ om]at w2 w3;have v1:=Cc (b:=B) n f (n-1) om;have v2:=Cc (b:=B) n f (n-2) om;have O:n-1=k+1:=om;have N:n-2=k:=om;rw[O]at w2 v1 n1;rw[N]at w3 v2;have ml:∀z:Nat,z%B<18446744073709551616:=fun z=>cu z dc
  have hv1:f/B^(k+1)<B:=(fP (bg dc)).2 (by rw[←Nat.pow_succ',show(k+1).succ=n from om];exact n2);have Yv:f/B^(k+1)%B=f/B^(k+1):=bD hv1;have q1:U/B^n%B≤f/B^(k+1)%B:=by
   rw[G,Yv,hk,dO,bV,←lZ];refine Nat.div_le_div_right ?_;exact qC ((fP dc).2 hUlt)
  have q2:0<f/B^(k+1)%B:=by
   rw[Yv];exact(rZ (bg dc)).2 (by rw[iV];exact n1)
  have gs:=Hy (U/B^n%B) (U/B^(k+1)%B) (U/B^k%B) (f/B^(k+1)%B) (f/B^k%B) q1 q2 (ml _) (ml _) (ml _) (ml _);have t1:(U/B^n%B*18446744073709551616+U/B^(k+1)%B)*18446744073709551616+U/B^k%B=U/B^k:=by
   rw[G,hk];exact Yj
  have t2:f/B^(k+1)%B*18446744073709551616+f/B^k%B=f/B^k:=SX (by rw[←hk];exact n2);rw[t1,t2]at gs;have hVk:B≤f/B^k:=(rZ (bg dc)).2 (by rw[←Nat.pow_succ'];exact n1);obtain⟨kg1,kg2⟩:=NK (bg (by decide:0<B):0<B^k) hUlt hVk;have gB:min 18446744073709551615 (U/B^k/(f/B^k))<18446744073709551616:=om;obtain⟨g,hg⟩:∃g,g=min 18446744073709551615 (U/B^k/(f/B^k)):=⟨_,rfl⟩;rw[←hg]at gs gB;have kg1':U/f≤g:=by rw[hg];exact kg1
  have kg2':g≤U/f+1:=by rw[hg];exact kg2
  have hj0:(0:Int)≤(j:Int):=om;repeat first|(refine hK _ ?_;clear hK K)|simp only[Sv,↓reduceIte,Nat.reduceEqDiff]|((first|refine ay (fun K hK=>?_)|refine ax (fun K hK=>?_)|refine ak (fun K hK=>?_));refine iw (ai @JA<|ai @zf<|ai @I<|ai @N<|ai @O<|ai @v2<|ai @v1<|ai @w3<|ai @w2<|ai @w1<|ai @dH<|ai @yg<|ai @yf<|ai @jq<|ai @L<|ai @hj0<|ai @hj @nG) ?_)
  refine qc _ _ (gs) ?_ ?_
  ·exact OJ (ai @JA<|ai @zf<|ai @I<|ai @N<|ai @O<|ai @v2<|ai @v1<|ai @w3<|ai @w2<|ai @w1<|ai @dH<|ai @yg<|ai @yf<|ai @jq<|ai @L<|ai @hj0<|ai @hj @nG)
  refine iw (ai @JA<|ai @zf<|ai @I<|ai @N<|ai @O<|ai @v2<|ai @v1<|ai @w3<|ai @w2<|ai @w1<|ai @dH<|ai @yg<|ai @yf<|ai @jq<|ai @L<|ai @hj0<|ai @hj @nG) ?_;have hvd:nv B (fl B n f)=f:=by rw[qj,bD n2]
  have T:=E5 (fl B n U) (fl B n f) g (oN dc _ _) (oN dc _ _) gB om om;rw[hvd,qj,F]at T;obtain⟨m1,m2⟩:=Yn (A:=U%B^n) (V:=f) (w:=g) (P:=B^n) (cu _ (bg dc));obtain⟨c,hc⟩:∃c,c=Ve (U%B^n) f g (B^n):=⟨_,rfl⟩;rw[←hc]at T m1 m2;obtain⟨o,ho⟩:∃o,o=U%B^n+B^n*c-f*g:=⟨_,rfl⟩;rw[←ho]at T m1 m2;have hcg:=SN n2 (cu U (bg dc)) m1 m2;obtain⟨ks1,ks2⟩:=Yi (cu U (bg dc)) (Nat.mod_add_div U (B^n)).symm n2 H kg1' kg2' m1 m2;have w5:=DK (t:=U/B^n%B) (Z:=Z) E F;have C:(fl B n o).length=n:=bH _ _;have Yw:=KF (A:=fl B n U) (R:=fl B n o) (Z:=Z) (t:=U/B^n%B) E (by rw[F,C]);have w6:=xk (t:=U/B^n%B) (Z:=Z) E C;have w7:=AQ (t:=U/B^n%B) (Z:=Z) E C;have w8:=fun t'=>Gj (t:=U/B^n%B) (Z:=Z) E C t'
  repeat first|(refine hK _ ?_;clear hK K)|simp only[Sv,↓reduceIte,Nat.reduceEqDiff]|((first|refine ay (fun K hK=>?_)|refine ax (fun K hK=>?_)|refine ak (fun K hK=>?_));refine iw (ai @qX<|ai @w5<|ai @mW<|ai @yO<|ai @L<|ai @jq<|ai @hj @nG) ?_)
  refine qc _ _ (T) ?_ ?_
  ·exact OJ (ai @qX<|ai @w5<|ai @mW<|ai @yO<|ai @L<|ai @jq<|ai @hj @nG)
  refine iw (ai @qX<|ai @w5<|ai @mW<|ai @yO<|ai @L<|ai @jq<|ai @hj @nG) ?_;repeat first|(refine hK _ ?_;clear hK K)|simp only[Sv,↓reduceIte,Nat.reduceEqDiff]|((first|refine ay (fun K hK=>?_)|refine ax (fun K hK=>?_)|refine ak (fun K hK=>?_));refine iw (ai @w1<|ai @dH<|ai @jq<|ai @L @nG) ?_)
  refine uG _ (F9 (U/B^n%B) c om) ?_;refine iw (ai @w1<|ai @dH<|ai @jq<|ai @L @nG) ?_;have htk:(fl B n o).take (m+1-j)=fl B n o:=jB om;have hql:=Yq (As:=u) (Vs:=f) (Q:=m+1-n) hi;have Uj:=fun d h=>Yr (As:=u) (Vs:=f) (d:=d) hi h s2
  rw[s1]at Uj;by_cases hcase:c≤U/B^n
  ·obtain⟨z1,z2,z3⟩:=ks1 hcase;have hun:(if U/B^n%B<c then 1 else 0:Nat)=0:=ah (by rw[G];omega);have Yx:(U/B^n%B+18446744073709551616-c)%18446744073709551616=0:=by rw[G,z2,qX]
   have hq2:=Uj g z1.symm;have hlow:=KG (As:=u) (Vs:=f) (m:=m) (n:=n) (j:=j) om o (by rw[s3,z3]);rw[hZ]at hlow;try (refine hK _ ?_;clear hK K)
   refine aX (ai @hq2<|ai @ny<|ai @hql<|ai @hlow<|ai @w8<|ai @KH<|ai @Yw<|ai @htk<|ai @mW<|ai @jq<|ai @w6<|ai @L<|ai @Yx<|ai @hun<|ai @hj @nG) ?_;refine hQ _ j om om ?_;exact lC
  ·obtain⟨z1,z2,z3⟩:=ks2 (Nat.lt_of_not_le hcase);have hun:(if U/B^n%B<c then 1 else 0:Nat)=1:=by rw[G];exact kn_un _ _ z2
   have Yy:(U/B^n%B+18446744073709551616-c)%18446744073709551616=18446744073709551615:=by rw[G];exact kn_m1 _ _ z2
   have hd1:((g:Nat):Int)-1=((U/f:Nat):Int):=kn_d1 _ _ z1;have hRB:U%f<B^n:=oh (cu _ H) n2;have had:=B_ (fl B n o) (fl B n f) (oN dc _ _) (oN dc _ _) (by rw[C];exact J_) (by rw[I];exact J_);rw[qj (b:=B) n o,bD m1,hvd,C,I,Nat.max_self,z3,Nat.add_div_right _ (bg dc),jQ hRB,jg (by decide:0<B) (show(U%f+B^n)%B^n=(U%f)%B^n by rw[Nat.add_mod_right])]at had;have w9:=xk (t:=18446744073709551615) (Z:=Z) E C;have w10:=Gi (t:=18446744073709551615) (Z:=Z) E C;have hwu:IntKind.wrap .u64 ((U/f:Nat):Int)=((U/f:Nat):Int):=wuN _ (cZ kg1' gB);have w14:=DK (t:=18446744073709551615) (Z:=Z) E C;have J:(fl B n (U%f)).length=n:=bH _ _;have Yz:=KF (A:=fl B n o) (R:=fl B n (U%f)) (Z:=Z) (t:=18446744073709551615) E (by rw[J,C]);have w11:=AQ (t:=18446744073709551615) (Z:=Z) E J;have w12:=xk (t:=18446744073709551615) (Z:=Z) E J;have w13:=fun t'=>Gj (t:=18446744073709551615) (Z:=Z) E J t'
   have htk2:(fl B n (U%f)).take (m+1-j)=fl B n (U%f):=jB (by rw[J];exact hnm);have hq2:=Uj (U/f) rfl;have hlow:=KG (As:=u) (Vs:=f) (m:=m) (n:=n) (j:=j) hjm (U%f) s3;rw[hZ]at hlow;try (refine hK _ ?_;clear hK K)
   refine pJ (ai @hq2<|ai @ny<|ai @hql<|ai @hlow<|ai @w13<|ai @KH<|ai @wrapM<|ai @w11<|ai @Yz<|ai @htk2<|ai @dH<|ai @w12<|ai @hwu<|ai @hd1<|ai @qX<|ai @w14<|ai @w10<|ai @w9<|ai @w8<|ai @Yu<|ai @Yw<|ai @htk<|ai @yO<|ai @mW<|ai @jq<|ai @w6<|ai @L<|ai @Yy<|ai @hun<|ai @hj @nG) ?_;refine hQ _ j (Nat.le_of_succ_le hi) (Nat.lt_succ_self j) ?_;exact lC
def zg:=an @wi<|an @aI<|an @aW<|an @aO<|an @aQ<|an @fZ<|an @di<|an @dR @dH
theorem wF(w:Nat)(c:w<18446744073709551616):aT 79 [.i .u64 (w:Int)] (.o 49 1 (W (dg B w))):=by
 have f:=Hr [w] (fun x a=>by rw[l_]at a;subst a;exact c) sy;rw[Qa]at f;refine f_ aN a_ Tryz.func79 ?_;exact jO (ai @W1<|ai @zH<|ai @bG @zg)
noncomputable def a175:AC:=gc Tryz.prog Tryz.f175
theorem JB(a:List Nat)(w:Nat)(g:Wd a)(c:0<w)(u:w<18446744073709551616)(m:a.length≤1099511627776):
 aT 175 [.l 1 (W a),.i .u64 (w:Int)] (.t [.l 1 (W (dg B (nv B a/w))),.i .u64 ((nv B a%w:Nat):Int),.i .i64 0]):=by
 have f:=sZ (fl B a.length (nv B a/w)) (by rw[bH];omega)
 rw[xI B2 (cZ (fE _ _) (eP g))]at f
 refine f_ aN a_ Tryz.func175 ?_
 have j:=E8 a w g c u m
 exact jO (ai @zH<|ai @bG @zg)
theorem H5(a b:List Nat)(Y:Wd a)(hb:Wd b)(N:a.length≤1000000000)(M:b.length≤1000000000):
 aT 159 [.l 1 (W a),.l 1 (W b)] (.t [.l 1 (W (qQ (nv B a) (nv B b))),.l 1 (W (qR (nv B a) (nv B b))),.i .i64 (qE (nv B b))]):=by
 have Q:=sZ a om
 have P:=sZ b om
 have ta:(tz a).length≤1000000000:=bK (r_ a) N
 have tb:(tz b).length≤1000000000:=bK (r_ b) M
 have g:=xJ Y
 have A:=xJ hb
 have L:nv B (tz a)=nv B a:=wX a
 have J:nv B (tz b)=nv B b:=wX b
 have ea:=Jh a
 have I:=Jh b
 rw[←L,←J]
 generalize tz a=x at*
 generalize tz b=y at*
 have U:=DC x y g A om om
 refine f_ aN a_ Tryz.func159 ?_
 by_cases c:(y.length:Int)=0
 ·have C:y=[]:=nz om;subst C;rw[show nv B []=0 from rfl,qQ_0,qR_0,qE_0];exact jO (ai @c<|ai @zH<|ai @bG @zg)
 ·have C:y≠[]:=fun h=>c (by rw[h];rfl)
  have htop:=yz (b:=B) I C;have m:0<nv B y:=eu (bg dc) htop;rw[qE_p m,qR_p m];by_cases z:nv B x<nv B y
  ·have f:(sg (nv B x) (nv B y)<0)=True:=by rw[SL];exact eq_true z
   have e1:qQ (nv B x) (nv B y)=[]:=by unfold qQ;rw[jQ z];rfl
   have e2:dg B (nv B x%nv B y)=x:=by rw[bD z,←EY B2 g,ea]
   rw[e1,e2];exact jO (ai @f<|ai @c<|ai @zH<|ai @bG @zg)
  ·have f:(sg (nv B x) (nv B y)<0)=False:=by rw[SL];exact eq_false z
   by_cases u:(y.length:Int)=1
   ·have G:=S9 (b:=y) om;have F:nv B y<18446744073709551616:=by have:=eP A;rw[show y.length=1 from om,Nat.pow_one]at this;exact this
    have hw:=JB x (nv B y) g m F om;have hm:=cu (nv B x) m;have O:=wF (nv B x%nv B y) om;have j:(Int.toNat 0)=0:=rfl;repeat first|(refine hK _ ?_;clear hK K)|simp only[Sv,↓reduceIte,Nat.reduceEqDiff]|((first|refine ay (fun K hK=>?_)|refine ax (fun K hK=>?_)|refine ak (fun K hK=>?_)|refine fM ?_|refine dE (by assumption) ?_|refine fO ?_|(apply dF;assumption)|(apply dG;assumption));simp(disch:=(first|omega|assumption)) only[S1,seval,-Int.reduceToNat,-List.reduceReplicate,aK.sb,aK.mut,aU,↓aJ,aV,aC,zg,dJ,dX,c,f,u,dH,j,G,qQ])
    simp(disch:=(first|omega|assumption)) only[dY,iF,iK,jv,fA,V.aP,bW,bY,S1,seval,-Int.reduceToNat,-List.reduceReplicate,aK.sb,aK.mut,aU,↓aJ,aV,aC,zg,dJ,dX,c,f,u,dH,j,G,qQ]
   ·have E:y.length≤x.length:=by
     have:=eP g;have Z:B^(y.length-1)<B^x.length:=om;have:=(BN (by decide:1<B)).1 Z;omega
    have T:=Qg x y g A om om E (by
     intro h;have H:=Ap y (y.length-1) om h;rw[show y.length-1+1=y.length from om,iH,I]at H;have:=r_ (y.take (y.length-1));rw[←H,jo]at this;omega)
    repeat first|(refine hK _ ?_;clear hK K)|simp only[Sv,↓reduceIte,Nat.reduceEqDiff]|((first|refine ay (fun K hK=>?_)|refine ax (fun K hK=>?_)|refine ak (fun K hK=>?_)|refine fM ?_|refine dE (by assumption) ?_|refine fO ?_|(apply dF;assumption)|(apply dG;assumption));simp(disch:=(first|omega|assumption)) only[S1,seval,-Int.reduceToNat,-List.reduceReplicate,aK.sb,aK.mut,aU,↓aJ,aV,aC,zg,dJ,dX,c,f,u,qQ])
    simp(disch:=(first|omega|assumption)) only[dY,iF,iK,jv,fA,V.aP,bW,bY,S1,seval,-Int.reduceToNat,-List.reduceReplicate,aK.sb,aK.mut,aU,↓aJ,aV,aC,zg,dJ,dX,c,f,u,qQ]
theorem YA(a b:List Nat)(j:Wd a)(hb:Wd b)(g:a.length≤1000000000)(f:b.length≤1000000000):
 aT 177 [.l 1 (W a),.l 1 (W b)] (.t [.l 1 (W (qR (nv B a) (nv B b))),.i .i64 (qE (nv B b))]):=by
 refine f_ aN a_ Tryz.func177 ?_
 have c:=H5 a b j hb g f
 exact jO (ai @zH<|ai @bG @zg)
theorem H6(a b:List Nat)(m:Wd a)(hb:Wd b)(j:a.length≤1000000000)(g:b.length≤1000000000):
 aT 132 [.l 1 (W a),.l 1 (W b)] (.t [.l 1 (W (exQ (nv B a) (nv B b))),.i .i64 (exE (nv B a) (nv B b))]):=by
 have hq:=H5 a b m hb j g
 generalize nv B a=u at*
 generalize nv B b=v at*
 refine f_ aN a_ Tryz.func132 ?_
 by_cases c:v=0
 ·rw[show exQ u v=[]from au c,show exE u v=1 from au c];subst c;exact jO (ai @qE_0<|ai @zH<|ai @bG @zg)
 ·have e:=qE_p (v:=v) om;by_cases f:u%v=0
  ·have hl:((qR u v).length:Int)=0:=Yt.2 (.inr f);rw[show exQ u v=qQ u v from(ah c).trans (au f),show exE u v=0 from(ah c).trans (au f)];exact jO (ai @hl<|ai @e<|ai @zH<|ai @bG @zg)
  ·have hl:(0:Int)<((qR u v).length:Int):=by
    have:¬((qR u v).length:Int)=0:=fun h=>by rcases Yt.1 h with y|y<;>omega
    omega
   rw[show exQ u v=[]from(ah c).trans (ah f),show exE u v=4 from(ah c).trans (ah f)];exact jO (ai @hl<|ai @e<|ai @zH<|ai @bG @zg)
