import Derived.Test.YtcgfgifjkkmmcaaGreatDoorU9
set_option linter.all false
set_option maxRecDepth 2000000
set_option maxHeartbeats 10000000
namespace Go.Proofs.YtcgfgifjkkmmcaaGreatDoor
open Go Go.RowKit Ab
def fK:=an @aH (an @fV (an @Nat.div_one (an @Nat.mul_one (an @aO (an @eY (an @oD (an @dF (an @jm (an @wi @nR)))))))))
theorem H2:2≤65536:=dc
theorem Ym(i:Nat):B^i=65536^(4*i):=by rw[Nat.pow_mul];rfl
theorem xm(a:Nat):(a:Int).tmod 65536=((a%65536:Nat):Int):=rfl
theorem xq(a:Nat):(a:Int).tdiv 65536=((a/65536:Nat):Int):=rfl
theorem uH(a:List Nat)(x:Nat):D a++[V.i .i64 (x:Int)]=D (a++[x]):=by simp[D]
theorem xw(a:List Nat)(i x:Nat):(D a).set i (.i .i64 (x:Int))=D (a.set i x):=by simp[D]
theorem OE(n:Nat):(List.replicate n [V.i .i64 0]).flatten=D (List.replicate n 0):=by
 induction n with
 |zero=>rfl
 |succ n ih=>rw[List.replicate_succ,List.flatten_cons,ih,List.replicate_succ];rfl
theorem mk_W5(n:Nat):(List.replicate n [V.i .u64 0]).flatten=W (List.replicate n 0):=by
 induction n with
 |zero=>rfl
 |succ n ih=>rw[List.replicate_succ,List.flatten_cons,ih,List.replicate_succ];rfl
theorem lW{a:List Nat}(ha:Wd a):(dg 65536 (nv B a)).length≤4*a.length:=xx H2 (by rw[←Ym];exact bY ha)
theorem zF{v m:Nat}(h:v<B^m):(dg 65536 v).length≤4*m:=xx H2 (by rw[←Ym];exact h)
theorem sW(a:List Nat)(ha:a.length≤9223372036854775807):ah Tryz.prog J0 97 [.l 1 (D a)] (.l 1 (D (tz a))):=by
 refine d_ aX bV Tryz.func97 ?_;refine aJ @fK ?_;refine aF [] Nat (fun n=>⟨[(0,.l 1 (D a)),(3,.i .i64 (n:Int))],[],0⟩) (fun n=>n≤a.length∧tz a=tz (a.take n)) (fun n=>n) a.length ⟨om,by rw[List.take_length]⟩ (by exact mF) (by
  simp(disch:=(first|omega|assumption)) only[Sl,Sa,Sw,↓reduceIte,Nat.reduceEqDiff,Nat.reduceLT,List.all_nil,List.all_cons,Nat.reduceBneDiff,Nat.reduceAdd,bne_iff_ne,ne_eq,reduceCtorEq,not_false_eq_true,not_true_eq_false,Bool.and_true,Bool.true_and,and_true,true_and,and_self,iV];try rfl) ?_
 intro n ⟨hn,ht⟩ Q' hQ he hr;by_cases h0:0<(n:Int)
 ·obtain⟨m,rfl⟩:∃m,n=m+1:=⟨n-1,om⟩;by_cases h1:((a.getD m 0:Nat):Int)=0
  ·refine aJ (ai @Nat.add_sub_cancel (ai @sZ (ai @wi (ai @nR (ai @h1 (ai @h0 @fK)))))) ?_;refine hQ _ m ⟨om,?_⟩ om ?_
   ·rw[ht];exact vJ a m om om
   ·refine nO trivial ?_;omega
  ·refine aJ (ai @Nat.add_sub_cancel (ai @sZ (ai @wi (ai @nR (ai @h1 (ai @h0 @fK)))))) ?_;refine he _ _ ?_;refine aJ (ai @OG @fK) ?_;have e:=yY a;rw[ht,Hq a m om om]at e;refine uI @fK ?_;rw[e,ht]
 ·refine aJ (ai @h0 @fK) ?_;refine he _ _ ?_;obtain rfl:n=0:=om;refine aJ (ai @OG @fK) ?_;refine uI (ai @ht @fK) ?_;rfl
theorem Dq(a:List Nat)(ha:Wd a)(la:a.length≤100000000000):ah Tryz.prog J0 98 [.l 1 (W a)] (.l 1 (D (fl 65536 (4*a.length) (nv B a)))):=by
 refine d_ aX bV Tryz.func98 ?_;refine aJ @fK ?_;refine aF [(3,3,1)] Nat (fun i=>⟨[(0,.l 1 (W a)),(3,.ow 1 0 (4*i)),(4,.i .i64 (i:Int))],[(0,some ⟨3,1,D (fl 65536 (4*i) (nv B (a.take i))),true,false⟩)],1⟩)
  (fun i=>i≤a.length) (fun i=>a.length-i) 0 (Nat.zero_le _) (by exact mF) (by
  refine nO trivial ?_
  exact⟨rfl,rfl⟩) ?_
 intro i hi Q' hQ he hr;by_cases h:(i:Int)<a.length
 ·refine aJ (ai @cZ (ai @h @fK)) ?_;refine aF [] Nat (fun k=>⟨[(0,.l 1 (W a)),(3,.ow 1 0 (4*i+k)),(4,.i .i64 (i:Int)),(5,.i .u64 ((a.getD i 0/65536^k:Nat):Int)),(6,.i .i64 (k:Int))],[(0,some ⟨3,1,D (fl 65536 (4*i) (nv B (a.take i))++fl 65536 k (a.getD i 0)),true,false⟩)],1⟩)
   (fun k=>k≤4) (fun k=>4-k) 0 (Nat.zero_le _) (by exact mF) (by
   refine nO trivial ?_
   exact⟨⟨rfl,sy,rfl⟩,by simp[fl]⟩) ?_
  intro k hk Q'' hQ' he' hr';by_cases h1:(k:Int)<4
  ·have hq:a.getD i 0/65536^k<18446744073709551616:=Nat.lt_of_le_of_lt (Nat.div_le_self _ _) (dA ha i);have hw:IntKind.u64.wrap ((a.getD i 0/65536^k/65536:Nat):Int)=((a.getD i 0/65536^k/65536:Nat):Int):=by
    generalize a.getD i 0/65536^k=q at hq ⊢;exact wu om
   refine aJ (ai @uH (ai @hw (ai @wi (ai @xq (ai @xm (ai @h1 @fK)))))) ?_;refine hQ' _ (k+1) om om ?_;refine nO trivial ?_;exact⟨⟨om,by rw[Nat.div_div_eq_div_mul,←Nat.pow_succ],rfl⟩,by rw[dO,List.append_assoc]⟩
  ·obtain rfl:k=4:=om;refine aJ (ai @h1 @fK) ?_;refine he' _ _ ?_;refine aJ (ai @wi @fK) ?_;refine hQ _ (i+1) om om ?_;refine nO trivial ?_;refine⟨⟨om,rfl⟩,?_⟩;rw[show 4*(i+1)=4*i+4 from om,zG,af,Ym];have hlt:=aZ (b:=B) dc ha i;rw[Ym]at hlt;rw[Nat.add_mul_div_left _ _ (Nat.pow_pos dc),Nat.div_eq_of_lt hlt,Nat.zero_add,ed (b:=65536) dc (n:=4*i) (v:=nv B (a.take i)+65536^(4*i)*a.getD i 0) (u:=nv B (a.take i)) (by rw[Nat.add_mul_mod_self_left])]
 ·obtain rfl:i=a.length:=om;refine aJ (ai @h @fK) ?_;refine he _ _ ?_;refine aJ @fK ?_;refine uI @fK ?_;rw[List.take_length]
theorem bT(a:List Nat)(ha:Wd a)(la:a.length≤100000000000):ah Tryz.prog J0 63 [.l 1 (W a)] (.l 1 (D (dg 65536 (nv B a)))):=by
 have h1:=Dq a ha la;have h2:=sW (fl 65536 (4*a.length) (nv B a)) (by rw[bg];omega);rw[qM H2 (by rw[←Ym];exact bY ha)]at h2;refine d_ aX bV Tryz.func63 ?_;exact jR @fK
theorem dR(a:List Nat)(i:Nat):ah Tryz.prog J0 130 [.l 1 (D a),.i .i64 i] (.i .i64 ((a.getD i 0:Nat):Int)):=by
 refine d_ aX bV Tryz.func130 ?_;by_cases h:(i:Int)<a.length
 ·refine aJ (ai @nR (ai @h @fK)) ?_;exact jX @fK
 ·refine aJ (ai @h @fK) ?_;refine uI (ai @iV @fK) ?_;rw[List.getD_eq_getElem?_getD,List.getElem?_eq_none om];rfl
theorem BP(a b:List Nat)(ha:Lt 65536 a)(hb:Lt 65536 b)(la:a.length≤1099511627776)(lb:b.length≤1099511627776):
 ah Tryz.prog J0 122 [.l 1 (D a),.l 1 (D b)] (.i .i64 (sg (nv 65536 a) (nv 65536 b))):=by
 have hda:=dR a
 have hdb:=dR b
 obtain⟨z,hz⟩:∃z,z=sg (nv 65536 a) (nv 65536 b):=⟨_,rfl⟩
 rw[←hz]
 refine d_ aX bV Tryz.func122 ?_
 generalize hm:max a.length b.length=m
 refine aJ (ai @wi (ai @hm (ai @mx @fK))) ?_
 refine aF [] Nat (fun i=>⟨[(0,.l 1 (D a)),(1,.l 1 (D b)),(5,.i .i64 ((i:Int)-1))],[],0⟩)
  (fun i=>i≤m∧∀j,i≤j→a.getD j 0=b.getD j 0) (fun i=>i) m ⟨Nat.le_refl _,fun j hj=>by rw[List.getD_eq_getElem?_getD,List.getD_eq_getElem?_getD,List.getElem?_eq_none om,List.getElem?_eq_none om]⟩ (by exact mF) (by
  simp(disch:=(first|omega|assumption)) only[Sl,Sa,Sw,↓reduceIte,Nat.reduceEqDiff,Nat.reduceLT,List.all_nil,List.all_cons,Nat.reduceBneDiff,Nat.reduceAdd,bne_iff_ne,ne_eq,reduceCtorEq,not_false_eq_true,not_true_eq_false,Bool.and_true,Bool.true_and,and_true,true_and,and_self,iV]
  try rfl) ?_
 intro i ⟨hi,hj⟩ Q' hQ he hr
 by_cases h:(0:Int)≤(i:Int)-1
 ·obtain⟨n,rfl⟩:∃n,i=n+1:=⟨i-1,om⟩;have e:((n+1:Nat):Int)-1=(n:Int):=om;have h:(0:Int)≤(n:Int):=om;simp only[e];have h1:=hda n;have h2:=hdb n;obtain⟨c1,c2⟩:=rF (B:=65536) (n+1) hj;rcases Nat.lt_trichotomy (a.getD n 0) (b.getD n 0)with k|k|k
  ·have c3:=c1.1 (Dt (b:=65536) dc ha hb n k);obtain rfl:z= -1:=by rw[hz];simp[sg,c3]
   generalize a.getD n 0=x at*
   generalize b.getD n 0=y at*
   have kI:(x:Int)<(y:Int):=om;refine qc (ai @kI (ai @h @fK)) ?_;refine hr _ ?_;exact jX @fK
  ·have hj':∀j,n≤j→a.getD j 0=b.getD j 0:=fun j h3=>by
    rcases Nat.lt_or_ge n j with h4|h4
    ·exact hj j h4
    ·obtain rfl:j=n:=om;exact k
   generalize a.getD n 0=x at*
   generalize b.getD n 0=y at*
   subst k;refine qc (ai @Int.lt_irrefl (ai @h @fK)) ?_;refine hQ _ n ⟨om,hj'⟩ om ?_;simp(disch:=(first|omega|assumption)) only[Sl,Sa,Sw,↓reduceIte,Nat.reduceEqDiff,Nat.reduceLT,List.all_nil,List.all_cons,Nat.reduceBneDiff,Nat.reduceAdd,bne_iff_ne,ne_eq,reduceCtorEq,not_false_eq_true,not_true_eq_false,Bool.and_true,Bool.true_and,and_true,true_and,and_self,iV];try omega
  ·have c3:=Dt (b:=65536) dc hb ha n k;have c4:¬nv 65536 a<nv 65536 b:=fun h=>by have:=c1.2 h;omega
   have c5:¬nv 65536 a=nv 65536 b:=fun h=>by have:=c2.2 h;omega
   obtain rfl:z=1:=by rw[hz];simp[sg,c4,c5]
   generalize a.getD n 0=x at*
   generalize b.getD n 0=y at*
   have kI:¬(x:Int)<(y:Int):=om;have kJ:(y:Int)<(x:Int):=om;refine qc (ai @kJ (ai @kI (ai @h @fK))) ?_;refine hr _ ?_;exact jX @fK
 ·obtain rfl:i=0:=om;have c2:=(rF (B:=65536) 0 hj).2.1 rfl;obtain rfl:z=0:=by rw[hz];simp[sg,c2]
  refine aJ (ai @h @fK) ?_;refine he _ _ ?_;refine aJ @fK ?_;exact jX @fK
end Go.Proofs.YtcgfgifjkkmmcaaGreatDoor
namespace Go.Proofs.YtcgfgifjkkmmcaaGreatDoor
open Go Go.RowKit Ab
def dS:=an @aH (an @fV (an @Nat.div_one (an @Nat.mul_one (an @aO (an @eY (an @oD (an @dF (an @jm (an @wi @nR)))))))))
theorem U4(l r:List Nat)(x n:Nat)(h:l.length=n):(l++x::r).getD n 0=x:=by
 rw[List.getD_eq_getElem?_getD,List.getElem?_append_right om,h,Nat.sub_self];rfl
theorem set_mid(l r:List Nat)(x y n:Nat)(h:l.length=n):(l++x::r).set n y=l++y::r:=by
 rw[List.set_append_right _ _ om,h,Nat.sub_self,List.set_cons_zero]
theorem EO(d:List Nat)(n:Nat)(hd:Lt 65536 d)(ld:d.length≤1099511627776)(ln:n≤100000000000):
 ah Tryz.prog J0 102 [.l 1 (D d),.i .i64 (n:Int)] (.o 31 1 (W (fl B n (nv 65536 d)))):=by
 have hdi:=dR d
 have hn0:(0:Int)≤(n:Int):=om
 obtain⟨v,hv⟩:∃v,v=nv 65536 d:=⟨_,rfl⟩
 rw[←hv]
 refine d_ aX bV Tryz.func102 ?_
 refine aJ (ai @mk_W5 (ai @hn0 @dS)) ?_
 refine aF [] Nat (fun i=>⟨[(0,.l 1 (D d)),(1,.i .i64 (n:Int)),(5,.ow 1 0 n),(6,.i .i64 (i:Int))],[(0,some ⟨31,1,W (fl B i v++List.replicate (n-i) 0),true,false⟩)],1⟩)
  (fun i=>i≤n) (fun i=>n-i) 0 (Nat.zero_le _) (by exact mF) (by
  exact jO) ?_
 intro i hi Q' hQ he hr
 by_cases h:(i:Int)<(n:Int)
 ·obtain⟨w,hw⟩:∃w,w=v/B^i%B:=⟨_,rfl⟩;have hwl:w<18446744073709551616:=by rw[hw];exact Nat.mod_lt _ B0
  obtain⟨r,hr0⟩:∃r,r=List.replicate (n-(i+1)) 0:=⟨_,rfl⟩;have hrl:r.length=n-(i+1):=by rw[hr0,List.length_replicate]
  have fli:(fl B i v).length=i:=bg _ _;have er:List.replicate (n-i) 0=0::r:=by rw[hr0,show n-i=(n-(i+1))+1 from om,List.replicate_succ]
  refine aJ (ai @h @dS) ?_;refine aF [] Nat (fun k=>⟨[(0,.l 1 (D d)),(1,.i .i64 (n:Int)),(5,.ow 1 0 n),(6,.i .i64 (i:Int)),(7,.i .i64 ((k:Int)-1))],[(0,some ⟨31,1,W (fl B i v++(w/65536^k)::r),true,false⟩)],1⟩)
   (fun k=>k≤4) (fun k=>k) 4 om (by exact mF) (by
   refine nO trivial ?_
   rw[er,Nat.div_eq_of_lt hwl]
   repeat' first|rfl|omega|(simp only[List.length_append,List.length_cons,List.length_nil];done)|apply And.intro) ?_
  intro k hk Q'' hQ' he' hr';have lenk:∀x,(fl B i v++x::r).length=n:=fun x=>by rw[List.length_append,fli,List.length_cons,hrl];omega
  by_cases h1:(0:Int)≤(k:Int)-1
  ·obtain⟨m,rfl⟩:∃m,k=m+1:=⟨k-1,om⟩;have e:((m+1:Nat):Int)-1=(m:Int):=om;have h1:(0:Int)≤(m:Int):=om;have dig:d.getD (4*i+m) 0=w/65536^m%65536:=by
    rw[jI (b:=65536) dc hd,hw,←hv,Nat.pow_add,←Nat.div_div_eq_div_mul,←Ym];rw[show B=65536^m*65536^(4-m)from by rw[←Nat.pow_add,show m+(4-m)=4 from om];rfl,Nat.mod_mul_right_div_self];rw[show 65536^(4-m)=65536*65536^(3-m)from by rw[Nat.mul_comm,←Nat.pow_succ];congr 1;omega,Nat.mod_mul_right_mod]
   have hx:w/65536^m<18446744073709551616:=Nat.lt_of_le_of_lt (Nat.div_le_self _ _) hwl;have hdm:=hdi (4*i+m);rw[dig]at hdm;have ei:(4:Int)*(i:Int)+(m:Int)=((4*i+m:Nat):Int):=om;have w4:IntKind.i64.wrap (4*(i:Int))=4*(i:Int):=wi om;have gm:=U4 (fl B i v) r (w/65536^(m+1)) i fli;have sm:=fun y=>set_mid (fl B i v) r (w/65536^(m+1)) y i fli
   have lk:=lenk (w/65536^(m+1));have ex:w/65536^(m+1)=w/65536^m/65536:=by rw[Nat.pow_succ,Nat.div_div_eq_div_mul]
   obtain⟨x,hx0⟩:∃x,x=w/65536^m:=⟨_,rfl⟩;rw[←hx0]at hdm hx ex;rw[ex]at gm sm lk ⊢;simp only[e];have wd:IntKind.u64.wrap ((x%65536:Nat):Int)=((x%65536:Nat):Int):=wu om;have wm:IntKind.u64.wrap (((x/65536:Nat):Int)*65536)=((x/65536:Nat):Int)*65536:=wu om;have ws:IntKind.u64.wrap (((x/65536:Nat):Int)*65536+((x%65536:Nat):Int))=(x:Int):=by rw[wu om];omega
   repeat first|(refine hK _ ?_;clear hK K)|simp only[Sv,↓reduceIte,Nat.reduceEqDiff]|((first|refine ay (fun K hK=>?_)|refine aB (fun K hK=>?_)|refine au (fun K hK=>?_)|refine kL ?_|refine iL (by assumption) ?_|refine kM ?_|(apply iM;assumption)|(apply iP;assumption));simp(disch:=(first|omega|assumption)) only[S1,seval,-Int.reduceToNat,-List.reduceReplicate,a_.sb,a_.mut,bZ,↓Bool.false_eq_true,beq_self_eq_true,ite_self,dS,h1,cZ,gm,lk,w4,ei,wd,wm,ws,iQ,sm])
   refine hQ' _ m om om ?_;simp(disch:=(first|omega|assumption)) only[Sl,Sa,Sw,↓reduceIte,Nat.reduceEqDiff,Nat.reduceLT,List.all_nil,List.all_cons,Nat.reduceBneDiff,Nat.reduceAdd,bne_iff_ne,ne_eq,reduceCtorEq,not_false_eq_true,not_true_eq_false,Bool.and_true,Bool.true_and,and_true,true_and,and_self,iV];try rw[hx0]
   repeat' first|rfl|omega|(simp only[List.length_append,List.length_cons,List.length_nil];done)|apply And.intro
  ·obtain rfl:k=0:=om;refine aJ (ai @h1 @dS) ?_;refine he' _ _ ?_;refine aJ @dS ?_;refine hQ _ (i+1) om om ?_;refine nO trivial ?_;rw[dO,←hw,List.append_assoc];refine⟨om,?_⟩;(first|rw[Nat.pow_zero,Nat.div_one,hr0]|rw[hr0]);rfl
 ·obtain rfl:i=n:=om;refine aJ (ai @h @dS) ?_;refine he _ _ ?_;refine aJ @dS ?_;refine uI @dS ?_;rw[Nat.sub_self];simp
theorem OH{d:List Nat}(hd:Lt 65536 d):fl B (((tz d).length+3)/4) (nv 65536 d)=dg B (nv 65536 d):=by
 have h0:nv 65536 (tz d)=nv 65536 d:=nT d;have ht:=BQ d;have hl:=oN hd;have h1:=bY hl;rw[h0]at h1;generalize tz d=t at*
 generalize hi:(t.length+3)/4=i;refine Dp B2 ?_ ?_
 ·rcases Nat.eq_zero_or_pos i with h|h
  ·exact .inl h
  ·refine .inr ?_;have h3:t≠[]:=fun h4=>by rw[h4]at hi;simp at hi;omega
   have h4:=qg (b:=65536) ht h3;rw[h0]at h4;rw[Ym];exact Nat.le_trans (Nat.pow_le_pow_right dc om) h4
 ·rw[Ym];exact Nat.lt_of_lt_of_le h1 (Nat.pow_le_pow_right dc om)
theorem eX(d:List Nat)(hd:Lt 65536 d)(ld:d.length≤100000000000):ah Tryz.prog J0 66 [.l 1 (D d)] (.o 31 1 (W (dg B (nv 65536 d)))):=by
 have h1:=sW d om;have hl:=kZ d;have h2:=EO (tz d) (((tz d).length+3)/4) (oN hd) om om;rw[nT,OH hd]at h2;have e1:(((tz d).length:Int)+3).tdiv 4=((((tz d).length+3)/4:Nat):Int):=by
  rw[show((tz d).length:Int)+3=(((tz d).length+3:Nat):Int)from rfl];rfl
 have w1:IntKind.i64.wrap ((((tz d).length+3)/4:Nat):Int)=((((tz d).length+3)/4:Nat):Int):=wi om;generalize tz d=t at*
 refine d_ aX bV Tryz.func66 ?_;exact jR (ai @w1 (ai @e1 @dS))
theorem Hr(a:List Nat)(ha:Wd a)(la:a.length≤10000000000):ah Tryz.prog J0 86 [.l 1 (W a)] (.o 31 1 (W (dg B (nv B a)))):=by
 have h1:=bT a ha om;have hl:=lW ha;have h2:=eX (dg 65536 (nv B a)) (mQ dc _) om;rw[jS H2]at h2;refine d_ aX bV Tryz.func86 ?_;exact jR @dS
theorem dgH_z{v:Nat}:((((dg 65536 v).length:Nat):Int)=0)=(v=0):=propext ⟨fun h=>(rE H2).1 (List.eq_nil_of_length_eq_zero om),fun h=>by rw[h];rfl⟩
theorem uJ(a:List Nat)(ha:Wd a)(la:a.length≤10000000000):ah Tryz.prog J0 30 [.l 1 (W a)] (.b (decide (nv B a=0))):=by
 have h1:=bT a ha om;refine d_ aX bV Tryz.func30 ?_;exact jR (ai @dgH_z @dS)
theorem uK(n:Nat)(hn:n<9223372036854775808):ah Tryz.prog J0 32 [.i .i64 (n:Int)] (.o 31 1 (W (dg B n))):=by
 obtain⟨a,ha⟩:∃a,a=n/65536:=⟨_,rfl⟩;obtain⟨b,hb⟩:∃b,b=a/65536:=⟨_,rfl⟩;obtain⟨c,hc⟩:∃c,c=b/65536:=⟨_,rfl⟩;have h1:=eX [n%65536,a%65536,b%65536,c] (by
  intro x hx;simp only[List.mem_cons,List.not_mem_nil,or_false]at hx;omega) sy
 rw[show nv 65536 [n%65536,a%65536,b%65536,c]=n from by simp only[nv];omega]at h1;have e:D [n%65536,a%65536,b%65536,c]=[.i .i64 ((n%65536:Nat):Int),.i .i64 ((a%65536:Nat):Int),.i .i64 ((b%65536:Nat):Int),.i .i64 (c:Int)]:=rfl;have wa:IntKind.i64.wrap (((n/65536:Nat)):Int)=(a:Int):=by rw[←ha];exact wi om
 have wb:IntKind.i64.wrap (((a/65536:Nat)):Int)=(b:Int):=by rw[←hb];exact wi om
 have wc:IntKind.i64.wrap (((b/65536:Nat)):Int)=(c:Int):=by rw[←hc];exact wi om
 rw[e]at h1;refine d_ aX bV Tryz.func32 ?_;exact jR (ai @wc (ai @wb (ai @wa (ai @xq (ai @xm @dS)))))
theorem Ht(a b:List Nat)(ha:Wd a)(hb:Wd b)(la:a.length≤10000000000)(lb:b.length≤10000000000):ah Tryz.prog J0 88 [.l 1 (W a),.l 1 (W b)] (.i .i64 (sg (nv B a) (nv B b))):=by
 have h1:=bT a ha om;have h2:=bT b hb om;have hla:=lW ha;have hlb:=lW hb;have h3:=BP (dg 65536 (nv B a)) (dg 65536 (nv B b)) (mQ dc _) (mQ dc _) om om;rw[jS H2,jS H2]at h3;refine d_ aX bV Tryz.func88 ?_;exact jR @dS
theorem oO(w:Nat)(hw:w<18446744073709551616):ah Tryz.prog J0 100 [.i .u64 (w:Int)] (.o 31 1 (W (dg B w))):=by
 rcases Nat.eq_zero_or_pos w with h|h
 ·subst h;rw[nP];refine d_ aX bV Tryz.func100 ?_;refine aJ @dS ?_;exact jX @dS
 ·rw[ZI h hw];have h0:¬(w:Int)=0:=om;refine d_ aX bV Tryz.func100 ?_;refine aJ (ai @h0 @dS) ?_;exact jX (ai @W1 @dS)
theorem U5{a:List Nat}{m:Nat}(ha:Wd a)(h:tz a=tz (a.take (m+1)))(hm:m<a.length)(h1:a.getD m 0≠0):
 a.getD 0 0=nv B a%B∧(decide (((m+1:Nat):Int)=1))=decide (nv B a<18446744073709551616):=by
 have h0:=jI (b:=B) dc ha 0
 rw[Nat.pow_zero,Nat.div_one]at h0
 refine⟨h0,?_⟩
 have e:nv B a=nv B (a.take (m+1)):=by rw[←nT,h,nT]
 have ht:tz (a.take (m+1))=a.take (m+1):=by
  have h2:=Hq a m hm h1;have h3:=yY (a.take (m+1));rw[h2,List.take_take,Nat.min_self]at h3;exact h3.symm
 have hne:a.take (m+1)≠[]:=fun h=>by have:=congrArg List.length h;rw[List.length_take,List.length_nil]at this;omega
 have h4:=qg (b:=B) ht hne
 rw[List.length_take,Nat.min_eq_left om,Nat.add_sub_cancel,←e]at h4
 have h5:=aZ (b:=B) dc ha (m+1)
 rw[←e]at h5
 rcases Nat.eq_zero_or_pos m with h6|h6
 ·subst h6;rw[decide_eq_true om,decide_eq_true];exact h5
 ·rw[decide_eq_false om,decide_eq_false];have h7:B^1≤B^m:=Nat.pow_le_pow_right dc h6;rw[Nat.pow_one]at h7;have:B=18446744073709551616:=rfl;omega
theorem BR(a:List Nat)(ha:Wd a)(la:a.length≤10000000000):ah Tryz.prog J0 127 [.l 1 (W a)] (.t [.i .u64 ((nv B a%B:Nat):Int),.b (decide (nv B a<18446744073709551616))]):=by
 obtain⟨x,hx⟩:∃x,x=nv B a%B:=⟨_,rfl⟩;obtain⟨y,hy⟩:∃y,y=decide (nv B a<18446744073709551616):=⟨_,rfl⟩;rw[←hx,←hy];refine d_ aX bV Tryz.func127 ?_;refine aJ @dS ?_;refine aF [] Nat (fun n=>⟨[(0,.l 1 (W a)),(4,.i .i64 (n:Int))],[],0⟩) (fun n=>n≤a.length∧tz a=tz (a.take n)) (fun n=>n) a.length ⟨om,by rw[List.take_length]⟩ (by exact mF) (by
  simp(disch:=(first|omega|assumption)) only[Sl,Sa,Sw,↓reduceIte,Nat.reduceEqDiff,Nat.reduceLT,List.all_nil,List.all_cons,Nat.reduceBneDiff,Nat.reduceAdd,bne_iff_ne,ne_eq,reduceCtorEq,not_false_eq_true,not_true_eq_false,Bool.and_true,Bool.true_and,and_true,true_and,and_self,iV];try rfl) ?_
 intro n ⟨hn,ht⟩ Q' hQ he hr;by_cases h0:0<(n:Int)
 ·obtain⟨m,rfl⟩:∃m,n=m+1:=⟨n-1,om⟩;have hml:m<a.length:=om;by_cases h1:a.getD m 0=0
  ·have h1I:((a.getD m 0:Nat):Int)=0:=om;refine aJ (ai @Nat.add_sub_cancel (ai @sZ (ai @wi (ai @cZ (ai @h1I (ai @h0 @dS)))))) ?_;refine hQ _ m ⟨om,?_⟩ om ?_
   ·rw[ht];exact vJ a m om om
   ·refine nO trivial ?_;omega
  ·have h1I:¬((a.getD m 0:Nat):Int)=0:=om;obtain⟨o1,o2⟩:=U5 ha ht hml h1;rw[←hx]at o1;rw[←hy]at o2;have m0:¬((m+1:Nat):Int)=0:=om;refine aJ (ai @Nat.add_sub_cancel (ai @sZ (ai @wi (ai @cZ (ai @h1I (ai @h0 @dS)))))) ?_;refine he _ _ ?_;refine aJ (ai @o2 (ai @o1 (ai @cZ (ai @Int.toNat_zero (ai @m0 @dS))))) ?_;exact jX @dS
 ·obtain rfl:n=0:=om;have e0:nv B a=0:=by rw[←nT,ht];rfl
  rw[e0]at hx hy;obtain rfl:x=0:=hx;obtain rfl:y=true:=hy;refine aJ (ai @h0 @dS) ?_;refine he _ _ ?_;refine aJ @dS ?_;exact jX @dS
theorem OJ(x m:Nat):((((x/2^m:Nat)):Int)=0)=(x<2^m):=propext ⟨fun h=>by
 rcases Nat.lt_or_ge x (2^m)with h1|h1
 ·exact h1
 ·have:=(Nat.le_div_iff_mul_le (Nat.pow_pos (by decide:0<2))).2 (by rw[Nat.one_mul];exact h1:1*2^m≤x);omega,fun h=>by rw[Nat.div_eq_of_lt h];rfl⟩
theorem mV(a b:List Nat)(m:Nat)(hm:m≤64)(ha:Wd a)(hb:Wd b)(la:a.length≤10000000000)(lb:b.length≤10000000000):
 ah Tryz.prog J0 99 [.l 1 (W a),.l 1 (W b),.i .i64 (m:Int)] (.t [.i .u64 ((nv B a%B:Nat):Int),.i .u64 ((nv B b%B:Nat):Int),.b (decide (nv B a<2^m∧nv B b<2^m))]):=by
 have h1:=BR a ha la
 have h2:=BR b hb lb
 have hP:2^m≤18446744073709551616:=by have:2^m≤2^64:=Nat.pow_le_pow_right dc hm;omega
 have hB:B=18446744073709551616:=rfl
 have sx:=fun x=>jT x m hm
 have sz:=fun x=>OJ x m
 have m0:(0:Int)≤(m:Int):=om
 generalize nv B a=u at*
 generalize nv B b=v at*
 generalize 2^m=P at*
 by_cases c1:u<18446744073709551616
 ·rw[decide_eq_true c1]at h1;rw[Nat.mod_eq_of_lt (by omega:u<B)]at h1 ⊢;by_cases c2:v<18446744073709551616
  ·rw[decide_eq_true c2]at h2;rw[Nat.mod_eq_of_lt (by omega:v<B)]at h2 ⊢;by_cases c3:u<P
   ·by_cases c4:v<P
    ·rw[decide_eq_true ⟨c3,c4⟩];refine d_ aX bV Tryz.func99 ?_;refine qc (ai @c4 (ai @c3 (ai @sz (ai @sx (ai @aO (ai @m0 @dS)))))) ?_;exact jX @dS
    ·rw[decide_eq_false (fun h=>c4 h.2)];refine d_ aX bV Tryz.func99 ?_;refine qc (ai @c4 (ai @c3 (ai @sz (ai @sx (ai @aO (ai @m0 @dS)))))) ?_;exact jX @dS
   ·rw[decide_eq_false (fun h=>c3 h.1)];refine d_ aX bV Tryz.func99 ?_;refine qc (ai @c3 (ai @sz (ai @sx (ai @aO (ai @m0 @dS))))) ?_;exact jX @dS
  ·rw[decide_eq_false c2]at h2;rw[decide_eq_false (fun h=>c2 om)];refine d_ aX bV Tryz.func99 ?_;refine qc @dS ?_;exact jX @dS
 ·rw[decide_eq_false c1]at h1;rw[decide_eq_false (fun h=>c1 om)];refine d_ aX bV Tryz.func99 ?_;refine qc @dS ?_;exact jX @dS
end Go.Proofs.YtcgfgifjkkmmcaaGreatDoor
namespace Go.Proofs.YtcgfgifjkkmmcaaGreatDoor
open Go Go.RowKit Ab
def fA:=an @aH (an @fV (an @Nat.div_one (an @Nat.mul_one (an @aO (an @eY (an @oD (an @dF (an @jm (an @wi @nR)))))))))
def Du(x y:List Nat):Nat:=if(nv 65536 x+nv 65536 y)/65536^(max x.length y.length)=0 then max x.length y.length else max x.length y.length+1
theorem Hw(x y:List Nat)(hx:Lt 65536 x)(hy:Lt 65536 y)(lx:x.length≤1000000000000)(ly:y.length≤1000000000000):
 ah Tryz.prog J0 121 [.l 1 (D x),.l 1 (D y)] (.o 3 1 (D (fl 65536 (Du x y) (nv 65536 x+nv 65536 y)))):=by
 refine d_ aX bV Tryz.func121 ?_
 generalize hm:max x.length y.length=m
 have han:Du x y=if(nv 65536 x+nv 65536 y)/65536^m=0 then m else m+1:=by unfold Du;rw[hm]
 refine aJ @fA ?_
 refine aF [(5,3,1)] Nat (fun i=>⟨[(0,.l 1 (D x)),(1,.l 1 (D y)),(5,.ow 1 0 i),(6,.i .i64 (((nv 65536 (x.take i)+nv 65536 (y.take i))/65536^i:Nat):Int)),(7,.i .i64 (i:Int))],[(0,some ⟨3,1,D (fl 65536 i (nv 65536 (x.take i)+nv 65536 (y.take i))),true,false⟩)],1⟩)
  (fun i=>i≤m+1∧(i=m+1→(nv 65536 x+nv 65536 y)/65536^m≠0)) (fun i=>m+1-i) 0 ⟨om,om⟩ (by exact mF) (by
  refine nO trivial ?_
  exact⟨⟨by simp[nv],rfl⟩,rfl⟩) ?_
 intro i ⟨hi,hi2⟩ Q' hQ he hr
 generalize hc:(nv 65536 (x.take i)+nv 65536 (y.take i))/65536^i=c
 have hcB:c≤1:=by
  have h1:=aZ (b:=65536) dc hx i;have h2:=aZ (b:=65536) dc hy i;rw[←hc];exact Nat.le_of_lt_succ ((Nat.div_lt_iff_lt_mul (Nat.pow_pos dc)).2 om)
 have gx:=lC hx (by decide:0<65536) i
 have gy:=lC hy (by decide:0<65536) i
 obtain⟨n,hn⟩:∃n,n=x.getD i 0+y.getD i 0+c:=⟨_,rfl⟩
 have hs:(c:Int)+(((x.getD i 0:Nat):Int)+((y.getD i 0:Nat):Int))=(n:Int):=om
 obtain⟨s1,s2,s3⟩:=rH (b:=65536) (P:=65536^i) (A:=nv 65536 (x.take i)) (Y:=nv 65536 (y.take i)) (x:=x.getD i 0) (y:=y.getD i 0) (Nat.pow_pos dc) dc
 rw[hc,←hn]at s1 s3
 have full:m≤i→c=(nv 65536 x+nv 65536 y)/65536^i:=fun h=>by
  rw[←hc,List.take_of_length_le om,List.take_of_length_le om]
 have small:nv 65536 x+nv 65536 y<65536^(m+1):=by
  have h1:=bY hx;have h2:=bY hy;have h3:65536^x.length≤65536^m:=Nat.pow_le_pow_right dc om;have h4:65536^y.length≤65536^m:=Nat.pow_le_pow_right dc om;rw[Nat.pow_succ];omega
 by_cases h1:(i:Int)<x.length
 ·refine aJ (ai @h1 @fA) ?_;try simp only[Sv,↓reduceIte,Nat.reduceEqDiff]
  refine ay (fun K hK=>?_);refine dM @fA ?_;refine pY @fA (dR x i) ?_;refine dM @fA ?_;refine pY @fA (dR y i) ?_;refine dM (ai @hs (ai @wi @fA)) ?_;refine hK _ ?_;clear hK K;try (refine hK _ ?_;clear hK K)
  refine aJ (ai @uH (ai @wi (ai @xq (ai @xm @fA)))) ?_;refine hQ _ (i+1) ⟨om,om⟩ om ?_;refine nO trivial ?_;refine⟨⟨?_,om⟩,?_⟩
  ·rw[af,af,Nat.pow_succ,s3]
  ·rw[af,af,dO,ed dc s2,s1]
 ·by_cases h2:(i:Int)<y.length
  ·try (refine hK _ ?_;clear hK K)
   refine aJ (ai @h2 (ai @h1 @fA)) ?_;try simp only[Sv,↓reduceIte,Nat.reduceEqDiff]
   refine ay (fun K hK=>?_);refine dM @fA ?_;refine pY @fA (dR x i) ?_;refine dM @fA ?_;refine pY @fA (dR y i) ?_;refine dM (ai @hs (ai @wi @fA)) ?_;refine hK _ ?_;clear hK K;try (refine hK _ ?_;clear hK K)
   refine aJ (ai @uH (ai @wi (ai @xq (ai @xm @fA)))) ?_;refine hQ _ (i+1) ⟨om,om⟩ om ?_;refine nO trivial ?_;refine⟨⟨?_,om⟩,?_⟩
   ·rw[af,af,Nat.pow_succ,s3]
   ·rw[af,af,dO,ed dc s2,s1]
  ·by_cases h3:(0:Int)<c
   ·have hne:i≠m+1:=fun h=>by
     have:=full om;rw[h,Nat.div_eq_of_lt small]at this;omega
    try (refine hK _ ?_;clear hK K)
    refine aJ (ai @h3 (ai @h2 (ai @h1 @fA))) ?_;try simp only[Sv,↓reduceIte,Nat.reduceEqDiff]
    refine ay (fun K hK=>?_);refine dM @fA ?_;refine pY @fA (dR x i) ?_;refine dM @fA ?_;refine pY @fA (dR y i) ?_;refine dM (ai @hs (ai @wi @fA)) ?_;refine hK _ ?_;clear hK K;try (refine hK _ ?_;clear hK K)
    refine aJ (ai @uH (ai @wi (ai @xq (ai @xm @fA)))) ?_;refine hQ _ (i+1) ⟨om,fun h=>by have:=full om;rw[show m=i from om,←this];omega⟩ om ?_;refine nO trivial ?_;refine⟨⟨?_,om⟩,?_⟩
    ·rw[af,af,Nat.pow_succ,s3]
    ·rw[af,af,dO,ed dc s2,s1]
   ·try (refine hK _ ?_;clear hK K)
    refine aJ (ai @h3 (ai @h2 (ai @h1 @fA))) ?_;refine he _ _ ?_;try (refine hK _ ?_;clear hK K)
    refine aJ @fA ?_;have e:fl 65536 i (nv 65536 (x.take i)+nv 65536 (y.take i))=fl 65536 (Du x y) (nv 65536 x+nv 65536 y):=by
     rw[List.take_of_length_le om,List.take_of_length_le om,han];have h4:=full om;congr 1;split
     ·rename_i h5;rcases Nat.lt_or_ge m i with h6|h6
      ·exact absurd h5 (hi2 om)
      ·omega
     ·rename_i h5;rcases Nat.lt_or_ge m i with h6|h6
      ·omega
      ·exfalso;apply h5;rw[show m=i from om,←h4];omega
    exact jX (ai @e @fA)
theorem EP(x y:List Nat)(hx:Lt 65536 x)(hy:Lt 65536 y)(lx:x.length≤1000000000000):
 ah Tryz.prog J0 123 [.l 1 (D x),.l 1 (D y)] (.o 3 1 (D (fl 65536 x.length (nv 65536 x+65536^x.length-nv 65536 (y.take x.length))))):=by
 refine d_ aX bV Tryz.func123 ?_
 refine aJ @fA ?_
 refine aF [(5,3,1)] Nat (fun i=>⟨[(0,.l 1 (D x)),(1,.l 1 (D y)),(5,.ow 1 0 i),(6,.i .i64 ((if nv 65536 (x.take i)<nv 65536 (y.take i)then 1 else 0:Nat):Int)),(7,.i .i64 (i:Int))],[(0,some ⟨3,1,D (fl 65536 i (nv 65536 (x.take i)+65536^i-nv 65536 (y.take i))),true,false⟩)],1⟩)
  (fun i=>i≤x.length) (fun i=>x.length-i) 0 om (by exact mF) (by
  refine nO trivial ?_
  exact⟨⟨by simp[nv],rfl⟩,rfl⟩) ?_
 intro i hi Q' hQ he hr
 have gx:=lC hx (by decide:0<65536) i
 have gy:=lC hy (by decide:0<65536) i
 have st:=ER (b:=65536) (P:=65536^i) (Nat.pow_pos dc) (aZ (b:=65536) dc hx i) (aZ (b:=65536) dc hy i) gx gy
 obtain⟨c,hc⟩:∃c,c=(if nv 65536 (x.take i)<nv 65536 (y.take i)then 1 else 0:Nat):=⟨_,rfl⟩
 rw[←hc]at st
 obtain⟨s1,s2,s3⟩:=st
 have hc1:c≤1:=by rw[hc];split<;>omega
 have e:nv 65536 (x.take (i+1))+65536^(i+1)-nv 65536 (y.take (i+1))=nv 65536 (x.take i)+65536^i*x.getD i 0+65536^i*65536-(nv 65536 (y.take i)+65536^i*y.getD i 0):=by rw[af,af,Nat.pow_succ]
 have nxt:fl 65536 (i+1) (nv 65536 (x.take (i+1))+65536^(i+1)-nv 65536 (y.take (i+1)))=fl 65536 i (nv 65536 (x.take i)+65536^i-nv 65536 (y.take i))++[(x.getD i 0+65536-(y.getD i 0+c))%65536]:=by
  rw[e,dO,ed dc s2,s1]
 simp only[←hc]
 have d1:=dR x i
 have d2:=dR y i
 by_cases h:(i:Int)<x.length
 ·by_cases h2:((x.getD i 0:Nat):Int)-((y.getD i 0:Nat):Int)-(c:Int)<0
  ·obtain⟨d,hd⟩:∃d:Nat,d=x.getD i 0+65536-(y.getD i 0+c):=⟨_,rfl⟩;have hd2:((x.getD i 0:Nat):Int)-((y.getD i 0:Nat):Int)-(c:Int)+65536=(d:Int):=om;refine qc (ai @uH (ai @hd2 (ai @wi (ai @h2 (ai @h @fA))))) ?_;refine hQ _ (i+1) om om ?_;refine nO trivial ?_;refine⟨⟨?_,om⟩,?_⟩
   ·rw[af,af];simp only[s3];split<;>omega
   ·rw[nxt];congr 3;omega
  ·obtain⟨d,hd⟩:∃d:Nat,d=x.getD i 0-(y.getD i 0+c):=⟨_,rfl⟩;have hd2:((x.getD i 0:Nat):Int)-((y.getD i 0:Nat):Int)-(c:Int)=(d:Int):=om;have h3:¬(d:Int)<0:=om;refine qc (ai @uH (ai @hd2 (ai @wi (ai @h3 (ai @h2 (ai @h @fA)))))) ?_;refine hQ _ (i+1) om om ?_;refine nO trivial ?_;refine⟨⟨?_,om⟩,?_⟩
   ·rw[af,af];simp only[s3];split<;>omega
   ·rw[nxt];congr 3;omega
 ·obtain rfl:i=x.length:=om;refine aJ (ai @h @fA) ?_;refine he _ _ ?_;refine aJ @fA ?_;refine uI @fA ?_;rw[List.take_length]
end Go.Proofs.YtcgfgifjkkmmcaaGreatDoor
namespace Go.Proofs.YtcgfgifjkkmmcaaGreatDoor
open Go Go.RowKit Ab
def nU:=an @aH (an @fV (an @Nat.div_one (an @Nat.mul_one (an @aO (an @eY (an @oD (an @dF (an @jm (an @wi @nR)))))))))
theorem OL(x y:List Nat):Du x y≤max x.length y.length+1:=by unfold Du;split<;>omega
theorem OM{x y:List Nat}(kx:Lt 65536 x)(ky:Lt 65536 y):nv 65536 (fl 65536 (Du x y) (nv 65536 x+nv 65536 y))=nv 65536 x+nv 65536 y:=by
 rw[mW,Nat.mod_eq_of_lt];unfold Du;have h1:=bY kx;have h2:=bY ky;have h3:65536^x.length≤65536^max x.length y.length:=Nat.pow_le_pow_right dc om;have h4:65536^y.length≤65536^max x.length y.length:=Nat.pow_le_pow_right dc om;split
 ·rename_i h;rcases Nat.lt_or_ge (nv 65536 x+nv 65536 y) (65536^max x.length y.length)with h5|h5
  ·exact h5
  ·have:=(Nat.le_div_iff_mul_le (Nat.pow_pos (by decide:0<65536))).2 (by rw[Nat.one_mul];exact h5:1*65536^max x.length y.length≤_);omega
 ·rw[Nat.pow_succ];omega
theorem OO{x y:List Nat}(hx:Lt 65536 x)(h:nv 65536 y≤nv 65536 x)(t:tz y=y):nv 65536 (fl 65536 x.length (nv 65536 x+65536^x.length-nv 65536 (y.take x.length)))=nv 65536 x-nv 65536 y:=by
 have h1:=bY hx;have hl:y.length≤x.length:=by
  rcases Nat.eq_zero_or_pos y.length with h0|h0
  ·omega
  ·have h2:=qg (b:=65536) t (fun h=>by rw[h]at h0;simp at h0);have h3:65536^(y.length-1)<65536^x.length:=om;have:=(Nat.pow_lt_pow_iff_right (by decide:1<65536)).1 h3;omega
 rw[mW,List.take_of_length_le hl,show nv 65536 x+65536^x.length-nv 65536 y=(nv 65536 x-nv 65536 y)+65536^x.length from om,Nat.add_mod_right,Nat.mod_eq_of_lt om]
theorem BU(a b:List Nat)(ha:Wd a)(hb:Wd b)(la:a.length≤1000000000)(lb:b.length≤1000000000):ah Tryz.prog J0 87 [.l 1 (W a),.l 1 (W b)] (.o 31 1 (W (dg B (nv B a+nv B b)))):=by
 have ho:=mV a b 63 dc ha hb om om;have d1:=bT a ha om;have d2:=bT b hb om;have l1:=lW ha;have l2:=lW hb;have e1:=jS H2 (nv B a);have e2:=jS H2 (nv B b);have k1:=mQ (b:=65536) dc (nv B a);have k2:=mQ (b:=65536) dc (nv B b);generalize dg 65536 (nv B a)=x at*
 generalize dg 65536 (nv B b)=y at*
 generalize nv B a=u at*
 generalize nv B b=v at*
 have hB:B=18446744073709551616:=rfl;have hal:=OL x y;have hp:=(Hw x y k1 k2 om om).frozen;have hn:=eX (fl 65536 (Du x y) (nv 65536 x+nv 65536 y)) (lI dc _ _) (by rw[bg];omega);rw[OM k1 k2,e1,e2]at hn;rw[e1,e2]at hp;by_cases h:u<9223372036854775808∧v<9223372036854775808
 ·rw[decide_eq_true (show u<2^63∧v<2^63 from h),Nat.mod_eq_of_lt (by omega:u<B),Nat.mod_eq_of_lt (by omega:v<B)]at ho;have hof:=oO (u+v) om;have w1:IntKind.u64.wrap ((u:Int)+(v:Int))=((u+v:Nat):Int):=by rw[wu om];rfl
  refine d_ aX bV Tryz.func87 ?_;exact jR (ai @w1 @nU)
 ·rw[decide_eq_false (show¬(u<2^63∧v<2^63)from h)]at ho;refine d_ aX bV Tryz.func87 ?_;exact jR @nU
theorem BV(a b:List Nat)(ha:Wd a)(hb:Wd b)(la:a.length≤1000000000)(lb:b.length≤1000000000)(hle:nv B b≤nv B a):ah Tryz.prog J0 89 [.l 1 (W a),.l 1 (W b)] (.o 31 1 (W (dg B (nv B a-nv B b)))):=by
 have ho:=mV a b 63 dc ha hb om om;have d1:=bT a ha om;have d2:=bT b hb om;have l1:=lW ha;have l2:=lW hb;have e1:=jS H2 (nv B a);have e2:=jS H2 (nv B b);have t2:=zH (b:=65536) (nv B b);have k1:=mQ (b:=65536) dc (nv B a);have k2:=mQ (b:=65536) dc (nv B b);generalize dg 65536 (nv B a)=x at*
 generalize dg 65536 (nv B b)=y at*
 generalize nv B a=u at*
 generalize nv B b=v at*
 have hB:B=18446744073709551616:=rfl;have hp:=(EP x y k1 k2 om).frozen;have hn:=eX (fl 65536 x.length (nv 65536 x+65536^x.length-nv 65536 (y.take x.length))) (lI dc _ _) (by rw[bg];omega);rw[OO k1 om t2,e1,e2]at hn;rw[e1]at hp;by_cases h:u<9223372036854775808∧v<9223372036854775808
 ·rw[decide_eq_true (show u<2^63∧v<2^63 from h),Nat.mod_eq_of_lt (by omega:u<B),Nat.mod_eq_of_lt (by omega:v<B)]at ho;have hof:=oO (u-v) om;have w1:IntKind.u64.wrap ((u:Int)-(v:Int))=((u-v:Nat):Int):=by rw[wu om];omega
  refine d_ aX bV Tryz.func89 ?_;exact jR (ai @w1 @nU)
 ·rw[decide_eq_false (show¬(u<2^63∧v<2^63)from h)]at ho;refine d_ aX bV Tryz.func89 ?_;exact jR @nU
theorem LV{s x y c:Nat}(hs:s<65536)(hx:x<65536)(hy:y<65536)(hc:c<65536):c+(s+x*y)<4294967296:=by
 have h1:x*y≤65535*65535:=Nat.mul_le_mul om om;omega
theorem ES(x y:List Nat)(hx:Lt 65536 x)(hy:Lt 65536 y)(lx:x.length≤10000000000)(ly:y.length≤10000000000):
 ah Tryz.prog J0 124 [.l 1 (D x),.l 1 (D y)] (.o 3 1 (D (fl 65536 (x.length+y.length) (nv 65536 x*nv 65536 y)))):=by
 obtain⟨p,hp⟩:∃p,p=x.length:=⟨_,rfl⟩
 obtain⟨q,hq⟩:∃q,q=y.length:=⟨_,rfl⟩
 obtain⟨n,hn⟩:∃n,n=p+q:=⟨_,rfl⟩
 have hnI:(p:Int)+(q:Int)=(n:Int):=om
 have hn0:(0:Int)≤(n:Int):=om
 obtain⟨T,hT⟩:∃T,T=nv 65536 x*nv 65536 y:=⟨_,rfl⟩
 rw[←hp,←hq,←hn,←hT]
 refine d_ aX bV Tryz.func124 ?_
 refine aJ (ai @OE (ai @hnI (ai (Eq.symm hq) (ai (Eq.symm hp) @nU)))) ?_
 refine aF [] (Nat×List Nat) (fun s=>⟨[(0,.l 1 (D x)),(1,.l 1 (D y)),(5,.ow 1 0 n),(6,.i .i64 (s.1:Int))],
  [(0,some ⟨3,1,D s.2,true,false⟩)],1⟩)
  (fun s=>s.1≤p∧s.2.length=n∧nv 65536 s.2=nv 65536 (x.take s.1)*nv 65536 y∧Lt 65536 s.2∧∀j,s.1+q≤j→s.2.getD j 0=0) (fun s=>p-s.1) (0,List.replicate n 0)
  ⟨Nat.zero_le _,sy,by rw[qh,List.take_zero,show nv 65536 []=0 from rfl,Nat.zero_mul],uM dc,fun j hj=>by simp only[List.getD_eq_getElem?_getD,List.getElem?_replicate];split<;>simp⟩ (by exact mF) (by
  exact jO) ?_
 rintro⟨i,S⟩ ⟨hi,lS,vS,wS,zS⟩ Q' hQ he hr
 simp only[]at hi lS vS wS zS ⊢
 by_cases hil:(i:Int)<(p:Int)
 ·have hxi:=lC hx dc i;refine aJ (ai (Eq.symm hq) (ai (Eq.symm hp) (ai @hil @nU))) ?_;refine aF [] (Nat×Nat×List Nat) (fun s=>⟨[(0,.l 1 (D x)),(1,.l 1 (D y)),(5,.ow 1 0 n),(6,.i .i64 (i:Int)),(7,.i .i64 (s.2.1:Int)),(8,.i .i64 (s.1:Int))],
   [(0,some ⟨3,1,D s.2.2,true,false⟩)],1⟩)
   (fun s=>s.1≤q∧s.2.2.length=n∧s.2.1<65536∧nv 65536 s.2.2+65536^(i+s.1)*s.2.1=nv 65536 (x.take i)*nv 65536 y+65536^i*(x.getD i 0*nv 65536 (y.take s.1))∧Lt 65536 s.2.2∧∀j,i+q≤j→s.2.2.getD j 0=0) (fun s=>q-s.1) (0,0,S)
   ⟨Nat.zero_le _,lS,by simp only;omega,by simp only[List.take_zero,show nv 65536 []=0 from rfl,Nat.mul_zero,Nat.add_zero];exact vS,wS,zS⟩ (by exact mF) (by
   exact jO) ?_
  rintro⟨k,c,U⟩ ⟨hk,lU,hc,vU,wU,zU⟩ Q'' hQ' he' hr';simp only[]at hk lU hc vU wU zU ⊢;by_cases hkl:(k:Int)<(q:Int)
  ·have hyk:=lC hy dc k;have hUk:=lC wU dc (i+k);have hb:=LV hUk hxi hyk hc;have htk:=dP (b:=65536) y k om;obtain⟨z,hz⟩:∃z,z=x.getD i 0*y.getD k 0:=⟨_,rfl⟩;have hzI:((x.getD i 0:Nat):Int)*((y.getD k 0:Nat):Int)=(z:Int):=by rw[hz,Int.natCast_mul]
   rw[←hz]at hb;obtain⟨m,hm⟩:∃m,m=c+(U.getD (i+k) 0+z):=⟨_,rfl⟩;have hmI:(c:Int)+(((U.getD (i+k) 0:Nat):Int)+(z:Int))=(m:Int):=om;have hst:=rJ (b:=65536) U (i+k) (m%65536) om;have tpq:((i:Int)+(k:Int)).toNat=i+k:=om;refine aJ (ai @xq (ai @xm (ai @xw (ai @hmI (ai @hzI (ai @lU (ai @tpq (ai (Eq.symm hq) (ai (Eq.symm hp) (ai @hkl @nU)))))))))) ?_;refine hQ' _ (k+1,m/65536,U.set (i+k) (m%65536)) ⟨by simp only;omega,by simp only[List.length_set];exact lU,by simp only;omega,?_,qi wU _ _ (Nat.mod_lt _ dc),fun j hj=>?_⟩ (by simp only;omega) ?_
   ·simp only[];have e:65536^i*(x.getD i 0*(65536^k*y.getD k 0))=65536^(i+k)*z:=by rw[hz,Nat.pow_add,Nat.mul_assoc,Nat.mul_left_comm (x.getD i 0)]
    have e2:65536^(i+(k+1))*(m/65536)+65536^(i+k)*(m%65536)=65536^(i+k)*m:=by
     rw[←Nat.add_assoc,Nat.pow_succ,Nat.mul_assoc,←Nat.mul_add,Nat.div_add_mod]
    rw[htk,Nat.mul_add,Nat.mul_add,e];have e3:65536^(i+k)*m=65536^(i+k)*c+65536^(i+k)*U.getD (i+k) 0+65536^(i+k)*z:=by rw[hm,Nat.mul_add,Nat.mul_add,Nat.add_assoc]
    omega
   ·simp only[]at hj ⊢;rw[getD_set_ne _ _ _ _ om];exact zU j hj
   ·exact jO
  ·obtain rfl:k=q:=om;rw[show y.take k=y from by rw[hq,List.take_length]]at vU;have hst:=rJ (b:=65536) U (i+k) c om;rw[zU (i+k) om,Nat.mul_zero,Nat.add_zero]at hst;have tpq:((i:Int)+(k:Int)).toNat=i+k:=om;refine aJ (ai (Eq.symm hq) (ai (Eq.symm hp) (ai @hkl @nU))) ?_;refine he' _ _ ?_;refine aJ (ai @xw (ai @lU (ai @tpq (ai (Eq.symm hq) (ai (Eq.symm hp) @nU))))) ?_;refine hQ _ (i+1,U.set (i+k) c) ⟨by simp only;omega,by simp only[List.length_set];exact lU,?_,qi wU _ _ hc,fun j hj=>?_⟩ (by simp only;omega) ?_
   ·simp only[];rw[hst,vU,dP (b:=65536) x i om,Nat.add_mul,Nat.mul_assoc]
   ·simp only[]at hj ⊢;rw[getD_set_ne _ _ _ _ om];exact zU j om
   ·exact jO
 ·obtain rfl:i=p:=om;rw[show x.take i=x from by rw[hp,List.take_length],←hT]at vS;have e:S=fl 65536 n T:=by rw[←vS,←lS];exact(vK wS).symm
  refine aJ (ai (Eq.symm hq) (ai (Eq.symm hp) (ai @hil @nU))) ?_;refine he _ _ ?_;refine aJ @nU ?_;exact jX (ai @e @nU)
theorem xA(a b:List Nat)(ha:Wd a)(hb:Wd b)(la:a.length≤1000000000)(lb:b.length≤1000000000):ah Tryz.prog J0 90 [.l 1 (W a),.l 1 (W b)] (.o 31 1 (W (dg B (nv B a*nv B b)))):=by
 have ho:=mV a b 32 dc ha hb om om;have d1:=bT a ha om;have d2:=bT b hb om;have l1:=lW ha;have l2:=lW hb;have e1:=jS H2 (nv B a);have e2:=jS H2 (nv B b);have k1:=mQ (b:=65536) dc (nv B a);have k2:=mQ (b:=65536) dc (nv B b);generalize dg 65536 (nv B a)=x at*
 generalize dg 65536 (nv B b)=y at*
 generalize nv B a=u at*
 generalize nv B b=v at*
 have hB:B=18446744073709551616:=rfl;have hp:=(ES x y k1 k2 om om).frozen;have hn:=eX (fl 65536 (x.length+y.length) (nv 65536 x*nv 65536 y)) (lI dc _ _) (by rw[bg];omega);rw[mW,Nat.mod_eq_of_lt (by rw[Nat.pow_add];exact Nat.mul_lt_mul_of_lt_of_lt (bY k1) (bY k2)),e1,e2]at hn;rw[e1,e2]at hp;by_cases h:u<4294967296∧v<4294967296
 ·rw[decide_eq_true (show u<2^32∧v<2^32 from h),Nat.mod_eq_of_lt (by omega:u<B),Nat.mod_eq_of_lt (by omega:v<B)]at ho;have hlt:u*v<18446744073709551616:=Nat.mul_lt_mul_of_lt_of_lt h.1 h.2;have hof:=oO (u*v) hlt;have w1:IntKind.u64.wrap ((u:Int)*(v:Int))=((u*v:Nat):Int):=by rw[←Int.natCast_mul,wu om]
  refine d_ aX bV Tryz.func90 ?_;exact jR (ai @w1 @nU)
 ·rw[decide_eq_false (show¬(u<2^32∧v<2^32)from h)]at ho;refine d_ aX bV Tryz.func90 ?_;exact jR @nU
