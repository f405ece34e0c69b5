import Derived.Test.YtcgfgifjkkmmcaaGreatDoorFA
import Derived.Test.YtcgfgifjkkmmcaaGreatDoorU16
set_option linter.all false
set_option maxRecDepth 2000000
set_option maxHeartbeats 10000000
namespace Go.Proofs.YtcgfgifjkkmmcaaGreatDoor
open Go Go.RowKit Ab
def gV:=an @aH (an @fV (an @Nat.div_one (an @Nat.mul_one (an @aO (an @eY (an @oD (an @dF (an @jm (an @wi (an @nR (an @lX (an @Bool.false_and @dh))))))))))))
theorem nV(s:Bool)(a:List Nat)(ha:Wd a)(la:a.length≤1000000000):ah Tryz.prog J0 50 [.b s,.l 1 (W a)] (zN (zv s a)):=by
 have h1:=(Hr a ha om).frozen;have e:=zN_I s (nv B a);unfold zv;rw[e];generalize nv B a=n at*
 refine ja aX bV Tryz.func50 [.c 4 true 2] ?_;cases s
 ·have U6:=h1;exact vM @gV
 ·by_cases h:0<n
  ·have e:decide (0<n)=true:=decide_eq_true h;rw[e];exact vM (ai @h (ai @uN @gV))
  ·have e:decide (0<n)=false:=decide_eq_false h;rw[e];exact vM (ai @h (ai @uN @gV))
theorem U7(s:Bool){n m:Nat}(h:n<B^m)(hm:m≤1000000000):ah Tryz.prog J0 50 [.b s,.l 1 (W (dg B n))] (zN (zI s n)):=by
 have:=nV s (dg B n) (az _) (Nat.le_trans (bC h) hm);rwa[zv,aS]at this
theorem yZ(n:Int)(h1: -9223372036854775808<n)(h2:n<9223372036854775808):ah Tryz.prog J0 29 [.i .i64 n] (zN n):=by
 have hw:=(uK n.natAbs om).frozen;have hm:=U7 (decide (n<0)) (n:=n.natAbs) (m:=1) (by rw[Nat.pow_one];show _<18446744073709551616;omega) dc;rw[Dv]at hm;by_cases h:n<0
 ·have ez:zN n= .g [.b true,.l 1 (W (dg B n.natAbs))]:=by show V.g [.b (decide (n<0)),_]=_;rw[decide_eq_true h]
  rw[ez]at hm ⊢;rw[decide_eq_true h]at hm;have e: -n=(n.natAbs:Int):=om;have w1:IntKind.i64.wrap (0-n)=(n.natAbs:Int):=by rw[wi om];omega
  refine ja aX bV Tryz.func29 [.c 2 true 2] ?_;exact vM (ai @w1 (ai @h @gV))
 ·have ez:zN n= .g [.b false,.l 1 (W (dg B n.natAbs))]:=by show V.g [.b (decide (n<0)),_]=_;rw[decide_eq_false h]
  rw[ez]at hm ⊢;rw[decide_eq_false h]at hm;obtain⟨k,rfl⟩:∃k:Nat,n=(k:Int):=⟨n.natAbs,om⟩;simp only[Int.natAbs_natCast]at hw hm ⊢;refine ja aX bV Tryz.func29 [.c 2 true 2] ?_;exact vM (ai @h @gV)
theorem LW(s:Bool)(a:List Nat)(ha:Wd a)(la:a.length≤1000000000):ah Tryz.prog J0 125 [zL s a] (zN (-(zv s a))):=by
 have h1:=nV (!s) a ha la;rw[show zv (!s) a= -(zv s a)from by unfold zv zI;cases s<;>simp]at h1;refine ja aX bV Tryz.func125 [.c 2 true 2] ?_;exact vM @gV
theorem OQ(s:Bool)(u v:Nat)(h:v≤u):zI s (u-v)=zI s u+zI (!s) v:=by
 unfold zI;cases s<;>simp<;>omega
theorem Yn(u v:Nat):((0:Int)≤sg u v)=(v≤u):=by
 unfold sg;split
 ·rename_i h;exact propext ⟨fun h'=>absurd h' dc,fun h'=>absurd h' om⟩
 ·rename_i h;split<;>exact propext ⟨fun _=>om,fun _=>dc⟩
theorem uO(s t:Bool)(a b:List Nat)(m:Nat)(hm:m≤100000000)(ha:Wd a)(hb:Wd b)(la:a.length≤m)(lb:b.length≤m):ah Tryz.prog J0 52 [zL s a,zL t b] (zN (zv s a+zv t b)):=by
 have l1:=fO ha la;have l2:=fO hb lb;have p1:=(BU a b ha hb om om).frozen;have p2:=Ht a b ha hb om om;have p3:=fun h=>(BV a b ha hb om om h).frozen
 have p4:=fun h=>(BV b a hb ha om om h).frozen
 have p5:=U7 s (zJ l1 l2) om;have p6:=U7 s (Nat.lt_of_le_of_lt (Nat.sub_le (nv B a) (nv B b)) l1) om;have p7:=U7 t (Nat.lt_of_le_of_lt (Nat.sub_le (nv B b) (nv B a)) l2) om;have hs:=Yn (nv B a) (nv B b);have z1:=JY s t (nv B a) (nv B b);have z2:=OQ s (nv B a) (nv B b);have z3:=OQ t (nv B b) (nv B a);unfold zv;generalize nv B a=u at*
 generalize nv B b=v at*
 by_cases h:s=t
 ·subst h;have hb':(s==s)=true:=by cases s<;>rfl
  rw[z1.1 rfl]at p5;refine ja aX bV Tryz.func52 [.c 4 true 2] ?_;exact vM (ai @hb' @gV)
 ·have hb':(s==t)=false:=by cases s<;>cases t<;>first|rfl|exact absurd rfl h
  by_cases h2:v≤u
  ·have q:=p3 h2;have hst:(!s)=t:=by cases s<;>cases t<;>first|rfl|exact absurd rfl h
   rw[z2 h2,hst]at p6;refine ja aX bV Tryz.func52 [.c 4 true 2] ?_;exact vM (ai @h2 (ai @hs (ai @hb' @gV)))
  ·have q:=p4 om;have hst:(!t)=s:=by cases s<;>cases t<;>first|rfl|exact absurd rfl h
   rw[z3 om,hst,Int.add_comm]at p7;refine ja aX bV Tryz.func52 [.c 4 true 2] ?_;exact vM (ai @h2 (ai @hs (ai @hb' @gV)))
theorem Hy(s t:Bool)(a b:List Nat)(m:Nat)(hm:m≤100000000)(ha:Wd a)(hb:Wd b)(la:a.length≤m)(lb:b.length≤m):ah Tryz.prog J0 92 [zL s a,zL t b] (zN (zv s a-zv t b)):=by
 have h1:=LW t b hb om;have h2:=uO s (decide (-(zv t b)<0)) a (dg B (-(zv t b)).natAbs) m hm ha (az _) la (by rw[Int.natAbs_neg,HY];exact bC (fO hb lb));rw[dJ,←Int.sub_eq_add_neg]at h2;refine ja aX bV Tryz.func92 [.c 4 true 2] ?_;exact vM @gV
theorem mX(s t:Bool)(a b:List Nat)(m:Nat)(hm:m≤100000000)(ha:Wd a)(hb:Wd b)(la:a.length≤m)(lb:b.length≤m):ah Tryz.prog J0 53 [zL s a,zL t b] (zN (zv s a*zv t b)):=by
 have h1:=(xA a b ha hb om om).frozen;have pP:nv B a*nv B b<B^(m+m):=by rw[Nat.pow_add];exact Nat.mul_lt_mul_of_lt_of_lt (fO ha la) (fO hb lb)
 have h2:=U7 (!(s==t)) pP om;rw[U8]at h2;refine ja aX bV Tryz.func53 [.c 4 true 2] ?_;repeat first|(refine hK _ ?_;clear hK K)|simp only[Sv,↓reduceIte,Nat.reduceEqDiff]|((first|refine ay (fun K hK=>?_)|refine aB (fun K hK=>?_)|refine au (fun K hK=>?_)|refine kL ?_|refine iL (by assumption) ?_|refine kM ?_|(apply iM;assumption)|(apply iP;assumption));simp(disch:=(first|omega|assumption)) only[S1,seval,-Int.reduceToNat,-List.reduceReplicate,a_.sb,a_.mut,bZ,↓Bool.false_eq_true,beq_self_eq_true,ite_self,gV,zv])
 simp(disch:=(first|omega|assumption)) only[xB,rO,oP,ET,EU,zK,EW,EX,rP,zM,zO,oQ,mY,fM,iW,jb,lY,iC,V.aQ,and_true,true_and,S1,seval,-Int.reduceToNat,-List.reduceReplicate,a_.sb,a_.mut,bZ,↓Bool.false_eq_true,beq_self_eq_true,ite_self,gV,zv]
theorem haddZ{x y:Int}{m:Nat}(hx:x.natAbs<B^m)(hy:y.natAbs<B^m)(hm:m≤100000000):ah Tryz.prog J0 52 [zN x,zN y] (zN (x+y)):=by
 have:=uO (decide (x<0)) (decide (y<0)) (dg B x.natAbs) (dg B y.natAbs) m hm (az _) (az _) (bC hx) (bC hy);rwa[dJ,dJ]at this
theorem EY(a b:List Nat)(la:a.length≤9223372036854775807)(lb:b.length≤9223372036854775807):
 ah Tryz.prog J0 93 [.l 1 (W a),.l 1 (W b)] (.b (decide (a=b))):=by
 refine d_ aX bV Tryz.func93 ?_
 by_cases h:(a.length:Int)=(b.length:Int)
 ·refine aJ (ai @h @gV) ?_;refine aF [] Nat (fun i=>⟨[(0,.l 1 (W a)),(1,.l 1 (W b)),(5,.i .i64 (i:Int))],[],0⟩) (fun i=>i≤a.length∧∀j,j<i→a.getD j 0=b.getD j 0) (fun i=>a.length-i) 0 ⟨om,om⟩ (by exact mF) (by
   refine nO trivial ?_;rfl) ?_
  intro i ⟨hi,hj⟩ Q' hQ he hr;by_cases h1:(i:Int)<a.length
  ·refine aJ (ai @h1 @gV) ?_;by_cases h2:((a.getD i 0:Nat):Int)=((b.getD i 0:Nat):Int)
   ·refine aJ (ai @wi (ai @h2 (ai @cZ @gV))) ?_;refine hQ _ (i+1) ⟨om,fun j h3=>?_⟩ om ?_
    ·rcases Nat.lt_or_ge j i with h4|h4
     ·exact hj j h4
     ·obtain rfl:j=i:=om;omega
    ·refine nO trivial ?_;omega
   ·refine aJ (ai @h2 (ai @cZ @gV)) ?_;refine aJ @gV ?_;refine hr _ ?_;have e:¬a=b:=fun h=>h2 (by rw[h])
    exact jX (ai @e @gV)
  ·refine aJ (ai @h1 @gV) ?_;refine he _ _ ?_;refine aJ @gV ?_;have e:a=b:=by
    refine List.ext_getElem om fun n h3 h4=>?_
    have:=hj n om;simpa[List.getD_eq_getElem?_getD,h3,h4]using this
   exact jX (ai @e @gV)
 ·refine aJ (ai @h @gV) ?_;have e:¬a=b:=fun h'=>h (by rw[h'])
  exact jX (ai @e @gV)
theorem zQ(a b:List Nat)(la:a.length≤9223372036854775807)(lb:b.length≤9223372036854775807):
 ah Tryz.prog J0 57 [.l 1 (W a),.l 1 (W b)] (.b (decide (a=b))):=by
 have h:=EY a b la lb
 refine d_ aX bV Tryz.func57 ?_
 exact jR @gV
theorem yj(s t:Bool)(a b:List Nat)(la:a.length≤1000000000)(lb:b.length≤1000000000):ah Tryz.prog J0 56 [zL s a,zL t b] (.b ((s==t)&&decide (a=b))):=by
 have h1:=zQ a b om om;refine d_ aX bV Tryz.func56 ?_;by_cases h:s=t
 ·have hb':(s==t)=true:=by rw[h];cases t<;>rfl
  rw[hb',Bool.true_and];exact jR (ai @hb' @gV)
 ·have hb':(s==t)=false:=by cases s<;>cases t<;>first|rfl|exact absurd rfl h
  rw[hb',Bool.false_and];refine aJ (ai @hb' @gV) ?_;exact jX @gV
end Go.Proofs.YtcgfgifjkkmmcaaGreatDoor
namespace Go.Proofs.YtcgfgifjkkmmcaaGreatDoor
open Go Go.RowKit Ab
def rQ:=an @aH (an @fV (an @Nat.div_one (an @Nat.mul_one (an @aO (an @eY (an @oD (an @dF (an @jm (an @wi (an @lX (an @Bool.false_and @dh)))))))))))
theorem H5(x s:Nat)(hx:x<65536):∃d m':Nat,x+m'*65536=d+s∧d<65536∧(s≤x→m'=0)∧(x<s→m'=(s+65535-x)/65536):=by
 refine⟨x+(s+65535-x)/65536*65536-s,(s+65535-x)/65536,?_,?_,?_,fun _=>rfl⟩
 ·omega
 ·omega
 ·intro h;omega
theorem OT{n i j m m' k d:Nat}{r R b:List Nat}(hj:i+j<n)(lr:r.length=n)(lR:R.length=n)(hs:R.drop (i+j)=r.drop (i+j))
 (h:nv 65536 (r.take (i+j))+m*65536^(i+j)=nv 65536 (R.take (i+j))+k*65536^i*nv 65536 (b.take j))
 (hd:r.getD (i+j) 0+m'*65536=d+(m+k*b.getD j 0)):
 nv 65536 (r.take (i+(j+1)))+m'*65536^(i+(j+1))=nv 65536 ((R.set (i+j) d).take (i+(j+1)))+k*65536^i*nv 65536 (b.take (j+1))∧(R.set (i+j) d).drop (i+(j+1))=r.drop (i+(j+1)):=by
 rw[←Nat.add_assoc]
 constructor
 ·rw[af r,af (R.set (i+j) d),af b,Nat.pow_succ];have e1:(R.set (i+j) d).take (i+j)=R.take (i+j):=by rw[List.take_set_of_le (Nat.le_refl _)]
  have e2:(R.set (i+j) d).getD (i+j) 0=d:=by rw[List.getD_eq_getElem?_getD,List.getElem?_set_self om];rfl
  rw[e1,e2,Nat.mul_add,show k*65536^i*(65536^j*b.getD j 0)=65536^(i+j)*(k*b.getD j 0)from by rw[Nat.pow_add];simp only[Nat.mul_assoc,Nat.mul_left_comm]];generalize 65536^(i+j)=P at*
  have e3:P*r.getD (i+j) 0+m'*(P*65536)=P*d+(m*P+P*(k*b.getD j 0)):=by
   have:=congrArg (fun z=>P*z) hd;simp only[Nat.mul_add]at this;rw[show m'*(P*65536)=P*(m'*65536)from by rw[Nat.mul_left_comm],this,Nat.mul_comm m P]
  omega
 ·have:(R.drop (i+j)).drop 1=(r.drop (i+j)).drop 1:=by rw[hs]
  rw[List.drop_drop,List.drop_drop]at this;rw[List.drop_set_of_lt om];exact this
theorem Dw{R r:List Nat}{n:Nat}(h:R.drop n=r.drop n):R.getD n 0=r.getD n 0:=by
 have:=congrArg (fun l=>l.getD 0 0) h;simp only[List.getD_eq_getElem?_getD,List.getElem?_drop,Nat.add_zero]at this;rw[List.getD_eq_getElem?_getD,List.getD_eq_getElem?_getD];exact this
noncomputable def a129:AC:=gc Tryz.prog Tryz.f129
theorem H6(r b:List Nat)(k i:Nat)(hr:Lt 65536 r)(hb:Lt 65536 b)(lr:r.length≤1000000000000)(hk:k<4294967296)(hi:i+b.length≤r.length)(hle:k*65536^i*nv 65536 b≤nv 65536 r):
 ah Tryz.prog J0 129 [.o 3 1 (D r),.l 1 (D b),.i .i64 (k:Int),.i .i64 (i:Int)] (.mu (.t []) (D (fl 65536 r.length (nv 65536 r-k*65536^i*nv 65536 b)))):=by
 obtain⟨n,hn⟩:∃n,n=r.length:=⟨_,rfl⟩
 rw[←hn]at lr hi
 rw[←hn]
 refine ah.mkm (m:=0) aX bV Tryz.func129 rfl (ac:=a129) kf rfl rfl rfl rfl kf ?_
 apply dG
 unfold a129
 conv in gc _ _=>reduce
 simp only[OU,fC,vN,Int.reduceOfNat,Int.reduceNegSucc]
 rw[show(D r).length/1=n from by rw[fV,Nat.div_one,hn]]
 refine aJ @rQ ?_
 refine aF [] (Nat×Nat×List Nat) (fun x=>⟨[(0,.ow 1 0 n),(1,.l 1 (D b)),(2,.i .i64 (k:Int)),(3,.i .i64 (i:Int)),(8,.i .i64 (-(x.2.1:Int))),(9,.i .i64 (x.1:Int))],[(0,some ⟨3,1,D x.2.2,true,false⟩)],1⟩)
  (fun x=>i+x.1≤n∧x.2.1≤k∧x.2.2.length=n∧Lt 65536 x.2.2∧x.2.2.drop (i+x.1)=r.drop (i+x.1)∧nv 65536 (r.take (i+x.1))+x.2.1*65536^(i+x.1)=nv 65536 (x.2.2.take (i+x.1))+k*65536^i*nv 65536 (b.take x.1))
  (fun x=>n-x.1) (0,0,r) ⟨by simp only;omega,Nat.zero_le _,hn.symm,hr,rfl,by simp[nv]⟩ (by exact mF) (by
  exact jO) ?_
 rintro⟨j,m,R⟩ ⟨hj,hm,lR,hR,hs,hv⟩ Q' hQ he hrr
 simp only[]at hj hm lR hR hs hv ⊢
 have hDl:(D R).length=n:=by rw[fV,lR]
 by_cases h:(i:Int)+(j:Int)<(n:Int)
 ·have hx:=lC hr dc (i+j);have hgx:=Dw hs;have hy:=lC hb dc j;obtain⟨d,m',e1,e2,e3,e4⟩:=H5 (r.getD (i+j) 0) (m+k*b.getD j 0) hx;obtain⟨v1,v2⟩:=OT om hn.symm lR hs hv e1;obtain⟨x,hxx⟩:∃x,x=r.getD (i+j) 0:=⟨_,rfl⟩;obtain⟨z,hz⟩:∃z,z=k*b.getD j 0:=⟨_,rfl⟩;have hzb:z≤k*65535:=by rw[hz];exact Nat.mul_le_mul_left _ om
  have hzI:(k:Int)*((b.getD j 0:Nat):Int)=(z:Int):=by rw[hz,Int.natCast_mul]
  rw[←hxx]at hx hgx e1 e3 e4;rw[←hz]at e1 e3 e4;have hmk:m'≤k:=by
   by_cases hc:m+z≤x
   ·rw[e3 hc];exact Nat.zero_le _
   ·rw[e4 om];omega
  obtain⟨N0,hN⟩:∃N0:Int,N0=(x:Int)-(m+z:Nat):=⟨_,rfl⟩;have tij:((i:Int)+(j:Int)).toNat=i+j:=om;have eA:(x:Int)+ -(m:Int)-(z:Int)=N0:=om;have key:∀Q2:Ex→St→Prop,True:=fun _=>trivial
  have w1:IntKind.i64.wrap ((x:Int)+ -(m:Int))=(x:Int)+ -(m:Int):=wi om;have w2:IntKind.i64.wrap ((z:Nat):Int)=((z:Nat):Int):=wi om;have w3:IntKind.i64.wrap N0=N0:=wi om;have eB:¬(j:Int)<(b.length:Int)→(x:Int)+ -(m:Int)=N0:=fun hjb=>by
   have:b.getD j 0=0:=by rw[List.getD_eq_getElem?_getD,List.getElem?_eq_none om];rfl
   rw[this,Nat.mul_zero]at hz;omega
  have ZJ:=nR R (i+j) om;rw[hgx]at ZJ;have hlR:(R.set (i+j) d).length=n:=by rw[List.length_set,lR]
  have hLR:Lt 65536 (R.set (i+j) d):=qi hR _ _ e2;have hDb:(j:Int)<(b.length:Int)→(D b).getD j .un= .i .i64 ((b.getD j 0:Nat):Int):=fun h=>nR b j om
  have hpos:0≤N0→m'=0∧N0=(d:Int):=fun h0=>by
   have:=e3 om;subst this;exact⟨rfl,om⟩
  have hneg:N0<0→(65535-N0).tdiv 65536=(m':Int):=fun h0=>by
   rw[e4 om,show(65535-N0)=((m+z+65535-x:Nat):Int)from om];rfl
  have hnd:N0+(m':Int)*65536=(d:Int):=om;have w4:IntKind.i64.wrap (65535-N0)=65535-N0:=wi om;have w5:IntKind.i64.wrap (m':Int)=(m':Int):=wi om;have w6:IntKind.i64.wrap ((m':Int)*65536)=(m':Int)*65536:=wi om;have w7:IntKind.i64.wrap (d:Int)=(d:Int):=wi om;have w8:IntKind.i64.wrap (0-(m':Int))=0-(m':Int):=wi om;have hd0:¬(d:Int)<0:=om;have hset:=xw R (i+j) d;clear e1 e3 e4 hz hzb hN hx hxx hy hs hv hle hR hr hb;by_cases hjb:(j:Int)<(b.length:Int);all_goals
   refine aJ (ai @w3 (ai @w2 (ai @w1 (ai @eB (ai @eA (ai @hzI (ai @hDb (ai @ZJ (ai @tij (ai @hDl (ai @hjb (ai @h @rQ)))))))))))) ?_
   refine aF [] Bool (fun f=>match f with
    |false=>⟨[(0,.ow 1 0 n),(1,.l 1 (D b)),(2,.i .i64 (k:Int)),(3,.i .i64 (i:Int)),(8,.i .i64 0),(9,.i .i64 (j:Int)),(10,.i .i64 N0)],[(0,some ⟨3,1,D R,true,false⟩)],1⟩
    |true=>⟨[(0,.ow 1 0 n),(1,.l 1 (D b)),(2,.i .i64 (k:Int)),(3,.i .i64 (i:Int)),(8,.i .i64 (0-(m':Int))),(9,.i .i64 (j:Int)),(10,.i .i64 (d:Int))],[(0,some ⟨3,1,D R,true,false⟩)],1⟩)
    (fun _=>True) (fun f=>match f with|false=>1|true=>0) false trivial (by exact mF) (by
    exact jO) ?_
   rintro f-Q2 hQ2 he2 hr2
   cases f
   ·simp only[];by_cases hn0:N0<0
    ·repeat first
      |(refine hK _ ?_;clear hK K)
      |((first|refine ay (fun K hK=>?_)|refine aB (fun K hK=>?_)|refine au (fun K hK=>?_));simp(disch:=(first|omega|assumption)) only[S1,seval,-Int.reduceToNat,-List.reduceReplicate,a_.sb,a_.mut,bZ,↓Bool.false_eq_true,beq_self_eq_true,ite_self,rQ,hn0,w4,hneg hn0,w5,w6,hnd,w7,w8];refine hK _ ?_;clear hK K)
      |simp only[Sv,↓reduceIte,Nat.reduceEqDiff]
     refine hQ2 _ true trivial dc ?_;exact jO
    ·obtain⟨hm0,hN0⟩:=hpos om;rw[hN0]at*
     refine aJ (ai @hd0 @rQ) ?_;refine he2 _ _ ?_;refine aJ (ai @hset (ai @tij (ai @hDl @rQ))) ?_;refine hQ _ (j+1,m',R.set (i+j) d) ⟨by simp only;omega,hmk,hlR,hLR,v2,v1⟩ (by simp only;omega) ?_;exact jO
   ·simp only[];refine aJ (ai @hd0 @rQ) ?_;refine he2 _ _ ?_;refine aJ (ai @hset (ai @tij (ai @hDl @rQ))) ?_;refine hQ _ (j+1,m',R.set (i+j) d) ⟨by simp only;omega,hmk,hlR,hLR,v2,v1⟩ (by simp only;omega) ?_;exact jO
 ·have hij:i+j=n:=om;have hbt:b.take j=b:=List.take_of_length_le om;rw[hij,hbt,show r.take n=r from by rw[hn,List.take_length],show R.take n=R from by rw[←lR,List.take_length]]at hv;have hRl:=bY hR;rw[lR]at hRl;have hm0:m=0:=by
   rcases Nat.eq_zero_or_pos m with h0|h0
   ·exact h0
   ·have:65536^n*1≤65536^n*m:=Nat.mul_le_mul_left _ h0;rw[Nat.mul_comm m]at hv;omega
  rw[hm0,Nat.zero_mul,Nat.add_zero]at hv;have e:R=fl 65536 n (nv 65536 r-k*65536^i*nv 65536 b):=by
   rw[hv,Nat.add_sub_cancel,←lR];exact(vK hR).symm
  refine aJ (ai @h @rQ) ?_;refine he _ _ ?_;refine aJ @rQ ?_;exact⟨0,rfl,by rw[←e];rfl⟩
theorem Dx(r b:List Nat)(i:Nat)(hr:Lt 65536 r)(hb:Lt 65536 b)(lr:r.length≤1099511627776)(lb:b.length≤1099511627776)(hi:i≤r.length):
 ah Tryz.prog J0 128 [.l 1 (D r),.l 1 (D b),.i .i64 (i:Int)] (.b (decide (nv 65536 b≤nv 65536 (r.drop i)))):=by
 have hc:=BP (r.drop i) b (y_ hr i) hb (by rw[List.length_drop];omega) lb
 have hdd:(D r).drop i=D (r.drop i):=by simp[D]
 have h1:decide ((0:Int)≤sg (nv 65536 (r.drop i)) (nv 65536 b))=decide (nv 65536 b≤nv 65536 (r.drop i)):=by rw[decide_eq_decide];exact Iff.of_eq (Yn _ _)
 rw[←h1]
 generalize sg (nv 65536 (r.drop i)) (nv 65536 b)=c at*
 have hi0:(0:Int)≤(i:Int):=om
 have hDl:=fV r
 refine d_ aX bV Tryz.func128 ?_
 repeat first|(refine hK _ ?_;clear hK K)|simp only[Sv,↓reduceIte,Nat.reduceEqDiff]|((first|refine ay (fun K hK=>?_)|refine aB (fun K hK=>?_)|refine au (fun K hK=>?_)|refine kL ?_|refine iL (by assumption) ?_|refine kM ?_|(apply iM;assumption)|(apply iP;assumption));simp(disch:=(first|omega|assumption)) only[S1,seval,-Int.reduceToNat,-List.reduceReplicate,a_.sb,a_.mut,bZ,↓Bool.false_eq_true,beq_self_eq_true,ite_self,rQ,hi0,hDl,hdd,Nat.mul_one,aO])
 simp(disch:=(first|omega|assumption)) only[fM,iW,jb,lY,iC,V.aQ,and_true,true_and,S1,seval,-Int.reduceToNat,-List.reduceReplicate,a_.sb,a_.mut,bZ,↓Bool.false_eq_true,beq_self_eq_true,ite_self,rQ,hi0,hDl,hdd,Nat.mul_one,aO]
end Go.Proofs.YtcgfgifjkkmmcaaGreatDoor
namespace Go.Proofs.YtcgfgifjkkmmcaaGreatDoor
open Go Go.RowKit Ab
def lJ:=an @aH (an @fV (an @Nat.div_one (an @Nat.mul_one (an @aO (an @eY (an @oD (an @dF (an @jm (an @wi (an @lX (an @Bool.false_and @dh)))))))))))
theorem gQ(a:List Nat):(D a).all V.cell=true:=by simp[D,V.cell]
def dk(R b:List Nat)(i:Nat):Nat:=max 1 (nv 65536 (R.drop (i+b.length-1))/(b.getD (b.length-1) 0+1))
theorem ZK{R b:List Nat}{i:Nat}(hR:Lt 65536 R)(hb:Lt 65536 b)(tb:tz b=b)(b0:b≠[])(h:nv 65536 b≤nv 65536 (R.drop i))(hlt:nv 65536 R<nv 65536 b*65536^(i+1)):
 i+b.length≤R.length∧nv 65536 (R.drop (i+b.length-1))<4294967296∧dk R b i<4294967296∧dk R b i*65536^i*nv 65536 b≤nv 65536 R:=by
 have lb:0<b.length:=List.length_pos_iff.2 b0
 have htop:=qg (b:=65536) tb b0
 have hbl:=bY hb
 have hdrop:=bY (y_ hR i)
 rw[List.length_drop]at hdrop
 have c1:i+b.length≤R.length:=by
  have h1:65536^(b.length-1)<65536^(R.length-i):=om;have:=(Nat.pow_lt_pow_iff_right (by decide:1<65536)).1 h1;omega
 have e1:i+b.length-1=i+(b.length-1):=om
 have c2:nv 65536 (R.drop (i+b.length-1))<4294967296:=by
  rw[←rU dc hR,Nat.div_lt_iff_lt_mul (Nat.pow_pos dc),e1];refine Nat.lt_of_lt_of_le hlt ?_;have:nv 65536 b≤65536^(b.length-1)*65536:=by
   have e:65536^(b.length-1)*65536=65536^b.length:=by rw[←Nat.pow_succ,show(b.length-1).succ=b.length from om]
   rw[e];omega
  refine Nat.le_trans (Nat.mul_le_mul_right _ this) ?_;rw[Nat.pow_succ,Nat.pow_add];have:65536^(b.length-1)*65536*(65536^i*65536)=4294967296*(65536^i*65536^(b.length-1)):=by
   generalize 65536^(b.length-1)=u;generalize 65536^i=v;rw[show 4294967296=65536*65536 from rfl];simp only[Nat.mul_assoc,Nat.mul_comm,Nat.mul_left_comm]
  omega
 have hone:1*65536^i*nv 65536 b≤nv 65536 R:=by
  rw[Nat.one_mul];rw[←rU dc hR]at h;have:=(Nat.le_div_iff_mul_le (Nat.pow_pos dc)).1 h;rwa[Nat.mul_comm]
 have hk:nv 65536 (R.drop (i+b.length-1))/(b.getD (b.length-1) 0+1)*65536^i*nv 65536 b≤nv 65536 R:=by
  have hbt:nv 65536 b≤65536^(b.length-1)*(b.getD (b.length-1) 0+1):=by
   have h1:=dP (b:=65536) b (b.length-1) om;rw[show b.length-1+1=b.length from om,List.take_length]at h1;have h2:=aZ (b:=65536) dc hb (b.length-1);rw[h1,Nat.mul_add,Nat.mul_one];omega
  have hH:=Nat.div_mul_le_self (nv 65536 (R.drop (i+b.length-1))) (b.getD (b.length-1) 0+1);have hRd:nv 65536 (R.drop (i+b.length-1))*65536^(i+b.length-1)≤nv 65536 R:=by
   rw[←rU dc hR];exact Nat.div_mul_le_self _ _
  refine Nat.le_trans ?_ hRd;generalize nv 65536 (R.drop (i+b.length-1))=H at*
  generalize b.getD (b.length-1) 0+1=T at*
  rw[e1,Nat.pow_add];refine Nat.le_trans (Nat.mul_le_mul_left _ hbt) ?_;have:=Nat.mul_le_mul_right (65536^i*65536^(b.length-1)) hH;refine Nat.le_trans (Nat.le_of_eq ?_) this;generalize H/T=q;simp only[Nat.mul_assoc,Nat.mul_comm,Nat.mul_left_comm]
 refine⟨c1,c2,?_,?_⟩
 ·unfold dk;have:=Nat.div_le_self (nv 65536 (R.drop (i+b.length-1))) (b.getD (b.length-1) 0+1);omega
 ·unfold dk;rcases Nat.le_total 1 (nv 65536 (R.drop (i+b.length-1))/(b.getD (b.length-1) 0+1))with h1|h1
  ·rw[Nat.max_eq_right h1];exact hk
  ·rw[Nat.max_eq_left h1];exact hone
theorem Dy(a b:List Nat)(ha:Lt 65536 a)(hb:Lt 65536 b)(ta:tz a=a)(tb:tz b=b)(b0:b≠[])(la:a.length≤100000000000)(lb:b.length≤100000000000):
 ah Tryz.prog J0 101 [.l 1 (D a),.l 1 (D b)] (.t [.l 1 (D (fl 65536 (a.length+1-b.length) (nv 65536 a/nv 65536 b))),.l 1 (D (dg 65536 (nv 65536 a%nv 65536 b)))]):=by
 have hb1:0<b.length:=List.length_pos_iff.2 b0
 have htop:=qg (b:=65536) tb b0
 have hbp:0<nv 65536 b:=Nat.lt_of_lt_of_le (Nat.pow_pos dc) htop
 by_cases hl:(a.length:Int)<(b.length:Int)
 ·have hal:=bY ha;have:nv 65536 a<nv 65536 b:=Nat.lt_of_lt_of_le hal (Nat.le_trans (Nat.pow_le_pow_right dc om) htop);rw[Nat.mod_eq_of_lt this,←yt H2 ha,ta,show a.length+1-b.length=0 from om,show fl 65536 0 (nv 65536 a/nv 65536 b)=[]from rfl];refine d_ aX bV Tryz.func101 ?_;refine aJ (ai @BX (ai @hl (ai @gQ @lJ))) ?_;exact jX (ai @BX (ai @gQ @lJ))
 ·obtain⟨L,hL⟩:∃L,L=a.length+1-b.length:=⟨_,rfl⟩;rw[←hL];have hLI:(a.length:Int)-(b.length:Int)+1=(L:Int):=om;have hL0:(0:Int)≤(L:Int):=om;have tb1:((b.length:Int)-1).toNat=b.length-1:=om;obtain⟨T,hT⟩:∃T,T=b.getD (b.length-1) 0+1:=⟨_,rfl⟩;have hT1:T≤65536:=by have:=lC hb dc (b.length-1);omega
  have hTI:((b.getD (b.length-1) 0:Nat):Int)+1=(T:Int):=om;have hDb:=nR b (b.length-1) om;refine d_ aX bV Tryz.func101 ?_;refine aJ (ai @Nat.zero_add (ai @hTI (ai @hDb (ai @tb1 (ai @OE (ai @hL0 (ai @hLI (ai @BX (ai @hl (ai @gQ @lJ)))))))))) ?_;have hQ0:Lt 65536 (List.replicate L 0):=uM dc;refine aF [] (Nat×List Nat×List Nat) (fun x=>⟨[(0,.l 1 (D a)),(1,.l 1 (D b)),(6,.ow 1 0 x.2.1.length),(7,.ow 1 1 L),(8,.i .i64 (T:Int)),(9,.i .i64 ((x.1:Int)-1))],
   [(0,some ⟨3,1,D x.2.1,true,false⟩),(1,some ⟨3,1,D x.2.2,true,false⟩)],2⟩)
   (fun x=>x.1≤L∧Lt 65536 x.2.1∧Lt 65536 x.2.2∧x.2.2.length=L∧x.1-1≤x.2.1.length∧x.2.1.length≤100000000000∧nv 65536 x.2.2*nv 65536 b+nv 65536 x.2.1=nv 65536 a∧nv 65536 x.2.1<nv 65536 b*65536^x.1∧(∀j,j<x.1→x.2.2.getD j 0=0)∧(x.1=0→tz x.2.1=x.2.1))
   (fun x=>x.1) (L,a,List.replicate L 0) ⟨Nat.le_refl _,ha,hQ0,sy,by simp only;omega,la,by simp only[qh,Nat.zero_mul,Nat.zero_add],?_,fun j hj=>by simp only[List.getD_eq_getElem?_getD,List.getElem?_replicate];split<;>simp,fun h=>by simp only at h;omega⟩ (by exact mF) (by
   exact jO) ?_
  ·simp only;refine Nat.lt_of_lt_of_le (bY ha) ?_;refine Nat.le_trans (Nat.le_of_eq ?_) (Nat.mul_le_mul_right _ htop);rw[←Nat.pow_add];congr 1;omega
  rintro⟨t,R,Q⟩ ⟨ht,hR,hQl,lQ,tR,lR,hv,ZL,hz,htz⟩ Q' hQ he hrr;simp only[]at ht hR hQl lQ tR lR hv ZL hz htz ⊢;by_cases h:(0:Int)≤(t:Int)-1
  ·obtain⟨i,rfl⟩:∃i,t=i+1:=⟨t-1,om⟩;have ti:((i+1:Nat):Int)-1=(i:Int):=om;rw[ti]at h ⊢;obtain⟨n,hn⟩:∃n,n=R.length:=⟨_,rfl⟩;have hqi:=hz i om;refine aJ (ai @h (ai @gQ @lJ)) ?_;refine aF [] (Nat×List Nat) (fun x=>⟨[(0,.l 1 (D a)),(1,.l 1 (D b)),(6,.ow 1 0 n),(7,.ow 1 1 L),(8,.i .i64 (T:Int)),(9,.i .i64 (i:Int))],
    [(0,some ⟨3,1,D x.2,true,false⟩),(1,some ⟨3,1,D (Q.set i x.1),true,false⟩)],2⟩)
    (fun x=>Lt 65536 x.2∧x.2.length=n∧x.1*65536^i*nv 65536 b+nv 65536 x.2=nv 65536 R∧x.1<65536)
    (fun x=>nv 65536 x.2) (0,R) ⟨hR,hn.symm,sy,by simp only;omega⟩ (by exact mF) (by
    refine nO trivial ?_
    rw[show Q.set i 0=Q from ?_]
    ·repeat' first|rfl|omega|(simp only[List.length_append,List.length_cons,List.length_nil];done)|apply And.intro
    ·refine List.ext_getElem sy fun u h1 h2=>?_
     rw[List.getElem_set];split
     ·rename_i e;subst e;rw[List.getD_eq_getElem?_getD,List.getElem?_eq_getElem h2]at hqi;exact hqi.symm
     ·rfl) ?_
   rintro⟨c,U⟩ ⟨hU,lU,hc,hc65⟩ Q2 hQ2 he2 hr2;simp only[]at hU lU hc hc65 ⊢;have hUlt:nv 65536 U<nv 65536 b*65536^(i+1):=om;have hhi:=Dx U b i hU hb om om om;have hDU:=fV U;by_cases hh:nv 65536 b≤nv 65536 (U.drop i)
   ·rw[decide_eq_true hh]at hhi;obtain⟨k1,k2,k3,k4⟩:=ZK hU hb tb b0 hh hUlt;refine qc (ai @lU (ai @gQ @lJ)) ?_;obtain⟨g,hg⟩:∃g,g=i+b.length-1:=⟨_,rfl⟩;have hgI:(i:Int)+(b.length:Int)-1=(g:Int):=om;rw[←hg]at k2;have hmono:∀j,g≤j→nv 65536 (U.drop j)<4294967296:=fun j hj=>by
     refine Nat.lt_of_le_of_lt ?_ k2;rw[←rU dc hU,←rU dc hU];exact Nat.div_le_div_left (Nat.pow_le_pow_right dc hj) (Nat.pow_pos dc)
    refine aF [] Nat (fun j=>⟨[(0,.l 1 (D a)),(1,.l 1 (D b)),(6,.ow 1 0 n),(7,.ow 1 1 L),(8,.i .i64 (T:Int)),(9,.i .i64 (i:Int)),(10,.i .i64 ((nv 65536 (U.drop j):Nat):Int)),(11,.i .i64 ((j:Int)-1))],
     [(0,some ⟨3,1,D U,true,false⟩),(1,some ⟨3,1,D (Q.set i c),true,false⟩)],2⟩)
     (fun j=>g≤j∧j≤n) (fun j=>j) n ⟨om,Nat.le_refl _⟩ (by exact mF) (by
     refine nO trivial ?_
     rw[show U.drop n=[]from List.drop_of_length_le om]
     repeat' first|rfl|omega|(simp only[List.length_append,List.length_cons,List.length_nil];done)|apply And.intro) ?_
    rintro j ⟨hj1,hj2⟩ Q3 hQ3 he3 hr3;try simp only[]at hj1 hj2 ⊢
    by_cases hj:(g:Int)≤(j:Int)-1
    ·obtain⟨u,rfl⟩:∃u,j=u+1:=⟨j-1,om⟩;have hju:((u+1:Nat):Int)-1=(u:Int):=om;have ZJ:=nR U u om;have hnd:=nX (b:=65536) U u om;have hm1:=hmono u om;have hgu:(g:Int)≤(u:Int):=om;obtain⟨N1,hN1⟩:∃N1,N1=nv 65536 (U.drop (u+1)):=⟨_,rfl⟩;have hval:(N1:Int)*65536+((U.getD u 0:Nat):Int)=((nv 65536 (U.drop u):Nat):Int):=by rw[hnd,hN1];omega
     rw[←hN1,hju];rw[←hN1]at hnd;have wv1:IntKind.i64.wrap ((N1:Int)*65536)=(N1:Int)*65536:=wi om;refine aJ (ai @wv1 (ai @hval (ai @ZJ (ai @lU (ai @hDU (ai @hgu (ai @hgI (ai @gQ @lJ)))))))) ?_;refine hQ3 _ u ⟨om,om⟩ om ?_;exact jO
    ·obtain rfl:j=g:=om;have hTn:¬(T:Int)=0:=om;obtain⟨kk,hkk⟩:∃kk,kk=dk U b i:=⟨_,rfl⟩;rw[←hkk]at k3 k4;have hmx:max (1:Int) ((nv 65536 (U.drop j)/T:Nat):Int)=(kk:Int):=by
      rw[hkk];unfold dk;rw[←hg,←hT];omega
     have Yo:((nv 65536 (U.drop j):Nat):Int).tdiv (T:Int)=((nv 65536 (U.drop j)/T:Nat):Int):=rfl;have wq:IntKind.i64.wrap ((nv 65536 (U.drop j)/T:Nat):Int)=((nv 65536 (U.drop j)/T:Nat):Int):=by
      have h1:=Nat.div_le_self (nv 65536 (U.drop j)) T;clear hmx Yo;generalize nv 65536 (U.drop j)/T=qq at*
      exact wi om
     have hk1:1≤kk:=by rw[hkk];unfold dk;omega
     have htk:=H6 U b kk i hU hb om k3 k1 k4;rw[lU]at htk;obtain⟨KK,hKK⟩:∃KK,KK=kk*65536^i*nv 65536 b:=⟨_,rfl⟩;rw[←hKK]at htk k4;have hKp:0<KK:=by rw[hKK];exact Nat.mul_pos (Nat.mul_pos hk1 (Nat.pow_pos dc)) hbp
     have hUl:=bY hU;rw[lU]at hUl;have hnew:nv 65536 (fl 65536 n (nv 65536 U-KK))=nv 65536 U-KK:=by rw[mW,Nat.mod_eq_of_lt om]
     have hsum:(c+kk)*65536^i*nv 65536 b=c*65536^i*nv 65536 b+KK:=by rw[hKK,Nat.add_mul,Nat.add_mul]
     have hck:c+kk<65536:=by
      refine Nat.lt_of_not_le fun hge=>?_
      have h1:=Nat.mul_le_mul_right (nv 65536 b) (Nat.mul_le_mul_right (65536^i) hge);have h2:65536*65536^i*nv 65536 b=nv 65536 b*65536^(i+1):=by rw[Nat.pow_succ,Nat.mul_comm (nv 65536 b),Nat.mul_comm 65536]
      omega
     have hsl:(Q.set i c).length=L:=by rw[List.length_set,lQ]
     have hDq:=nR (Q.set i c) i om;have hDql:=fV (Q.set i c);rw[show(Q.set i c).getD i 0=c from by rw[List.getD_eq_getElem?_getD,List.getElem?_set_self om];rfl]at hDq;have hst:=xw (Q.set i c) i (c+kk);rw[List.set_set]at hst;have hckI:(c:Int)+(kk:Int)=((c+kk:Nat):Int):=om;have hi0:(0:Int)≤(i:Int):=om;clear hmono;refine aJ (ai @hj (ai @hgI (ai @gQ @lJ))) ?_;refine he3 _ _ ?_;refine qc (ai @hst (ai @hckI (ai @hsl (ai @hDql (ai @hDq (ai @lU (ai @hmx (ai @wq (ai @Yo (ai @hTn (ai @gQ @lJ))))))))))) ?_;refine hQ2 _ (c+kk,fl 65536 n (nv 65536 U-KK)) ⟨lI dc _ _,bg _ _,?_,hck⟩ ?_ ?_
     ·simp only[];rw[hnew,hsum];omega
     ·simp only[];rw[hnew];omega
     ·exact jO
   ·rw[decide_eq_false hh]at hhi;have hcu:=sW U om;have tzl:=kZ U;have hsl:(Q.set i c).length=L:=by rw[List.length_set,lQ]
    refine qc (ai @gQ @lJ) ?_;refine he2 _ _ ?_;refine qc (ai @Nat.zero_add (ai @BX (ai @gQ @lJ))) ?_;refine aF [] Nat (fun p=>⟨[(0,.l 1 (D a)),(1,.l 1 (D b)),(6,.ow 1 0 ((tz U).length+p)),(7,.ow 1 1 L),(8,.i .i64 (T:Int)),(9,.i .i64 (i:Int))],
     [(0,some ⟨3,1,D (tz U++List.replicate p 0),true,false⟩),(1,some ⟨3,1,D (Q.set i c),true,false⟩)],2⟩)
     (fun p=>p=0∨(tz U).length+p≤i) (fun p=>i-p) 0 (.inl rfl) (by exact mF) (by
     refine nO trivial ?_
     rw[show tz U++List.replicate 0 0=tz U from sy]
     repeat' first|rfl|omega|(simp only[List.length_append,List.length_cons,List.length_nil];done)|apply And.intro) ?_
    rintro p hp Q3 hQ3 he3 hr3;try simp only[]at hp ⊢
    have hpl:(tz U++List.replicate p 0).length=(tz U).length+p:=sy;have OV:=uH (tz U++List.replicate p 0) 0;rw[List.append_assoc,←List.replicate_succ']at OV;have hcl:=fV (tz U++List.replicate p 0);rw[hpl]at hcl;by_cases hlt:(((tz U).length+p:Nat):Int)<(i:Int)
    ·refine aJ (ai @hcl (ai @OV (ai @hlt (ai @gQ @lJ)))) ?_;refine hQ3 _ (p+1) (.inr om) om ?_;exact jO
    ·have hnR:nv 65536 (tz U++List.replicate p 0)=nv 65536 U:=by rw[qj,qh,Nat.mul_zero,Nat.add_zero,nT]
     have hns:=rJ (b:=65536) Q i c om;rw[hqi,Nat.mul_zero,Nat.add_zero]at hns;refine aJ (ai @hlt (ai @gQ @lJ)) ?_;refine he3 _ _ ?_;refine aJ (ai @gQ @lJ) ?_;refine hQ _ (i,tz U++List.replicate p 0,Q.set i c) ⟨by simp only;omega,?_,qi hQl _ _ hc65,hsl,by simp only[hpl];omega,by simp only[hpl];omega,?_,?_,fun j hj=>?_,fun h0=>?_⟩ (by simp only;omega) ?_
     ·intro x hx;rcases List.mem_append.1 hx with hx|hx
      ·exact oN hU x hx
      ·rw[List.eq_of_mem_replicate hx];decide
     ·simp only[];rw[hnR,hns,Nat.add_mul,Nat.mul_comm (65536^i) c];omega
     ·simp only[];rw[hnR];rw[←rU dc hU]at hh;have:=(Nat.div_lt_iff_lt_mul (Nat.pow_pos dc)).1 (Nat.lt_of_not_le hh);omega
     ·simp only[]at hj ⊢;rw[getD_set_ne _ _ _ _ om];exact hz j om
     ·simp only[]at h0 ⊢;obtain rfl:p=0:=om;rw[List.replicate_zero,List.append_nil];exact BQ U
     ·first|exact lcQ @hpl|refine nO @hpl ?_
      repeat' first|rfl|omega|(simp only[List.length_append,List.length_cons,List.length_nil];done)|apply And.intro
  ·obtain rfl:t=0:=om;rw[Nat.pow_zero,Nat.mul_one]at ZL;obtain⟨q1,q2⟩:=(Nat.div_mod_unique (a:=nv 65536 a) (b:=nv 65536 b) (c:=nv 65536 R) (d:=nv 65536 Q) hbp).2 ⟨by rw[Nat.mul_comm (nv 65536 b)];omega,ZL⟩;have eQ:fl 65536 L (nv 65536 a/nv 65536 b)=Q:=by rw[q1,←lQ];exact vK hQl
   have eR:dg 65536 (nv 65536 a%nv 65536 b)=R:=by rw[q2,←yt H2 hR];exact htz rfl
   refine aJ (ai @h (ai @gQ @lJ)) ?_;refine he _ _ ?_;refine aJ (ai @gQ @lJ) ?_;exact jX (ai @eR (ai @eQ (ai @gQ @lJ)))
end Go.Proofs.YtcgfgifjkkmmcaaGreatDoor
namespace Go.Proofs.YtcgfgifjkkmmcaaGreatDoor
open Go Go.RowKit Ab
def qN:=an @aH (an @fV (an @Nat.div_one (an @Nat.mul_one (an @aO (an @eY (an @oD (an @dF (an @jm (an @wi (an @lX (an @Bool.false_and @dh)))))))))))
theorem U9{u v la lb:Nat}(hu:u<65536^la)(hv:65536^(lb-1)≤v)(hlb:0<lb):nv 65536 (fl 65536 (la+1-lb) (u/v))=u/v:=by
 have hv0:0<v:=Nat.lt_of_lt_of_le (Nat.pow_pos dc) hv;rw[mW];refine Nat.mod_eq_of_lt ?_;rw[Nat.div_lt_iff_lt_mul hv0];refine Nat.lt_of_lt_of_le hu (Nat.le_trans ?_ (Nat.mul_le_mul_left _ hv));rw[←Nat.pow_add];exact Nat.pow_le_pow_right dc om
theorem Yp(u v m:Nat)(hu:u<B^m)(hv:v<B^m)(hm:m≤10000000000)(h0:v≠0):
 ∃q:List Nat,Lt 65536 q∧nv 65536 q=u/v∧q.length≤4*m+1∧ah Tryz.prog J0 101 [.l 1 (D (dg 65536 u)),.l 1 (D (dg 65536 v))] (.t [.l 1 (D q),.l 1 (D (dg 65536 (u%v)))]):=by
 have b0:dg 65536 v≠[]:=fun h=>h0 ((rE H2).1 h)
 have hla:=zF hu
 have hlb:=zF hv
 have hd:=Dy (dg 65536 u) (dg 65536 v) (mQ dc _) (mQ dc _) (zH _) (zH _) b0 om om
 rw[jS H2,jS H2]at hd
 have ht:=qg (b:=65536) (zH v) b0
 rw[jS H2]at ht
 have hul:=bY (mQ (b:=65536) dc u)
 rw[jS H2]at hul
 exact⟨_,lI dc _ _,U9 hul ht (List.length_pos_iff.2 b0),by rw[bg];omega,hd⟩
theorem xC(a b:List Nat)(ha:Wd a)(hb:Wd b)(la:a.length≤1000000000)(lb:b.length≤1000000000)(h0:nv B b≠0):ah Tryz.prog J0 65 [.l 1 (W a),.l 1 (W b)] (.t [.l 1 (W (dg B (nv B a/nv B b))),.l 1 (W (dg B (nv B a%nv B b)))]):=by
 have ho:=mV a b 63 dc ha hb om om;have d1:=bT a ha om;have d2:=bT b hb om;obtain⟨m,hm⟩:∃m,m=1000000000:=⟨_,rfl⟩;rw[←hm]at la lb;have hu:=fO ha la;have hv:=fO hb lb;generalize nv B a=u at*
 generalize nv B b=v at*
 have hB:B=18446744073709551616:=rfl;obtain⟨q,q1,q2,q3,hd⟩:=Yp u v m hu hv om h0;have n1:=(eX q q1 om).frozen;have hrl:(dg 65536 (u%v)).length≤4*m:=zF (Nat.lt_of_le_of_lt (Nat.mod_le _ _) hu);have n2:=(eX (dg 65536 (u%v)) (mQ dc _) om).frozen;rw[q2]at n1;rw[jS H2]at n2;by_cases h:u<9223372036854775808∧v<9223372036854775808
 ·rw[decide_eq_true (show u<2^63∧v<2^63 from h),Nat.mod_eq_of_lt (by omega:u<B),Nat.mod_eq_of_lt (by omega:v<B)]at ho;have g1:=Nat.div_le_self u v;have g2:=Nat.mod_le u v;have hof:=(oO (u/v) om).frozen;have hof2:=(oO (u%v) om).frozen;have h0I:¬(v:Int)=0:=om;have hq:(u:Int).tdiv (v:Int)=((u/v:Nat):Int):=rfl;have hr:(u:Int).tmod (v:Int)=((u%v:Nat):Int):=rfl;have w1:IntKind.u64.wrap ((u/v:Nat):Int)=((u/v:Nat):Int):=by
   clear hq hof n1 q2;generalize u/v=z at*
   rw[wu om]
  have w2:IntKind.u64.wrap ((u%v:Nat):Int)=((u%v:Nat):Int):=by
   clear hr hof2 n2 hrl;generalize u%v=z at*
   rw[wu om]
  clear d1 d2 n1 n2 hd;refine d_ aX bV Tryz.func65 ?_;exact jR (ai @w2 (ai @w1 (ai @hr (ai @hq (ai @h0I @qN)))))
 ·rw[decide_eq_false (show¬(u<2^63∧v<2^63)from h)]at ho;refine d_ aX bV Tryz.func65 ?_;exact jR @qN
theorem LX(a b:List Nat)(ha:Wd a)(hb:Wd b)(la:a.length≤1000000000)(lb:b.length≤1000000000):ah Tryz.prog J0 64 [.l 1 (W a),.l 1 (W b)] (.l 1 (W (dg B (Nat.gcd (nv B a) (nv B b))))):=by
 have ho:=mV a b 63 dc ha hb om om;have d1:=bT a ha om;have d2:=bT b hb om;obtain⟨m,hm⟩:∃m,m=1000000000:=⟨_,rfl⟩;rw[←hm]at la lb;have hu:=fO ha la;have hv:=fO hb lb;generalize nv B a=u at*
 generalize nv B b=v at*
 have hB:B=18446744073709551616:=rfl;by_cases h:u<9223372036854775808∧v<9223372036854775808
 ·rw[decide_eq_true (show u<2^63∧v<2^63 from h),Nat.mod_eq_of_lt (by omega:u<B),Nat.mod_eq_of_lt (by omega:v<B)]at ho;clear d1 d2;refine d_ aX bV Tryz.func64 ?_;refine qc @qN ?_;refine aF [] (Nat×Nat) (fun x=>⟨[(0,.l 1 (W a)),(1,.l 1 (W b)),(5,.i .u64 (x.1:Int)),(6,.i .u64 (x.2:Int)),(7,.b true)],[],0⟩)
   (fun x=>x.1<9223372036854775808∧x.2<9223372036854775808∧Nat.gcd x.1 x.2=Nat.gcd u v) (fun x=>x.2) (u,v) ⟨h.1,h.2,rfl⟩ (by exact mF) (by
   exact jO) ?_
  rintro⟨x,y⟩ ⟨hx,hy,hg⟩ Q' hQ he hr;simp only[]at hx hy hg ⊢;by_cases h0:y=0
  ·subst h0;rw[Nat.gcd_zero_right]at hg;have hn:¬(0:Int)<((0:Nat):Int):=dc;have hof:=(oO x om).frozen;rw[hg]at hof;refine aJ (ai @hn @qN) ?_;refine he _ _ ?_;rw[hg];exact jR @qN
  ·have hp:0<y:=Nat.pos_of_ne_zero h0;have hpI:(0:Int)<(y:Int):=om;have h0I:¬(y:Int)=0:=om;have hrr:(x:Int).tmod (y:Int)=((x%y:Nat):Int):=rfl;have hlt:=Nat.mod_lt x hp;have w2:IntKind.u64.wrap ((x%y:Nat):Int)=((x%y:Nat):Int):=by
    clear hrr;generalize x%y=z at*
    rw[wu om]
   refine aJ (ai @w2 (ai @hrr (ai @h0I (ai @hpI @qN)))) ?_;refine hQ _ (y,x%y) ⟨hy,by simp only;omega,?_⟩ hlt ?_
   ·simp only[];rw[←hg,Nat.gcd_comm x y,Nat.gcd_rec y x,Nat.gcd_comm]
   ·exact jO
 ·rw[decide_eq_false (show¬(u<2^63∧v<2^63)from h)]at ho;refine d_ aX bV Tryz.func64 ?_;refine qc @qN ?_;refine aF [] Unit (fun _=>⟨[(0,.l 1 (W a)),(1,.l 1 (W b)),(7,.b false)],[],0⟩) (fun _=>True) (fun _=>0) () trivial (by exact mF) (by
   simp(disch:=(first|omega|assumption)) only[Sl,Sa,Sw,↓reduceIte,Nat.reduceEqDiff,Nat.reduceLT,List.all_nil,List.all_cons,Nat.reduceBneDiff,Nat.reduceAdd,bne_iff_ne,ne_eq,reduceCtorEq,not_false_eq_true,not_true_eq_false,Bool.and_true,Bool.true_and,and_true,true_and,and_self,iV];try rfl) ?_
  rintro- -Q' hQ he hr;refine aJ @qN ?_;refine he _ _ ?_;refine qc @qN ?_;refine aF [] (Nat×Nat) (fun x=>⟨[(8,.l 1 (D (dg 65536 x.1))),(9,.l 1 (D (dg 65536 x.2)))],[],0⟩)
   (fun x=>x.1<B^m∧x.2<B^m∧Nat.gcd x.1 x.2=Nat.gcd u v) (fun x=>x.2) (u,v) ⟨hu,hv,rfl⟩ (by exact mF) (by
   exact jO) ?_
  rintro⟨x,y⟩ ⟨hx,hy,hg⟩ Q2 hQ2 he2 hr2;simp only[]at hx hy hg ⊢;have hxl:=zF hx;by_cases h0:y=0
  ·subst h0;rw[Nat.gcd_zero_right]at hg;have hp:¬(0:Int)<(((dg 65536 0).length:Nat):Int):=by rw[nP];decide
   subst hg;have n1:=(eX (dg 65536 (Nat.gcd u v)) (mQ dc _) om).frozen;rw[jS H2]at n1;refine aJ (ai @hp @qN) ?_;refine he2 _ _ ?_;exact jR @qN
  ·have hp:0<y:=Nat.pos_of_ne_zero h0;have hp2:(0:Int)<(((dg 65536 y).length:Nat):Int):=by
    have:dg 65536 y≠[]:=fun h=>h0 ((rE H2).1 h)
    have:=List.length_pos_iff.2 this;omega
   have hlt:=Nat.mod_lt x hp;obtain⟨q,q1,q2,q3,hd⟩:=Yp x y m hx hy om h0;have hyl:(dg 65536 (x%y)).length≤4*m:=zF (Nat.lt_trans hlt hy);have hcu:=sW (dg 65536 (x%y)) om;rw[zH]at hcu;refine qc (ai @hp2 @qN) ?_;refine hQ2 _ (y,x%y) ⟨hy,Nat.lt_trans hlt hy,?_⟩ hlt ?_
   ·simp only[];rw[←hg,Nat.gcd_comm x y,Nat.gcd_rec y x,Nat.gcd_comm]
   ·exact jO
