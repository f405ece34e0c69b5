import Derived.Test.YtoehbmlfnjlchaaGreatDoorGG
set_option linter.all false
set_option maxHeartbeats 10000000
namespace Go.Proofs.YtoehbmlfnjlchaaGreatDoor
open Go Go.RowKit Ab
def fG:=an @aU (an @qJ (an @d_ (an @Nat.div_one (an @Nat.mul_one (an @bI (an @gU (an @Af (an @gY (an @fK (an @sK (an @ed @wi)))))))))))
theorem xh(a:List Nat)(i x:Nat):(D a).set i (.i .i64 (x:Int))=D (a.set i x):=by simp[D]
theorem Jo(a:List Nat)(i:Nat):(Bl a).set i (.b true)=Bl (a.set i 1):=by simp[Bl]
theorem Xv(n:Nat):(List.replicate n [V.b false]).flatten=Bl (List.replicate n 0):=by
 induction n with
 |zero=>rfl
 |succ n ih=>rw[List.replicate_succ,List.flatten_cons,ih,List.replicate_succ];rfl
theorem mk_D(n:Nat):(List.replicate n [V.i .i64 0]).flatten=D (List.replicate n 0):=by
 induction n with
 |zero=>rfl
 |succ n ih=>rw[List.replicate_succ,List.flatten_cons,ih,List.replicate_succ];rfl
theorem CS{a:List Nat}(ha:Wd a):(dg 2 (nv B a)).length≤64*a.length:=vY dc (by
 have:=b_ ha;rwa[Xj,←Nat.pow_mul]at this)
def a84:AC:= .seq (.reg [qr 2 (.mv (.k (.i .i64 0)))]) (.seq (.reg [qm 3 0,qr 4 (.call 86 [(1,(.t 3))]),qr 5 (.len (.t 4)),qm 2 5]) (.ret))
theorem zo(a:List Nat)(ha:Wd a)(la:a.length≤10000000000):aF Tryz.prog J0 84 [.l 1 (W a)] (.i .i64 (((dg 2 (nv B a)).length:Nat):Int)):=by
 refine ja dB eY Tryz.func84 a84 ?_;unfold a84;simp only[ak,aH,qm,qr,qn];have MM:=uN a ha la;exact tC @fG
def a85:AC:= .seq (.reg [qr 2 (.mv (.k (.b false)))]) (.seq (.reg [qm 3 0,qr 4 (.call 84 [(1,(.t 3))]),qr 5 (.bin .eql (.t 4) (.k (.i .i64 0))),qm 2 5]) (.ret))
theorem Hg(a:List Nat)(ha:Wd a)(la:a.length≤10000000000):aF Tryz.prog J0 85 [.l 1 (W a)] (.b (decide (nv B a=0))):=by
 have e:((((dg 2 (nv B a)).length:Nat):Int)=0)=(nv B a=0):=by
  refine propext ⟨fun h=>(tJ (b:=2) dc).1 (List.eq_nil_of_length_eq_zero om),fun h=>by rw[h];rfl⟩
 refine ja dB eY Tryz.func85 a85 ?_;unfold a85;simp only[ak,aH,qm,qr,qn];have zc2:=zo a ha la;exact tC (ai @e @fG)
def a87:AC:= .seq (.reg [qr 4 (.mv (.k (.b false)))]) (.seq (.seq (.reg [qm 6 0,qr 7 (.len (.t 6)),qr 8 (.bin .sub (.t 7) (.k (.i .i64 1))),qm 5 8]) (.blk 0 (.loop (.seq (.seq (.reg [qm 9 5,qr 10 (.bin .geq (.t 9) (.k (.i .i64 0)))]) (.cond (.t 10) (.skip) (.exit 0))) (.seq (.blk 1 (.seq (.gp [qm 13 0,qm 14 5,qr 15 (.idx 1 (.t 13) (.t 14)),qr 16 (.ld false 1 (.t 15)),qm 17 1,qm 18 5,qr 19 (.idx 1 (.t 17) (.t 18)),qr 20 (.ld false 1 (.t 19)),qr 21 (.bin .neq (.t 16) (.t 20))]) (.cond (.t 21) (.seq (.gp [qm 22 0,qm 23 5,qr 24 (.idx 1 (.t 22) (.t 23)),qr 25 (.ld false 1 (.t 24)),qm 26 1,qm 27 5,qr 28 (.idx 1 (.t 26) (.t 27)),qr 29 (.ld false 1 (.t 28)),qr 30 (.bin .gtr (.t 25) (.t 29)),qm 4 30]) (.ret)) (.skip)))) (.reg [qm 11 5,qr 12 (.bin .sub (.t 11) (.k (.i .i64 1))),qm 5 12])))))) (.seq (.reg [qr 4 (.mv (.k (.b true)))]) (.ret)))
theorem zt(x y:List Nat)(hx:Lt 256 x)(hy:Lt 256 y)(hl:x.length=y.length)(lx:x.length≤1000000000000):
 aF Tryz.prog J0 87 [.l 1 (D x),.l 1 (D y)] (.b (decide (nv 256 y≤nv 256 x))):=by
 refine ja dB eY Tryz.func87 a87 ?_
 unfold a87
 simp only[ak,aH,qm,qr,qn]
 refine aP @fG ?_
 refine bD [] Nat (fun i=>⟨[(0,.l 1 (D x)),(1,.l 1 (D y)),(5,.i .i64 ((i:Int)-1))],[],0⟩) (fun i=>i≤x.length∧∀j,i≤j→x.getD j 0=y.getD j 0) (fun i=>i) x.length
  ⟨Nat.le_refl _,fun j hj=>by rw[List.getD_eq_getElem?_getD,List.getD_eq_getElem?_getD,List.getElem?_eq_none hj,List.getElem?_eq_none om]⟩ (by exact ni) (by
  simp(disch:=(first|omega|assumption)) only[Sl,Sa,Sw,↓reduceIte,Nat.reduceEqDiff,Nat.reduceLT,List.all_nil,List.all_cons,Nat.reduceBneDiff,Nat.reduceAdd,bne_iff_ne,ne_eq,reduceCtorEq,not_false_eq_true,not_true_eq_false,Bool.and_true,Bool.true_and,and_true,true_and,and_self,iE]
  try rfl) ?_
 intro i ⟨hi,hj⟩ Q' hQ he hr
 cases i with
 |zero=>
  have e:=Qp hl hj;subst e;refine aP @fG ?_;refine he _ _ ?_;exact Tu (ai @Nat.le_refl @fG)
 |succ k=>
  have g1:(0:Int)≤((k+1:Nat):Int)-1:=om;have g2:(((k+1:Nat):Int)-1).toNat=k:=om;by_cases h1:x.getD k 0=y.getD k 0
  ·have h2:(((x.getD k 0:Nat):Int)=((y.getD k 0:Nat):Int))=True:=eq_true (by rw[h1]);refine aP (ai @h2 (ai @mG (ai @g2 (ai @g1 @fG)))) ?_;refine hQ _ k ⟨om,fun j hk=>?_⟩ om ?_
   ·rcases Nat.lt_or_ge k j with h3|h3
    ·exact hj j h3
    ·obtain rfl:j=k:=om;exact h1
   ·refine iP trivial ?_;omega
  ·have h2:(((x.getD k 0:Nat):Int)=((y.getD k 0:Nat):Int))=False:=eq_false (fun h=>h1 om);have e:=Qo hx hy k hj h1;have h3:(((y.getD k 0:Nat):Int)<((x.getD k 0:Nat):Int))=(nv 256 y≤nv 256 x):=by rw[←e];exact propext om
   refine aP (ai @h2 (ai @mG (ai @g2 (ai @g1 @fG)))) ?_;refine hr _ ?_;exact Tu (ai @h3 @fG)
def a60:AC:= .seq (.reg [qr 4 (.mv (.k .nl)),qr 5 (.mv (.k .nl)),qr 6 (.mv (.k (.i .i64 0)))]) (.seq (.seq (.reg [qm 18 1,qr 19 (.call 85 [(1,(.t 18))])]) (.cond (.t 19) (.seq (.reg [qr 4 (.mv (.k .nl)),qr 5 (.mv (.k .nl)),qr 6 (.mv (.k (.i .i64 1)))]) (.ret)) (.skip))) (.seq (.reg [qr 20 (.nz 3 1 0 [] []),qm 21 1,qr 22 (.call 81 [(1,(.t 21))]),qr 23 (.app 3 1 8 (.t 20) (.t 22)),qr 24 (.nz 3 1 1 [(.i .i64 0)] [(0,(.k (.i .i64 0)))]),qr 25 (.app 3 1 8 (.t 23) (.t 24)),qm 7 25]) (.seq (.reg [qm 26 0,qr 27 (.call 86 [(1,(.t 26))]),qm 8 27]) (.seq (.reg [qm 28 8,qr 29 (.len (.t 28)),qr 30 (.mk 4 1 1 [(.b false)] (.t 29) (.t 29)),qm 9 30]) (.seq (.reg [qm 31 7,qr 32 (.len (.t 31)),qr 33 (.mk 3 1 8 [(.i .i64 0)] (.t 32) (.t 32)),qm 10 33]) (.seq (.seq (.reg [qm 34 8,qr 35 (.len (.t 34)),qr 36 (.bin .sub (.t 35) (.k (.i .i64 1))),qm 11 36]) (.blk 0 (.loop (.seq (.seq (.reg [qm 37 11,qr 38 (.bin .geq (.t 37) (.k (.i .i64 0)))]) (.cond (.t 38) (.skip) (.exit 0))) (.seq (.blk 1 (.seq (.reg [qr 12 (.mv (.k (.i .i64 0)))]) (.seq (.seq (.reg [qm 41 8,qm 42 11,qr 43 (.idx 1 (.t 41) (.t 42)),qr 44 (.ld false 1 (.t 43))]) (.cond (.t 44) (.reg [qr 12 (.mv (.k (.i .i64 1)))]) (.skip))) (.seq (.seq (.reg [qr 13 (.mv (.k (.i .i64 0)))]) (.blk 2 (.loop (.seq (.seq (.reg [qm 45 13,qm 46 10,qr 47 (.len (.t 46)),qr 48 (.bin .lss (.t 45) (.t 47))]) (.cond (.t 48) (.skip) (.exit 2))) (.seq (.blk 3 (.seq (.reg [qm 51 10,qm 52 13,qr 53 (.idx 1 (.t 51) (.t 52)),qr 54 (.ld false 1 (.t 53)),qr 55 (.bin .mul (.k (.i .i64 2)) (.t 54)),qm 56 12,qr 57 (.bin .add (.t 55) (.t 56)),qm 14 57]) (.seq (.reg [qm 58 10,qm 59 13,qm 60 14,qr 61 (.bin .rem (.t 60) (.k (.i .i64 256))),qr 62 (.idx 1 (.t 58) (.t 59)),qn (.st 1 (.t 62) (.t 61))]) (.reg [qm 63 14,qr 64 (.bin .quo (.t 63) (.k (.i .i64 256))),qm 12 64])))) (.reg [qm 49 13,qr 50 (.bin .add (.t 49) (.k (.i .i64 1))),qm 13 50])))))) (.seq (.reg [qm 65 10,qm 66 7,qr 67 (.call 87 [(1,(.t 65)),(1,(.t 66))])]) (.cond (.t 67) (.seq (.reg [qm 68 9,qm 69 11,qr 70 (.idx 1 (.t 68) (.t 69)),qn (.st 1 (.t 70) (.k (.b true)))]) (.seq (.reg [qr 15 (.mv (.k (.i .i64 0)))]) (.seq (.reg [qr 16 (.mv (.k (.i .i64 0)))]) (.blk 4 (.loop (.seq (.seq (.reg [qm 71 16,qm 72 10,qr 73 (.len (.t 72)),qr 74 (.bin .lss (.t 71) (.t 73))]) (.cond (.t 74) (.skip) (.exit 4))) (.seq (.blk 5 (.seq (.gp [qm 77 10,qm 78 16,qr 79 (.idx 1 (.t 77) (.t 78)),qr 80 (.ld false 1 (.t 79)),qm 81 7,qm 82 16,qr 83 (.idx 1 (.t 81) (.t 82)),qr 84 (.ld false 1 (.t 83)),qr 85 (.bin .sub (.t 80) (.t 84)),qm 86 15,qr 87 (.bin .sub (.t 85) (.t 86)),qm 17 87]) (.seq (.reg [qr 15 (.mv (.k (.i .i64 0)))]) (.seq (.seq (.reg [qm 88 17,qr 89 (.bin .lss (.t 88) (.k (.i .i64 0)))]) (.cond (.t 89) (.seq (.reg [qm 90 17,qr 91 (.bin .add (.t 90) (.k (.i .i64 256))),qm 17 91]) (.reg [qr 15 (.mv (.k (.i .i64 1)))])) (.skip))) (.reg [qm 92 10,qm 93 16,qm 94 17,qr 95 (.idx 1 (.t 92) (.t 93)),qn (.st 1 (.t 95) (.t 94))]))))) (.reg [qm 75 16,qr 76 (.bin .add (.t 75) (.k (.i .i64 1))),qm 16 76])))))))) (.skip))))))) (.reg [qm 39 11,qr 40 (.bin .sub (.t 39) (.k (.i .i64 1))),qm 11 40])))))) (.seq (.reg [qm 96 9,qr 97 (.call 88 [(1,(.t 96))]),qm 98 10,qr 99 (.call 79 [(1,(.t 98))]),qm 4 97,qm 5 99,qr 6 (.mv (.k (.i .i64 0)))]) (.ret))))))))
theorem Bj(a b:List Nat)(ha:Wd a)(hb:Wd b)(la:a.length≤1000000000)(lb:b.length≤1000000000):
 aF Tryz.prog J0 60 [.l 1 (W a),.l 1 (W b)] (.t [.l 1 (W (qQ (nv B a) (nv B b))),.l 1 (W (qR (nv B a) (nv B b))),.i .i64 (qE (nv B b))]):=by
 have hz:=Hg b hb om
 have hdl:=gW hb
 have hdg:=dG b hb om
 have hrl:=CS ha
 have hrow:=uN a ha om
 have hrv:∀i,(dg 2 (nv B a)).getD i 0=nv B a/2^i%2:=fun i=>by
  rw[iQ (b:=2) dc (jM dc _),jd dc]
 have hA:nv B a<2^(dg 2 (nv B a)).length:=by
  have:=b_ (jM (b:=2) dc (nv B a));rwa[jd dc]at this
 have hbv:=b_ (jM (b:=256) dc (nv B b))
 rw[jd dc]at hbv
 have hbn:nv 256 (dg 256 (nv B b)++[0])=nv B b:=by rw[mr,vW,jd dc];omega
 have hbL:Lt 256 (dg 256 (nv B b)++[0]):=BV.2 ⟨jM dc _,fun x hx=>by rw[List.mem_singleton]at hx;omega⟩
 have hbl:(dg 256 (nv B b)++[0]).length=(dg 256 (nv B b)).length+1:=sy
 generalize dg 256 (nv B b)=d at*
 generalize dg 2 (nv B a)=row at*
 generalize nv B a=A at*
 generalize nv B b=b' at*
 refine ja dB eY Tryz.func60 a60 ?_
 unfold a60
 simp only[ak,aH,qm,qr,qn]
 by_cases h0:b'=0
 ·subst h0;rw[Qq,Qr,Qs];exact tC @fG
 ·have hb0:0<b':=om;rw[Hf hb0,LH hb0];obtain⟨n,hn⟩:∃n,n=d.length+1:=⟨_,rfl⟩;obtain⟨y,hy⟩:∃y,y=d++[0]:=⟨_,rfl⟩;rw[←hy,←hn]at hbl;rw[←hy]at hbn hbL;have hDy:D d++[V.i .i64 0]=D y:=by rw[hy];exact tK d 0
  have hb1:2*b'≤256^n:=by rw[hn,Nat.pow_succ];omega
  have hyg:∀k,k<n→y.getD k 0=b'/256^k%256:=fun k _=>by rw[iQ (b:=256) dc hbL,hbn]
  have hDl:((d.length:Int)+1)=(n:Int):=om;have hn0:(0:Int)≤n:=om;refine tu (ai @mk_D (ai @Xv (ai @hbl (ai @hDl (ai @PK (ai @hDy (ai @aaw (ai @h0 @fG)))))))) ?_;obtain⟨L,hL⟩:∃L,L=row.length:=⟨_,rfl⟩;rw[←hL]at hA;have hLl:L≤64*1000000000:=om;have fln:∀v,(fl 256 n v).length=n:=fun v=>bC _ _
  have hyD:(D y).length=n:=by rw[qJ,hbl]
  refine bD [] Nat (fun i=>⟨[(7,.ow 1 0 n),(8,.l 1 (Bl row)),(9,.ow 1 1 L),(10,.ow 1 2 n),(11,.i .i64 ((i:Int)-1))],
   [(0,some ⟨3,1,D y,true,false⟩),(1,some ⟨4,1,Bl (Bh A b' L i),true,false⟩),(2,some ⟨3,1,D (fl 256 n (A/2^i%b')),true,false⟩)],3⟩)
   (fun i=>i≤L) (fun i=>i) L (Nat.le_refl _) (by exact ni) (by
   refine iP trivial ?_
   have z1:Bl (List.replicate row.length 0)=Bl (Bh A b' L L):=by unfold Bh;rw[Nat.sub_self,fl,List.append_nil,hL]
   have z2:D (List.replicate n 0)=D (fl 256 n (A/2^L%b')):=by rw[Nat.div_eq_of_lt hA,Nat.zero_mod,I5]
   repeat' first|rfl|omega|(simp only[List.length_append,List.length_cons,List.length_nil];done)|apply And.intro
   all_goals first|exact z1|(rw[Nat.zero_add,←hn];exact z2)) ?_
  intro i hi Q' hQ he hr;cases i with
  |zero=>
   have hq:nv 2 (Bh A b' L 0)=A/b':=by
    unfold Bh;rw[List.replicate_zero,List.nil_append,kQ,Nat.pow_zero,Nat.div_one,Nat.sub_zero,Nat.mod_eq_of_lt (Nat.lt_of_le_of_lt (Nat.div_le_self _ _) hA)]
   have Xw:Lt 2 (Bh A b' L 0):=by unfold Bh;rw[List.replicate_zero,List.nil_append];exact jG dc _ _
   have hor:=pJ (Bh A b' L 0) Xw (by rw[CQ (Nat.zero_le _)];omega);rw[hq]at hor;have hof:=pI (fl 256 n (A/2^0%b')) (jG dc _ _) (by rw[fln];omega);have hrn:A%b'%256^n=A%b':=Nat.mod_eq_of_lt (by have:=Nat.mod_lt A hb0;omega);rw[kQ,Nat.pow_zero,Nat.div_one,hrn]at hof;rw[Nat.pow_zero,Nat.div_one];refine aP @fG ?_;refine he _ _ ?_;repeat first|(refine hK _ ?_;clear hK K)|simp only[Sv,↓reduceIte,Nat.reduceEqDiff]|((first|refine aI (fun K hK=>?_)|refine aT (fun K hK=>?_)|refine aK (fun K hK=>?_)|refine oh ?_|refine kC (by assumption) ?_|refine oz ?_|(apply kD;assumption)|(apply kz;assumption));simp(disch:=(first|omega|assumption)) only[S1,↓reduceIte,Nat.reduceEqDiff,Nat.reduceAdd,Nat.reduceMul,Nat.reduceDiv,bY.sb,bY.mut,dH,↓Bool.false_eq_true,beq_self_eq_true,ite_self,Nat.reduceLeDiff,Int.reduceEq,Int.reduceSub,Int.reduceAdd,Int.reduceNeg,Int.reduceLT,Int.reduceLE,Nat.reduceLT,fG,qQ])
   simp(disch:=(first|omega|assumption)) only[fO,iD,iK,ku,gG,V.aV,and_true,true_and,S1,↓reduceIte,Nat.reduceEqDiff,Nat.reduceAdd,Nat.reduceMul,Nat.reduceDiv,bY.sb,bY.mut,dH,↓Bool.false_eq_true,beq_self_eq_true,ite_self,Nat.reduceLeDiff,Int.reduceEq,Int.reduceSub,Int.reduceAdd,Int.reduceNeg,Int.reduceLT,Int.reduceLE,Nat.reduceLT,fG,qQ]
  |succ k=>
   obtain⟨R,hR⟩:∃R,R=A/2^(k+1)%b':=⟨_,rfl⟩;rw[←hR];have hRb:R<b':=by rw[hR];exact Nat.mod_lt _ hb0
   have hk:(((k+1:Nat):Int)-1)=(k:Int):=om;have hk0:(0:Int)≤(k:Int):=om;have hkr:k<row.length:=om;have hsp:=LG A k;have hrk:=hrv k;rw[hk];by_cases hbit:row.getD k 0=1
   ·have hbb:decide (row.getD k 0=1)=true:=decide_eq_true hbit;obtain⟨c,hc⟩:∃c:Nat,c=1:=⟨_,rfl⟩;have hcI:(c:Int)=1:=om;have hc1:c≤1:=om;rw[hrk,←hc]at hbit;obtain⟨qb1,qb2⟩:=Jn (V:=A/2^(k+1)) (b:=b') (c:=c) hb0 hc1;have hsp':2*(A/2^(k+1))+c=A/2^k:=om;rw[hsp',←hR]at qb1 qb2;obtain⟨X,hX⟩:∃X,X=2*R+c:=⟨_,rfl⟩;have hXn:X<256^n:=om;rw[←hX]at qb1 qb2;have hle:=zt (fl 256 n X) y (jG dc _ _) hbL (by rw[fln,hbl]) (by rw[fln];omega);rw[hbn,kQ,Nat.mod_eq_of_lt hXn]at hle;refine aP (ai @hbb (ai @v_ (ai @hk0 @fG))) ?_;refine bD [] Nat (fun j=>⟨[(7,.ow 1 0 n),(8,.l 1 (Bl row)),(9,.ow 1 1 L),(10,.ow 1 2 n),(11,.i .i64 (k:Int)),(12,.i .i64 ((Lu R c j:Nat):Int)),(13,.i .i64 (j:Int))],
     [(0,some ⟨3,1,D y,true,false⟩),(1,some ⟨4,1,Bl (Bh A b' L (k+1)),true,false⟩),(2,some ⟨3,1,D (Lr n R c j),true,false⟩)],3⟩)
     (fun j=>j≤n) (fun j=>n-j) 0 (Nat.zero_le _) (by exact ni) (by
     refine iP trivial ?_
     rw[Xp,Xo]
     repeat' first|rfl|omega|(simp only[List.length_append,List.length_cons,List.length_nil];done)|apply And.intro) ?_
    intro j hj Q'' hQ' he' hr';by_cases hjn:(j:Int)<n
    ·have Hl:j<n:=om;have g1:=Jh (n:=n) (R:=R) (c:=c) (k:=j) om;have g2:=Ji (n:=n) (R:=R) (c:=c) Hl;have g3:=Jj (n:=n) (R:=R) (c:=c) Hl;have g4:=Ey (R:=R) (c:=c) (k:=j);have g5:=Qm (R:=R) (k:=j) hc1;have g6:R/256^j%256<256:=Nat.mod_lt _ dc;obtain⟨x,hx⟩:∃x,x=R/256^j%256:=⟨_,rfl⟩;obtain⟨s,hs⟩:∃s,s=Lu R c j:=⟨_,rfl⟩;rw[←hx]at g2 g3 g4 g6;rw[←hs]at g3 g4 g5 ⊢;have hsum:(2:Int)*(x:Int)+(s:Int)=((2*x+s:Nat):Int):=om;obtain⟨t,ht⟩:∃t,t=2*x+s:=⟨_,rfl⟩;rw[←ht]at g3 g4 hsum;repeat first
      |(refine hK _ ?_;clear hK K)
      |((first|refine aI (fun K hK=>?_)|refine aT (fun K hK=>?_)|refine aK (fun K hK=>?_));simp(disch:=(first|omega|assumption)) only[S1,↓reduceIte,Nat.reduceEqDiff,Nat.reduceAdd,Nat.reduceMul,Nat.reduceDiv,bY.sb,bY.mut,dH,↓Bool.false_eq_true,beq_self_eq_true,ite_self,Nat.reduceLeDiff,Int.reduceEq,Int.reduceSub,Int.reduceAdd,Int.reduceNeg,Int.reduceLT,Int.reduceLE,Nat.reduceLT,fG,hjn,g1,mG,g2,hsum,mP,mQ,xh,g3];refine hK _ ?_;clear hK K)
      |simp only[Sv,↓reduceIte,Nat.reduceEqDiff]
     refine hQ' _ (j+1) Hl om ?_;refine iP trivial ?_;rw[←g4];repeat' first|rfl|omega|(simp only[List.length_append,List.length_cons,List.length_nil];done)|apply And.intro
    ·obtain rfl:j=n:=om;rw[Xq,←hX];by_cases hbX:b'≤X
     ·obtain⟨r1,r2⟩:=qb1 hbX;have qB:=zi (A:=A) (b:=b') (L:=L) hi 1 (by rw[r1];omega) (by rw[r1];omega);have hdb:decide (b'≤X)=true:=decide_eq_true hbX;rw[hdb]at hle;have Xw:=CQ (A:=A) (b:=b') hi;refine aP (ai @hjn @fG) ?_;refine he' _ _ ?_;refine tu (ai @qB (ai @Jo (ai @Xw @fG))) ?_;refine bD [] Nat (fun m=>⟨[(7,.ow 1 0 j),(8,.l 1 (Bl row)),(9,.ow 1 1 L),(10,.ow 1 2 j),(11,.i .i64 (k:Int)),(15,.i .i64 ((LD X b' m:Nat):Int)),(16,.i .i64 (m:Int))],
       [(0,some ⟨3,1,D y,true,false⟩),(1,some ⟨4,1,Bl (Bh A b' L k),true,false⟩),(2,some ⟨3,1,D (LC j X b' m),true,false⟩)],3⟩)
       (fun m=>m≤j) (fun m=>j-m) 0 (Nat.zero_le _) (by exact ni) (by
       refine iP trivial ?_
       rw[Xt,Xr]
       repeat' first|rfl|omega|(simp only[List.length_append,List.length_cons,List.length_nil];done)|apply And.intro) ?_
      intro m hm Q3 hQ3 he3 hr3;by_cases hmn:(m:Int)<j
      ·have wI:m<j:=om;have hb2:b'<256^j:=om;have g1:=Jk (n:=j) (R:=X) (Y:=b') (k:=m) om;have g2:=Jl (n:=j) (R:=X) (Y:=b') wI;have g3:=Jm (n:=j) (R:=X) hb2 wI;have g4:=(CP (n:=j) (R:=X) hb2 wI).2;have g5:=Qn (R:=X) (Y:=b') (k:=m);have g6:X/256^m%256<256:=Nat.mod_lt _ dc;have g7:b'/256^m%256<256:=Nat.mod_lt _ dc;have g8:=hyg m wI;obtain⟨x,hx⟩:∃x,x=X/256^m%256:=⟨_,rfl⟩;obtain⟨z,hz⟩:∃z,z=b'/256^m%256:=⟨_,rfl⟩;obtain⟨s,hs⟩:∃s,s=LD X b' m:=⟨_,rfl⟩;rw[←hx]at g2 g3 g4 g6;rw[←hz]at g3 g4 g7 g8;rw[←hs]at g3 g4 g5 ⊢;by_cases h2:(x:Int)-(z:Int)-(s:Int)<0
       ·obtain⟨d2,hd2⟩:∃d2:Nat,d2=x+256-(z+s):=⟨_,rfl⟩;have hd3:(x:Int)-(z:Int)-(s:Int)+256=(d2:Int):=om;rw[show(x+256-(z+s))%256=d2 from om]at g3;rw[if_pos om]at g4;refine aP (ai @g3 (ai @xh (ai @hd3 (ai @h2 (ai @g8 (ai @g2 (ai @mG (ai @hbl (ai @g1 (ai @hmn @fG)))))))))) ?_;refine hQ3 _ (m+1) wI om ?_;refine iP trivial ?_;rw[g4];repeat' first|rfl|omega|(simp only[List.length_append,List.length_cons,List.length_nil];done)|apply And.intro
       ·obtain⟨d2,hd2⟩:∃d2:Nat,d2=x-(z+s):=⟨_,rfl⟩;have hd3:(x:Int)-(z:Int)-(s:Int)=(d2:Int):=om;rw[show(x+256-(z+s))%256=d2 from om]at g3;rw[if_neg om]at g4;rw[hd3]at h2;refine aP (ai @g3 (ai @xh (ai @hd3 (ai @h2 (ai @g8 (ai @g2 (ai @mG (ai @hbl (ai @g1 (ai @hmn @fG)))))))))) ?_;refine hQ3 _ (m+1) wI om ?_;refine iP trivial ?_;rw[g4];repeat' first|rfl|omega|(simp only[List.length_append,List.length_cons,List.length_nil];done)|apply And.intro
      ·obtain rfl:m=j:=om;rw[Xu hbX,←r2];refine aP (ai @hmn @fG) ?_;refine he3 _ _ ?_;refine aP @fG ?_;refine hQ _ k om om ?_;exact qj
     ·obtain⟨r1,r2⟩:=qb2 (Nat.lt_of_not_le hbX);have qB:=Ez (A:=A) (b:=b') (L:=L) hi (by rw[r1];omega) (by rw[r1];omega);have hdb:decide (b'≤X)=false:=decide_eq_false hbX;rw[hdb]at hle;rw[qB];refine aP (ai @hjn @fG) ?_;refine he' _ _ ?_;refine tu @fG ?_;refine hQ _ k om om ?_;refine iP trivial ?_;rw[r2];repeat' first|rfl|omega|(simp only[List.length_append,List.length_cons,List.length_nil];done)|apply And.intro
   ·have hbb:decide (row.getD k 0=1)=false:=decide_eq_false hbit;replace hbit:row.getD k 0=0:=by have:=hrk;omega
    obtain⟨c,hc⟩:∃c:Nat,c=0:=⟨_,rfl⟩;have hcI:(c:Int)=0:=om;have hc1:c≤1:=om;rw[hrk,←hc]at hbit;obtain⟨qb1,qb2⟩:=Jn (V:=A/2^(k+1)) (b:=b') (c:=c) hb0 hc1;have hsp':2*(A/2^(k+1))+c=A/2^k:=om;rw[hsp',←hR]at qb1 qb2;obtain⟨X,hX⟩:∃X,X=2*R+c:=⟨_,rfl⟩;have hXn:X<256^n:=om;rw[←hX]at qb1 qb2;have hle:=zt (fl 256 n X) y (jG dc _ _) hbL (by rw[fln,hbl]) (by rw[fln];omega);rw[hbn,kQ,Nat.mod_eq_of_lt hXn]at hle;refine aP (ai @hbb (ai @v_ (ai @hk0 @fG))) ?_;refine bD [] Nat (fun j=>⟨[(7,.ow 1 0 n),(8,.l 1 (Bl row)),(9,.ow 1 1 L),(10,.ow 1 2 n),(11,.i .i64 (k:Int)),(12,.i .i64 ((Lu R c j:Nat):Int)),(13,.i .i64 (j:Int))],
     [(0,some ⟨3,1,D y,true,false⟩),(1,some ⟨4,1,Bl (Bh A b' L (k+1)),true,false⟩),(2,some ⟨3,1,D (Lr n R c j),true,false⟩)],3⟩)
     (fun j=>j≤n) (fun j=>n-j) 0 (Nat.zero_le _) (by exact ni) (by
     refine iP trivial ?_
     rw[Xp,Xo]
     repeat' first|rfl|omega|(simp only[List.length_append,List.length_cons,List.length_nil];done)|apply And.intro) ?_
    intro j hj Q'' hQ' he' hr';by_cases hjn:(j:Int)<n
    ·have Hl:j<n:=om;have g1:=Jh (n:=n) (R:=R) (c:=c) (k:=j) om;have g2:=Ji (n:=n) (R:=R) (c:=c) Hl;have g3:=Jj (n:=n) (R:=R) (c:=c) Hl;have g4:=Ey (R:=R) (c:=c) (k:=j);have g5:=Qm (R:=R) (k:=j) hc1;have g6:R/256^j%256<256:=Nat.mod_lt _ dc;obtain⟨x,hx⟩:∃x,x=R/256^j%256:=⟨_,rfl⟩;obtain⟨s,hs⟩:∃s,s=Lu R c j:=⟨_,rfl⟩;rw[←hx]at g2 g3 g4 g6;rw[←hs]at g3 g4 g5 ⊢;have hsum:(2:Int)*(x:Int)+(s:Int)=((2*x+s:Nat):Int):=om;obtain⟨t,ht⟩:∃t,t=2*x+s:=⟨_,rfl⟩;rw[←ht]at g3 g4 hsum;repeat first
      |(refine hK _ ?_;clear hK K)
      |((first|refine aI (fun K hK=>?_)|refine aT (fun K hK=>?_)|refine aK (fun K hK=>?_));simp(disch:=(first|omega|assumption)) only[S1,↓reduceIte,Nat.reduceEqDiff,Nat.reduceAdd,Nat.reduceMul,Nat.reduceDiv,bY.sb,bY.mut,dH,↓Bool.false_eq_true,beq_self_eq_true,ite_self,Nat.reduceLeDiff,Int.reduceEq,Int.reduceSub,Int.reduceAdd,Int.reduceNeg,Int.reduceLT,Int.reduceLE,Nat.reduceLT,fG,hjn,g1,mG,g2,hsum,mP,mQ,xh,g3];refine hK _ ?_;clear hK K)
      |simp only[Sv,↓reduceIte,Nat.reduceEqDiff]
     refine hQ' _ (j+1) Hl om ?_;refine iP trivial ?_;rw[←g4];repeat' first|rfl|omega|(simp only[List.length_append,List.length_cons,List.length_nil];done)|apply And.intro
    ·obtain rfl:j=n:=om;rw[Xq,←hX];by_cases hbX:b'≤X
     ·obtain⟨r1,r2⟩:=qb1 hbX;have qB:=zi (A:=A) (b:=b') (L:=L) hi 1 (by rw[r1];omega) (by rw[r1];omega);have hdb:decide (b'≤X)=true:=decide_eq_true hbX;rw[hdb]at hle;have Xw:=CQ (A:=A) (b:=b') hi;refine aP (ai @hjn @fG) ?_;refine he' _ _ ?_;refine tu (ai @qB (ai @Jo (ai @Xw @fG))) ?_;refine bD [] Nat (fun m=>⟨[(7,.ow 1 0 j),(8,.l 1 (Bl row)),(9,.ow 1 1 L),(10,.ow 1 2 j),(11,.i .i64 (k:Int)),(15,.i .i64 ((LD X b' m:Nat):Int)),(16,.i .i64 (m:Int))],
       [(0,some ⟨3,1,D y,true,false⟩),(1,some ⟨4,1,Bl (Bh A b' L k),true,false⟩),(2,some ⟨3,1,D (LC j X b' m),true,false⟩)],3⟩)
       (fun m=>m≤j) (fun m=>j-m) 0 (Nat.zero_le _) (by exact ni) (by
       refine iP trivial ?_
       rw[Xt,Xr]
       repeat' first|rfl|omega|(simp only[List.length_append,List.length_cons,List.length_nil];done)|apply And.intro) ?_
      intro m hm Q3 hQ3 he3 hr3;by_cases hmn:(m:Int)<j
      ·have wI:m<j:=om;have hb2:b'<256^j:=om;have g1:=Jk (n:=j) (R:=X) (Y:=b') (k:=m) om;have g2:=Jl (n:=j) (R:=X) (Y:=b') wI;have g3:=Jm (n:=j) (R:=X) hb2 wI;have g4:=(CP (n:=j) (R:=X) hb2 wI).2;have g5:=Qn (R:=X) (Y:=b') (k:=m);have g6:X/256^m%256<256:=Nat.mod_lt _ dc;have g7:b'/256^m%256<256:=Nat.mod_lt _ dc;have g8:=hyg m wI;obtain⟨x,hx⟩:∃x,x=X/256^m%256:=⟨_,rfl⟩;obtain⟨z,hz⟩:∃z,z=b'/256^m%256:=⟨_,rfl⟩;obtain⟨s,hs⟩:∃s,s=LD X b' m:=⟨_,rfl⟩;rw[←hx]at g2 g3 g4 g6;rw[←hz]at g3 g4 g7 g8;rw[←hs]at g3 g4 g5 ⊢;by_cases h2:(x:Int)-(z:Int)-(s:Int)<0
       ·obtain⟨d2,hd2⟩:∃d2:Nat,d2=x+256-(z+s):=⟨_,rfl⟩;have hd3:(x:Int)-(z:Int)-(s:Int)+256=(d2:Int):=om;rw[show(x+256-(z+s))%256=d2 from om]at g3;rw[if_pos om]at g4;refine aP (ai @g3 (ai @xh (ai @hd3 (ai @h2 (ai @g8 (ai @g2 (ai @mG (ai @hbl (ai @g1 (ai @hmn @fG)))))))))) ?_;refine hQ3 _ (m+1) wI om ?_;refine iP trivial ?_;rw[g4];repeat' first|rfl|omega|(simp only[List.length_append,List.length_cons,List.length_nil];done)|apply And.intro
       ·obtain⟨d2,hd2⟩:∃d2:Nat,d2=x-(z+s):=⟨_,rfl⟩;have hd3:(x:Int)-(z:Int)-(s:Int)=(d2:Int):=om;rw[show(x+256-(z+s))%256=d2 from om]at g3;rw[if_neg om]at g4;rw[hd3]at h2;refine aP (ai @g3 (ai @xh (ai @hd3 (ai @h2 (ai @g8 (ai @g2 (ai @mG (ai @hbl (ai @g1 (ai @hmn @fG)))))))))) ?_;refine hQ3 _ (m+1) wI om ?_;refine iP trivial ?_;rw[g4];repeat' first|rfl|omega|(simp only[List.length_append,List.length_cons,List.length_nil];done)|apply And.intro
      ·obtain rfl:m=j:=om;rw[Xu hbX,←r2];refine aP (ai @hmn @fG) ?_;refine he3 _ _ ?_;refine aP @fG ?_;refine hQ _ k om om ?_;exact qj
     ·obtain⟨r1,r2⟩:=qb2 (Nat.lt_of_not_le hbX);have qB:=Ez (A:=A) (b:=b') (L:=L) hi (by rw[r1];omega) (by rw[r1];omega);have hdb:decide (b'≤X)=false:=decide_eq_false hbX;rw[hdb]at hle;rw[qB];refine aP (ai @hjn @fG) ?_;refine he' _ _ ?_;refine tu @fG ?_;refine hQ _ k om om ?_;refine iP trivial ?_;rw[r2];repeat' first|rfl|omega|(simp only[List.length_append,List.length_cons,List.length_nil];done)|apply And.intro
end Go.Proofs.YtoehbmlfnjlchaaGreatDoor
namespace Go.Proofs.YtoehbmlfnjlchaaGreatDoor
open Go Go.RowKit Ab
def bz_R2:=an @wi (an @bI (an @Nat.div_one (an @Nat.mul_one (an @aU (an @gU (an @gQ (an @fK @dD)))))))
theorem Wd1{x:Nat}(h:x<18446744073709551616):Wd [x]:=fun y hy=>by rw[List.mem_singleton]at hy;rw[hy];exact h
def a64:AC:= .seq (.reg [qr 4 (.mv (.k .nl)),qr 5 (.mv (.k (.i .i64 0)))]) (.seq (.reg [qm 10 0,qm 11 1,qr 12 (.call 60 [(1,(.t 10)),(1,(.t 11))]),qm 9 12,qr 13 (.ext (.t 9) 0),qr 14 (.ext (.t 9) 1),qr 15 (.ext (.t 9) 2),qm 6 13,qm 7 14,qm 8 15]) (.seq (.reg [qm 16 7,qm 17 8,qm 4 16,qm 5 17]) (.ret)))
theorem LJ(a b:List Nat)(ha:Wd a)(hb:Wd b)(la:a.length≤1000000000)(lb:b.length≤1000000000):
 aF Tryz.prog J0 64 [.l 1 (W a),.l 1 (W b)] (.t [.l 1 (W (qR (nv B a) (nv B b))),.i .i64 (qE (nv B b))]):=by
 refine ja dB eY Tryz.func64 a64 ?_
 unfold a64
 simp only[ak,aH,qm,qr,qn]
 have MM:=Bj a b ha hb la lb
 exact tC (ai @PI (ai @aW @bz_R2))
end Go.Proofs.YtoehbmlfnjlchaaGreatDoor
namespace Go.Proofs.YtoehbmlfnjlchaaGreatDoor
open Go Go.RowKit Ab
