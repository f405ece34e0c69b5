import Derived.StillTail
import Derived.BigFrame
import Derived.Test.YtcgfgifjkkmmcaaGreatDoorU9
import Derived.Test.YtcgfgifjkkmmcaaGreatDoorRc
import Derived.Test.YtcgfgifjkkmmcaaGreatDoorHC
import Derived.Test.YtcgfgifjkkmmcaaGreatDoorAR1
import Derived.Test.YtcgfgifjkkmmcaaGreatDoorHD
set_option linter.all false
set_option maxRecDepth 2000000
set_option maxHeartbeats 10000000
namespace Go.Proofs.YtcgfgifjkkmmcaaGreatDoor
section
open Go Go.RowKit Ab
def jF:=an @Bool.false_and (an @wi (an @aO (an @Nat.div_one (an @Nat.mul_one (an @aH (an @eY (an @dh (an @dF (an @cZ @lX)))))))))
def zI(s:Bool)(n:Nat):Int:=if s then -(n:Int)else(n:Int)
abbrev zL(s:Bool)(a:List Nat):V:= .g [.b s,.l 1 (W a)]
abbrev zN(z:Int):V:= .g [.b (decide (z<0)),.l 1 (W (dg B z.natAbs))]
def zv(s:Bool)(a:List Nat):Int:=zI s (nv B a)
theorem AZ(s:Bool)(n:Nat):(zI s n).natAbs=n:=by unfold zI;split<;>omega
theorem HY(s:Bool)(a:List Nat):(zv s a).natAbs=nv B a:=AZ s _
theorem Jq(s:Bool)(n:Nat):decide (zI s n<0)=(s&&decide (0<n)):=by
 unfold zI;cases s
 ·simp
 ·simp
theorem zN_I(s:Bool)(n:Nat):zN (zI s n)= .g [.b (s&&decide (0<n)),.l 1 (W (dg B n))]:=by
 show V.g [.b (decide (zI s n<0)),.l 1 (W (dg B (zI s n).natAbs))]=_;rw[AZ,Jq]
theorem dJ(z:Int):zv (decide (z<0)) (dg B z.natAbs)=z:=by
 unfold zv zI;rw[aS];by_cases h:z<0
 ·simp[h];omega
 ·simp[h];omega
theorem Dv(z:Int):zI (decide (z<0)) z.natAbs=z:=by
 unfold zI;by_cases h:z<0
 ·simp[h];omega
 ·simp[h];omega
theorem uN{n:Nat}:((0:Int)<(((dg B n).length:Nat):Int))=(0<n):=by
 have h:=rE (b:=B) B2 (v:=n);refine propext ⟨fun h1=>?_,fun h1=>?_⟩
 ·rcases Nat.eq_zero_or_pos n with h2|h2
  ·rw[h.2 h2]at h1;simp at h1
  ·exact h2
 ·rcases Nat.eq_zero_or_pos (dg B n).length with h2|h2
  ·have:=h.1 (List.eq_nil_of_length_eq_zero h2);omega
  ·omega
theorem zlen{z:Int}{m:Nat}(h:z.natAbs<B^m):(dg B z.natAbs).length≤m:=bC h
def iZ(z:Int):Int:=if z<0 then-1 else if 0<z then 1 else 0
def cz(x y:Int):Int:=if x<y then-1 else if x=y then 0 else 1
theorem sJ(s:Bool)(n:Nat):ah Tryz.prog J0 67 [.b s,.l 1 (W (dg B n))] (zN (zI s n)):=by
 rw[zN_I];refine ja aX bV Tryz.func67 [.c 4 true 2] ?_;cases s
 ·refine aJ (ai @bD @jF) ?_;exact rcQ (ai @bD @jF)
 ·by_cases h:0<n
  ·have e:decide (0<n)=true:=decide_eq_true h;rw[e];refine aJ (ai @h (ai @uN (ai @bD @jF))) ?_;exact rcQ (ai @bD @jF)
  ·have e:decide (0<n)=false:=decide_eq_false h;rw[e];refine aJ (ai @h (ai @uN (ai @bD @jF))) ?_;exact rcQ (ai @bD @jF)
theorem Jr(s:Bool)(a:List Nat)(ha:Wd a)(la:a.length≤1000000000):ah Tryz.prog J0 35 [zL s a] (zN (zv s a)):=by
 have h1:=(lV a ha om).frozen;have h2:=sJ s (nv B a);refine ja aX bV Tryz.func35 [.c 2 true 2] ?_;repeat first|(refine hK _ ?_;clear hK K)|simp only[Sv,↓reduceIte,Nat.reduceEqDiff]|((first|refine ay (fun K hK=>?_)|refine aB (fun K hK=>?_)|refine au (fun K hK=>?_)|refine kL ?_|refine iL (by assumption) ?_|refine kM ?_|(apply iM;assumption)|(apply iP;assumption));simp(disch:=(first|omega|assumption)) only[S1,seval,-Int.reduceToNat,-List.reduceReplicate,a_.sb,a_.mut,bZ,↓Bool.false_eq_true,beq_self_eq_true,ite_self,jF,List.length_nil,zv])
 simp(disch:=(first|omega|assumption)) only[xB,rO,oP,ET,EU,zK,EW,EX,rP,zM,zO,oQ,mY,fM,iW,jb,lY,iC,V.aQ,and_true,true_and,S1,seval,-Int.reduceToNat,-List.reduceReplicate,a_.sb,a_.mut,bZ,↓Bool.false_eq_true,beq_self_eq_true,ite_self,jF,List.length_nil,zv]
theorem tY(n:Int)(h1: -9223372036854775808≤n)(h2:n<9223372036854775808):ah Tryz.prog J0 38 [.i .i64 n] (zN n):=by
 have hof:=(nH n.natAbs om).frozen;have h3:=sJ (decide (n<0)) n.natAbs;rw[Dv]at h3;by_cases h:n<0
 ·have e1:decide (n<0)=true:=decide_eq_true h;rw[show zN n= .g [.b true,.l 1 (W (dg B n.natAbs))]from by show V.g [.b (decide (n<0)),_]=_;rw[e1]]at h3 ⊢;rw[e1]at h3;refine ja aX bV Tryz.func38 [.c 2 true 2] ?_;have e2:IntKind.u64.wrap (0-IntKind.u64.wrap n)=(n.natAbs:Int):=by rw[IntKind.wrap_u64,IntKind.wrap_u64];omega
  exact vM (ai @e1 (ai @e2 (ai @h (ai @bD @jF))))
 ·have e1:decide (n<0)=false:=decide_eq_false h;rw[show zN n= .g [.b false,.l 1 (W (dg B n.natAbs))]from by show V.g [.b (decide (n<0)),_]=_;rw[e1]]at h3 ⊢;rw[e1]at h3;refine ja aX bV Tryz.func38 [.c 2 true 2] ?_;have e2:IntKind.u64.wrap n=(n.natAbs:Int):=by rw[IntKind.wrap_u64];omega
  exact vM (ai @e1 (ai @e2 (ai @h (ai @bD @jF))))
theorem qI(s:Bool)(a:List Nat)(ha:Wd a)(la:a.length≤1000000000):ah Tryz.prog J0 79 [zL s a] (.i .i64 (iZ (zv s a))):=by
 have h1:=Jr s a ha la;have hp:=uN (n:=(zv s a).natAbs);generalize zv s a=z at*
 refine d_ aX bV Tryz.func79 ?_;by_cases h:z<0
 ·rw[show iZ z= -1 from if_pos h];exact jR (ai @h (ai @bD @jF))
 ·by_cases h0:0<z
  ·have e:0<z.natAbs:=om;rw[show iZ z=1 from(if_neg h).trans (if_pos h0)];exact jR (ai @e (ai @hp (ai @h (ai @bD @jF))))
  ·have e:¬0<z.natAbs:=om;rw[show iZ z=0 from(if_neg h).trans (if_neg h0)];exact jR (ai @e (ai @hp (ai @h (ai @bD @jF))))
theorem YU(s:Bool)(n:Nat):iZ (zI s n)=if n=0 then 0 else if s then-1 else 1:=by
 unfold iZ zI;cases s<;>simp only[Bool.false_eq_true,if_false,if_true]<;>(repeat' split)<;>omega
theorem cz_eq(s t:Bool)(u v:Nat):(iZ (zI s u)<iZ (zI t v)→cz (zI s u) (zI t v)= -1)∧(iZ (zI t v)<iZ (zI s u)→cz (zI s u) (zI t v)=1)∧(iZ (zI s u)=iZ (zI t v)→iZ (zI s u)*sg u v=cz (zI s u) (zI t v)):=by
 unfold iZ cz zI sg;cases s<;>cases t<;>simp only[if_true,Bool.false_eq_true,if_false]<;>refine⟨fun h=>?_,fun h=>?_,fun h=>?_⟩<;>(repeat' split at h)<;>(repeat' split)<;>first|rfl|omega
theorem Ef(z:Int): -1≤iZ z∧iZ z≤1:=by unfold iZ;split;decide;split<;>decide
theorem sg_bnd(u v:Nat): -1≤sg u v∧sg u v≤1:=by unfold sg;split;decide;split<;>decide
theorem Gu{a b:Int}(h1: -1≤a∧a≤1)(h2: -1≤b∧b≤1):IntKind.i64.wrap (a*b)=a*b:=by
 refine wi ?_;have ha:a= -1∨a=0∨a=1:=om;have hb:b= -1∨b=0∨b=1:=om;rcases ha with rfl|rfl|rfl<;>rcases hb with rfl|rfl|rfl<;>decide
theorem tZ(s t:Bool)(a b:List Nat)(ha:Wd a)(hb:Wd b)(la:a.length≤1000000000)(lb:b.length≤1000000000):ah Tryz.prog J0 43 [zL s a,zL t b] (.i .i64 (cz (zv s a) (zv t b))):=by
 have h1:=qI s a ha la;have h2:=qI t b hb lb;have h3:=F6 a b ha hb om om;obtain⟨e1,e2,e3⟩:=cz_eq s t (nv B a) (nv B b);have hw:=Gu (Ef (zI s (nv B a))) (sg_bnd (nv B a) (nv B b));unfold zv at*
 generalize cz (zI s (nv B a)) (zI t (nv B b))=r at*
 generalize iZ (zI s (nv B a))=x at*
 generalize iZ (zI t (nv B b))=y at*
 generalize sg (nv B a) (nv B b)=w at*
 refine d_ aX bV Tryz.func43 ?_;by_cases c1:x<y
 ·rw[e1 c1];exact jR (ai @c1 (ai @bD @jF))
 ·by_cases c2:y<x
  ·rw[e2 c2];exact jR (ai @c2 (ai @c1 (ai @bD @jF)))
  ·have e:=e3 om;rw[e]at hw;rw[←e];rw[←e]at hw;exact jR (ai @hw (ai @c2 (ai @c1 (ai @bD @jF))))
theorem JY(s t:Bool)(u v:Nat):(s=t→zI s (u+v)=zI s u+zI t v)∧(s≠t→zI (!(s==decide (u<v))) (if u<v then v-u else u-v)=zI s u+zI t v):=by
 unfold zI;refine⟨fun h=>?_,fun h=>?_⟩
 ·subst h;cases s<;>simp<;>omega
 ·by_cases h2:u<v
  ·cases s<;>cases t<;>simp[h2]at h ⊢ <;>omega
  ·cases s<;>cases t<;>simp[h2]at h ⊢ <;>omega
theorem NM(s t:Bool)(a b:List Nat)(ha:Wd a)(hb:Wd b)(la:a.length≤1000000000)(lb:b.length≤1000000000):ah Tryz.prog J0 37 [zL s a,zL t b] (zN (zv s a+zv t b)):=by
 obtain⟨e1,e2⟩:=JY s t (nv B a) (nv B b);refine ja aX bV Tryz.func37 [.c 4 true 2] ?_;by_cases h:s=t
 ·have hb':(s==t)=true:=by rw[h];cases t<;>rfl
  have h1:=(kP a b ha hb om om).frozen;have h2:=sJ s (nv B a+nv B b);rw[e1 h]at h2;repeat first|(refine hK _ ?_;clear hK K)|simp only[Sv,↓reduceIte,Nat.reduceEqDiff]|((first|refine ay (fun K hK=>?_)|refine aB (fun K hK=>?_)|refine au (fun K hK=>?_)|refine kL ?_|refine iL (by assumption) ?_|refine kM ?_|(apply iM;assumption)|(apply iP;assumption));simp(disch:=(first|omega|assumption)) only[S1,seval,-Int.reduceToNat,-List.reduceReplicate,a_.sb,a_.mut,bZ,↓Bool.false_eq_true,beq_self_eq_true,ite_self,jF,List.length_nil,hb',zv])
  simp(disch:=(first|omega|assumption)) only[xB,rO,oP,ET,EU,zK,EW,EX,rP,zM,zO,oQ,mY,fM,iW,jb,lY,iC,V.aQ,and_true,true_and,S1,seval,-Int.reduceToNat,-List.reduceReplicate,a_.sb,a_.mut,bZ,↓Bool.false_eq_true,beq_self_eq_true,ite_self,jF,List.length_nil,hb',zv]
 ·have hb':(s==t)=false:=by cases s<;>cases t<;>first|rfl|exact absurd rfl h
  have h1:=ND a b ha hb om om;have h2:=sJ (!(s==decide (nv B a<nv B b))) (if nv B a<nv B b then nv B b-nv B a else nv B a-nv B b);rw[e2 h]at h2;rw[show(if nv B a<nv B b then dg B (nv B b-nv B a)else dg B (nv B a-nv B b))=dg B (if nv B a<nv B b then nv B b-nv B a else nv B a-nv B b)from by split<;>rfl]at h1;generalize decide (nv B a<nv B b)=q at*
  generalize (if nv B a<nv B b then nv B b-nv B a else nv B a-nv B b)=n at*
  repeat first|(refine hK _ ?_;clear hK K)|simp only[Sv,↓reduceIte,Nat.reduceEqDiff]|((first|refine ay (fun K hK=>?_)|refine aB (fun K hK=>?_)|refine au (fun K hK=>?_)|refine kL ?_|refine iL (by assumption) ?_|refine kM ?_|(apply iM;assumption)|(apply iP;assumption));simp(disch:=(first|omega|assumption)) only[S1,seval,-Int.reduceToNat,-List.reduceReplicate,a_.sb,a_.mut,bZ,↓Bool.false_eq_true,beq_self_eq_true,ite_self,jF,List.length_nil,hb',zv])
  simp(disch:=(first|omega|assumption)) only[xB,rO,oP,ET,EU,zK,EW,EX,rP,zM,zO,oQ,mY,fM,iW,jb,lY,iC,V.aQ,and_true,true_and,S1,seval,-Int.reduceToNat,-List.reduceReplicate,a_.sb,a_.mut,bZ,↓Bool.false_eq_true,beq_self_eq_true,ite_self,jF,List.length_nil,hb',zv]
theorem U8(s t:Bool)(u v:Nat):zI (!(s==t)) (u*v)=zI s u*zI t v:=by
 unfold zI;cases s<;>cases t<;>simp[Int.natCast_mul,Int.neg_mul,Int.mul_neg]
end
section
open Go Go.ChangeShapes Go.WideShapes Go.ChangeAt Go.RowKit Ab
abbrev QZ:List V→Nat→Prop:=QSt2 KG WG
theorem Gv{H:Type}{enc:TypeId×Value→H}{w:World}:kS enc Tryz.prog w 4 KG:=Jg Tryz.underlying4
theorem KQ{H:Type}{enc:TypeId×Value→H}{w:World}:kS enc Tryz.prog w 25 QZ:=
 uB (s1:=1) (s2:=1) Tryz.underlying25 rfl rfl kf kf kf Gv CW
theorem QZ_L{xs:List V}{n:Nat}(h:QZ xs n):∃(s:Bool) (a:List Nat),V.g xs=zL s a∧Wd a∧a.length≤n:=by
 obtain⟨x1,x2,n1,n2,rfl,⟨s,rfl,rfl⟩,h2,hn⟩:=h;obtain⟨a,rfl,wa,la⟩:=Q8 h2;exact⟨s,a,rfl,wa,om⟩
end
section
open Go Go.RowKit Ab
theorem zN_0:zN 0= .g [.b false,.l 1 []]:=rfl
theorem Ec(s t:Bool)(u v:Nat):zI (!(s==t)) (u/v)=(zI s u).tdiv (zI t v):=by
 unfold zI;cases s<;>cases t<;>simp[Int.neg_tdiv,Int.tdiv_neg]<;>rfl
theorem KR(s t:Bool)(u v:Nat):zI s (u%v)=(zI s u).tmod (zI t v):=by
 unfold zI;cases s<;>cases t<;>simp[Int.neg_tmod,Int.tmod_neg]<;>rfl
theorem zv_z{s:Bool}{a:List Nat}:zv s a=0↔nv B a=0:=by unfold zv zI;cases s<;>simp
def zq(x y:Int):Int:=x.tdiv y
def zr(x y:Int):Int:=if y=0 then 0 else x.tmod y
theorem zr_p{x y:Int}(h:y≠0):zr x y=x.tmod y:=if_neg h
theorem zq_abs(x y:Int):(zq x y).natAbs≤x.natAbs:=Int.natAbs_tdiv_le_natAbs x y
theorem zr_abs(x y:Int):(zr x y).natAbs≤x.natAbs:=by
 unfold zr;split
 ·exact Nat.zero_le _
 ·rw[Int.natAbs_tmod];exact Nat.mod_le _ _
theorem dD{s:Bool}{a:List Nat}{m:Nat}(ha:Wd a)(la:a.length≤m):(zv s a).natAbs<B^m:=by rw[HY];exact fO ha la
theorem KT(x y:Int)(h:y≠0):x.fdiv y=if x.tmod y≠0∧iZ x≠iZ y then x.tdiv y-1 else x.tdiv y:=by
 rw[Int.fdiv_eq_tdiv];by_cases hd:y∣x
 ·rw[if_pos hd,if_neg (fun h=>h.1 (Int.tmod_eq_zero_of_dvd hd)),Int.sub_zero]
 ·have ht:x.tmod y≠0:=fun h=>hd (Int.dvd_of_tmod_eq_zero h)
  have hx0:x≠0:=fun h0=>hd (h0▸Int.dvd_zero y)
  rw[if_neg hd];have e:(x.tmod y≠0∧iZ x≠iZ y)=(iZ x≠iZ y):=propext ⟨And.right,fun h=>⟨ht,h⟩⟩;simp only[e];generalize x.tdiv y=q;have sn:∀z:Int,z<0→iZ z= -1:=fun z h=>if_pos h
  have sp:∀z:Int,0<z→iZ z=1:=fun z h=>(if_neg om).trans (if_pos h)
  rcases Int.lt_or_gt_of_ne h with hy|hy
  ·rw[Int.sign_eq_neg_one_of_neg hy,sn y hy];rcases Int.lt_or_gt_of_ne hx0 with h1|h1
   ·rw[sn x h1,if_neg om,if_neg om,if_neg dc];omega
   ·rw[sp x h1,if_pos om,if_neg om,if_pos dc]
  ·rw[Int.sign_eq_one_of_pos hy,sp y hy];rcases Int.lt_or_gt_of_ne hx0 with h1|h1
   ·rw[sn x h1,if_neg om,if_pos om,if_pos dc]
   ·rw[sp x h1,if_pos om,if_pos om,if_neg dc];omega
end
section
open Go Go.RowKit Ab
theorem Xt{z:Int}:(iZ z<0)=(z<0):=by
 unfold iZ;split
 ·rename_i h;exact propext ⟨fun _=>h,fun _=>dc⟩
 ·rename_i h;split<;>exact propext ⟨fun h'=>absurd h' dc,fun h'=>absurd h' h⟩
end
section
open Go
def ct(v:Nat):Nat:=if h:v=0 then 0 else if v%2=1 then 0 else ct (v/2)+1
termination_by v
decreasing_by omega
theorem ct_0:ct 0=0:=by unfold ct;rfl
theorem YV(k m:Nat):ct (2^k*(2*m+1))=k:=by
 induction k with
 |zero=>unfold ct;rw[dif_neg sy,if_pos sy]
 |succ k ih=>
  have h0:2^(k+1)*(2*m+1)=2*(2^k*(2*m+1)):=by rw[Nat.pow_succ,Nat.mul_comm (2^k) 2,Nat.mul_assoc]
  have hp:0<2^k*(2*m+1):=Nat.mul_pos (Nat.pow_pos dc) om;unfold ct;rw[h0,dif_neg om,if_neg om,Nat.mul_div_cancel_left _ dc,ih]
theorem Gw{v:Nat}(h:v≠0):∃m,v=2^ct v*(2*m+1):=by
 induction v using Nat.strongRecOn with
 |_ v ih=>
  by_cases h1:v%2=1
  ·refine⟨v/2,?_⟩;have:ct v=0:=by unfold ct;rw[dif_neg h,if_pos h1]
   rw[this,Nat.pow_zero,Nat.one_mul];omega
  ·obtain⟨m,hm⟩:=ih (v/2) om om;refine⟨m,?_⟩;have:ct v=ct (v/2)+1:=by rw[ct];rw[dif_neg h,if_neg h1]
   rw[this,Nat.pow_succ,Nat.mul_comm (2^ct (v/2)) 2,Nat.mul_assoc,←hm];omega
theorem KU{v n:Nat}(h:v<2^n)(h0:v≠0):ct v<n:=by
 obtain⟨m,hm⟩:=Gw h0;rcases Nat.lt_or_ge (ct v) n with h1|h1
 ·exact h1
 ·have h2:=Nat.pow_le_pow_right (show 0<2 by decide) h1;have h3:2^ct v*1≤2^ct v*(2*m+1):=Nat.mul_le_mul_left _ om;omega
theorem ct_add{w u n:Nat}(h0:w≠0)(hw:w<2^n):ct (w+2^n*u)=ct w:=by
 obtain⟨m,hm⟩:=Gw h0;have hl:=KU hw h0;generalize ct w=k at*
 have:w+2^n*u=2^k*(2*(m+2^(n-k-1)*u)+1):=by
  have e:2^n=2^k*(2*2^(n-k-1)):=by rw[←Nat.pow_succ',←Nat.pow_add];congr 1;omega
  rw[hm,e,Nat.mul_assoc,←Nat.mul_add];congr 1;rw[Nat.mul_add,Nat.mul_assoc];omega
 rw[this,YV]
theorem SE{v n:Nat}(h0:v≠0):ct (2^n*v)=n+ct v:=by
 obtain⟨m,hm⟩:=Gw h0;generalize ct v=k at*
 rw[hm,←Nat.mul_assoc,←Nat.pow_add,YV]
theorem Xu{x:Nat}(h0:x≠0)(h:x<18446744073709551616):x&&&(18446744073709551616-x)=2^ct x:=by
 obtain⟨m,hm⟩:=Gw h0;have hl:=KU (n:=64) h h0;generalize ct x=k at*
 have hp:0<2^k:=Nat.pow_pos dc;have e:18446744073709551616=2^k*(2*2^(63-k)):=by rw[←Nat.pow_succ',←Nat.pow_add,show k+(63-k).succ=64 from om]
 have L6:m<2^(63-k):=by
  rw[hm,e]at h;have:=Nat.lt_of_mul_lt_mul_left h;omega
 have e2:18446744073709551616-x=2^k*(2*(2^(63-k)-(m+1))+1):=by
  rw[e,hm,←Nat.mul_sub];congr 1;omega
 rw[e2,hm,Nat.mul_comm (2^k) (2*m+1),Nat.mul_comm (2^k) (2*(2^(63-k)-(m+1))+1),←Nat.shiftLeft_eq,←Nat.shiftLeft_eq,←Nat.shiftLeft_and_distrib];have:(2*m+1)&&&(2*(2^(63-k)-(m+1))+1)=1:=by
  apply Nat.eq_of_testBit_eq;intro i;rw[Nat.testBit_and];cases i with
  |zero=>simp
  |succ i=>
   rw[Nat.testBit_succ,Nat.testBit_succ,Nat.testBit_succ,show(2*m+1)/2=m from om,show(2*(2^(63-k)-(m+1))+1)/2=2^(63-k)-(m+1)from om,Nat.testBit_two_pow_sub_succ L6];cases m.testBit i<;>simp
 rw[this,Nat.one_shiftLeft]
end
section
open Go Go.RowKit Ab
def SG:=an @wi (an @aO (an @Nat.div_one (an @Nat.mul_one (an @aH (an @eY (an @dh (an @dF @cZ)))))))
theorem bl_dvd{a:List Nat}(ha:Wd a)(h0:0<(tz a).length):((((tz a).length:Nat):Int)-1)*64+((bl (a.getD ((tz a).length-1) 0):Nat):Int)=((bl (nv B a):Nat):Int):=by
 have hne:tz a≠[]:=fun h=>by rw[h]at h0;simp at h0
 have ht:=qg (b:=B) (BQ a) hne;rw[nT]at ht;have hl:=bY (oN ha);rw[nT]at hl;obtain⟨t,hT⟩:∃t,(tz a).length=t+1:=⟨(tz a).length-1,om⟩;rw[hT]at ht hl ⊢;rw[Nat.add_sub_cancel]at ht ⊢;have hd:=jI (b:=B) dc ha t;rw[Nat.mod_eq_of_lt ((Nat.div_lt_iff_lt_mul (Nat.pow_pos dc)).2 (by rw[←Nat.pow_succ'];exact hl))]at hd;have hp:B^t=2^(64*t):=by rw[YJ,←Nat.pow_mul]
 have:=DV (x:=nv B a) (n:=64*t) (by rw[←hp];exact ht);rw[hd,this,←hp];omega
theorem BH(a:List Nat)(ha:Wd a)(la:a.length≤10000000000):ah Tryz.prog J0 118 [.l 1 (W a)] (.i .i64 ((bl (nv B a):Nat):Int)):=by
 have ht:=pI a om;have hl:=kZ a;refine d_ aX bV Tryz.func118 ?_;by_cases h0:(((tz a).length:Nat):Int)=0
 ·have e:bl (nv B a)=0:=by rw[←nT,List.eq_nil_of_length_eq_zero (by omega:(tz a).length=0)];rfl
  rw[e];exact jR (ai @h0 (ai @bD @SG))
 ·have e:=bl_dvd ha om;have hb:=dA ha ((tz a).length-1);have h64:=qP hb;have hg:=Aw (a.getD ((tz a).length-1) 0) hb;have hidx:((((tz a).length:Nat):Int)-1).toNat=(tz a).length-1:=om;exact jR (ai @e (ai @hidx (ai @h0 (ai @bD @SG))))
theorem qH(a:List Nat)(ha:Wd a)(la:a.length≤10000000000):ah Tryz.prog J0 82 [.l 1 (W a)] (.i .i64 ((bl (nv B a):Nat):Int)):=by
 have h:=BH a ha la;refine d_ aX bV Tryz.func82 ?_;exact jR (ai @bD @SG)
theorem bl_z{n:Nat}:(((bl n:Nat):Int)=0)=(n=0):=propext ⟨fun h=>by
 rcases Nat.eq_zero_or_pos n with h1|h1
 ·exact h1
 ·have:=QJ (x:=n) om;omega,fun h=>by rw[h];rfl⟩
theorem bl_len{a:List Nat}(ha:Wd a):bl (nv B a)≤64*a.length:=by
 rcases Nat.eq_zero_or_pos (nv B a)with h|h
 ·rw[h];exact Nat.zero_le _
 ·obtain⟨h1,h2⟩:=CE (x:=nv B a) om;have h3:=bY ha;rw[YJ,←Nat.pow_mul]at h3;have:=(Nat.pow_lt_pow_iff_right (by decide:1<2)).1 (Nat.lt_of_le_of_lt h1 h3);omega
end
section
open Go Go.RowKit Ab
def bz_Z6:=an @Bool.false_and (an @Bool.true_and (an @wi (an @aO (an @Nat.div_one (an @Nat.mul_one (an @aH (an @eY (an @dh (an @dF (an @cZ @lX))))))))))
theorem Js(s:Bool)(a:List Nat)(ha:Wd a)(la:a.length≤1000000000):ah Tryz.prog J0 77 [zL s a] (.i .i64 ((bl (nv B a):Nat):Int)):=by
 have h:=qH a ha om;refine d_ aX bV Tryz.func77 ?_;exact jR (ai @bD @bz_Z6)
end
section
open Go Go.RowKit Ab
def Jt:=an @Bool.false_and (an @wi (an @aO (an @Nat.div_one (an @Nat.mul_one (an @aH (an @eY (an @dh (an @dF (an @cZ @lX)))))))))
theorem Xv{v n:Nat}(h:n≤1048576):uo v (n:Int)=(dg B (v*2^n),0):=by unfold uo;rw[if_neg om];rfl
theorem Xw{v n:Nat}:Jb v (n:Int)=(dg B (v/2^n),0):=by unfold Jb;rw[if_neg om];rfl
theorem Xx(s:Bool)(u n:Nat):zI s (u*2^n)=zI s u*2^n:=by
 unfold zI;cases s<;>simp[Int.natCast_mul,Int.neg_mul]
def zlV(x:Int)(n:Int):Int:=if n<0∨1048576<n then 0 else x*2^n.toNat
def zlE(n:Int):Int:=if n<0∨1048576<n then 3 else 0
theorem SH{u m n e:Nat}(hu:u<B^m)(hn:n≤64*e):u*2^n<B^(m+e):=by
 have h2n:2^n≤B^e:=by
  rw[YJ,←Nat.pow_mul];exact Nat.pow_le_pow_right dc hn
 rw[Nat.pow_add];exact Nat.lt_of_lt_of_le (Nat.mul_lt_mul_of_pos_right hu (Nat.two_pow_pos n)) (Nat.mul_le_mul_left _ h2n)
theorem zy{u m:Nat}{n:Nat}(hu:u<B^m)(hn:n≤1048576):u*2^n<B^(m+16384):=SH hu om
theorem NP(s:Bool)(a:List Nat)(n:Int)(ha:Wd a)(la:a.length≤1000000000):ah Tryz.prog J0 69 [zL s a,.i .i64 n] (.t [zN (zlV (zv s a) n),.i .i64 (zlE n)]):=by
 have h:=Ar a n ha om;rw[show zv s a=zI s (nv B a)from rfl];by_cases h1:n<0
 ·rw[show zlV (zI s (nv B a)) n=0 from if_pos (.inl h1),show zlE n=3 from if_pos (.inl h1)];refine ja aX bV Tryz.func69 [.c 4 true 2,.t 5] ?_;exact pcQ (ai @zN_0 (ai @h1 (ai @bD @Jt)))
 ·by_cases h2:1048576<n
  ·rw[show zlV (zI s (nv B a)) n=0 from if_pos (.inr h2),show zlE n=3 from if_pos (.inr h2)];refine ja aX bV Tryz.func69 [.c 4 true 2,.t 5] ?_;exact pcQ (ai @zN_0 (ai @h2 (ai @h1 (ai @bD @Jt))))
  ·obtain⟨k,rfl⟩:∃k:Nat,n=(k:Int):=⟨n.toNat,om⟩;rw[Xv om]at h;have hof:=sJ s (nv B a*2^k);rw[Xx]at hof;rw[show zlV (zI s (nv B a)) (k:Int)=zI s (nv B a)*2^k from if_neg om,show zlE (k:Int)=0 from if_neg om];generalize zI s (nv B a)*2^k=z at*
   refine ja aX bV Tryz.func69 [.c 4 true 2,.t 5] ?_;exact vM (ai @h2 (ai @h1 (ai @bD @Jt)))
theorem Eg(s:Bool)(u n:Nat):(zI s u).fdiv (2^n)=zI s (u/2^n+if s=true∧u%2^n≠0 then 1 else 0):=by
 have hp:=Nat.two_pow_pos n;have e:((2:Int)^n)=((2^n:Nat):Int):=by rw[Int.natCast_pow];rfl
 rw[e];generalize 2^n=d at*
 rw[Int.fdiv_eq_ediv_of_nonneg _ om];cases s
 ·simp[zI]
 ·simp only[zI,if_true,true_and];have hd:=Nat.div_add_mod u d;have hm:=Nat.mod_lt u hp;generalize u/d=q at*
  generalize u%d=r at*
  by_cases hr:r=0
  ·subst hr;rw[if_neg sy,←hd];rw[show(-(((d*q+0:Nat):Int)))=(d:Int)*(-(q:Int))from by rw[Nat.add_zero,Int.natCast_mul,Int.mul_neg]];rw[Int.mul_ediv_cancel_left _ om];rfl
  ·rw[if_pos hr,←hd];have e2:(-(((d*q+r:Nat):Int)))=((d:Int)-r)+(d:Int)*(-(((q+1:Nat):Int))):=by
    rw[Int.natCast_add,Int.natCast_mul,Int.natCast_add,Int.mul_neg,Int.mul_add];simp only[Int.natCast_one,Int.mul_one];omega
   rw[e2,Int.add_mul_ediv_left _ _ om,Int.ediv_eq_zero_of_lt om om,Int.zero_add]
theorem Xy(s:Bool)(u n:Nat):(zI s u).fdiv (2^min n (bl u+1))=(zI s u).fdiv (2^n):=by
 rcases Nat.le_total n (bl u+1)with h|h
 ·rw[Nat.min_eq_left h]
 ·rw[Nat.min_eq_right h,Eg,Eg];have h1:=FZ u;have h2:u<2^(bl u+1):=Nat.lt_of_lt_of_le h1 (Nat.pow_le_pow_right dc om);have h3:u<2^n:=Nat.lt_of_lt_of_le h2 (Nat.pow_le_pow_right dc h);rw[Nat.div_eq_of_lt h2,Nat.div_eq_of_lt h3,Nat.mod_eq_of_lt h2,Nat.mod_eq_of_lt h3]
theorem mod_ct{u n:Nat}(h:u≠0):(u%2^n≠0)↔ct u<n:=by
 obtain⟨m,hm⟩:=Gw h;generalize ct u=k at*
 have hk:=Nat.two_pow_pos k;constructor
 ·intro h1;rcases Nat.lt_or_ge k n with h2|h2
  ·exact h2
  ·exfalso;apply h1;rw[hm,show 2^k=2^n*2^(k-n)from by rw[←Nat.pow_add];congr 1;omega,Nat.mul_assoc,Nat.mul_mod_right]
 ·intro h1 h2;have h3:2^n=2^k*(2*2^(n-k-1)):=by rw[←Nat.pow_succ',←Nat.pow_add];congr 1;omega
  rw[hm,h3,Nat.mul_mod_mul_left]at h2;have h4:(2*m+1)%(2*2^(n-k-1))%2=(2*m+1)%2:=Nat.mod_mul_right_mod _ _ _;rcases Nat.mul_eq_zero.1 h2 with h5|h5
  ·omega
  ·rw[h5]at h4;omega
end
section
open Go Go.RowKit Go.Proofs Ab
theorem dE(w:World):Below w.heap.size w w:=⟨rfl,rfl,rfl,Nat.le_refl _,fun _ _=>rfl⟩
theorem mr(w:World)(B e sz:Nat):w.ownsRow B e sz (.slice none 0 0) 0 (Wv []):=⟨by simp[Wv],.inl ⟨rfl,rfl⟩⟩
def qt:Code→Code
 | .cond _ a _=>a
 |c=>c
def qe:Code→Code
 | .cond _ _ b=>b
 |c=>c
structure Cl(w0 w:World)(L:List (Value×List Nat)):Prop where
 own:∀p,p∈L→∃m:Nat,m≤maxLen∧w.ownsRow w0.heap.size 31 1 p.1 m (Wv p.2)
 apt:UI (L.map fun p=>p.1)
theorem Cl.keep{w0 w w':World}{L:List (Value×List Nat)}(h:Cl w0 w L)(hb:∀p q,p∈L→p.1.ownBlock=some q→w'.heap[q]? =w.heap[q]?):Cl w0 w' L:=
 ⟨fun p hp=>by obtain⟨m,hm,ho⟩:=h.own p hp;exact⟨m,hm,aP ho fun q hq=>hb p q hp hq⟩,h.apt⟩
def uV(w:World)(A:List Nat)(e:Ending)(w':World):Prop:=∃(u:Value) (n:Nat),e= .returned u∧Below w.heap.size w w'∧w'.ownsRow w.heap.size 31 1 u n (Wv A)∧n≤maxLen
def Gx(w:World)(A:List Nat)(y:Value)(e:Ending)(w':World):Prop:=∃(u:Value) (n:Nat),e= .returned (.tuple #[u,y])∧Below w.heap.size w w'∧w'.ownsRow w.heap.size 31 1 u n (Wv A)∧n≤maxLen
theorem pO{f:FuncId}{args:List V}{A:List Nat}{w:World}{H:Nat→Prop}{vs:List Value}(c:ah Tryz.prog J0 f args (.o 31 1 (W A)))(hH:∀q,H q→q<w.heap.size)(hr:aj w H vs args):Calls Tryz.prog f vs.toArray w (uV w A):=by
 refine((c.Vf rfl) w H vs trivial (NI _ _) hH hr).mono ?_;rintro e w' ⟨v,rfl,hB,N,hN,h⟩;rcases h with h|⟨e,sz,cs,n,xs,he,_,ho,hx,_,hm,_⟩|⟨r,h,_⟩
 ·cases h
 ·cases he;have:=CY hx;subst this;exact⟨v,n,rfl,hB,ho,hm⟩
 ·cases h
theorem Eh{f:FuncId}{args:List V}{A:List Nat}{r:V}{y:Value}{w:World}{H:Nat→Prop}{vs:List Value}(c:ah Tryz.prog J0 f args (.to 31 1 (W A) [r]))(hy:∀(w':World) (H':Nat→Prop) (z:Value),Rep0 w' H' z r→z=y)(hH:∀q,H q→q<w.heap.size)(hr:aj w H vs args):Calls Tryz.prog f vs.toArray w (Gx w A y):=by
 have c':Z5 Tryz.prog J0 f args 31 1 (W A) [r]:=c;refine(c'.2 w H vs trivial (NI _ _) hH hr).mono ?_;rintro e w' ⟨u,us,n,xs,N,rfl,hB,ho,_,_,hx,_,hm,hus⟩;have:=CY hx;subst this;match us,hus with
 |[z],hus=>
  have:=hy _ _ z (hus.2 0 z r rfl rfl);subst this;exact⟨u,n,rfl,hB,ho,hm⟩
theorem Cl.nil(w:World):Cl w w []:=⟨fun p hp=>by simp at hp,fun i j vi vj q _ h=>by simp at h⟩
theorem Cl.lt{w0 w:World}{L:List (Value×List Nat)}(h:Cl w0 w L){p:Value×List Nat}{q:Nat}(hp:p∈L)(hq:p.1.ownBlock=some q):w0.heap.size≤q∧q<w.heap.size:=by
 obtain⟨m,_,ho⟩:=h.own p hp;exact ho.lt q hq
theorem Xz{L M:List Value}(h:UI L)(h2:UI M)(hx:∀v u q,v∈L→u∈M→v.ownBlock=some q→u.ownBlock≠some q):UI (L++M):=by
 intro i j vi vj q hij hi hj hq;rw[List.getElem?_append]at hi hj;split at hi<;>split at hj
 ·exact h i j vi vj q hij hi hj hq
 ·exact hx vi vj q (List.mem_of_getElem? hi) (List.mem_of_getElem? hj) hq
 ·exact fun e=>hx vj vi q (List.mem_of_getElem? hj) (List.mem_of_getElem? hi) e hq
 ·exact h2 _ _ vi vj q om hi hj hq
theorem Cl.step{w0 w1 w:World}{L M:List (Value×List Nat)}(h:Cl w0 w1 L)(hs:w0.heap.size≤w1.heap.size)(hb:Below w1.heap.size w1 w)(h2:Cl w1 w M):Cl w0 w (L++M):=by
 have h1:Cl w0 w L:=h.keep fun p q hp hq=>hb.block q (h.lt hp hq).2
 refine⟨fun p hp=>?_,?_⟩
 ·rcases List.mem_append.1 hp with hp|hp
  ·exact h1.own p hp
  ·obtain⟨m,hm,ho⟩:=h2.own p hp;exact⟨m,hm,dX ho hs⟩
 ·rw[List.map_append];refine Xz h1.apt h2.apt fun v u q hv hu hq hq2=>?_
  obtain⟨p,hp,rfl⟩:=List.mem_map.1 hv;obtain⟨p2,hp2,rfl⟩:=List.mem_map.1 hu;have:=(h.lt hp hq).2;have:=(h2.lt hp2 hq2).1;omega
theorem Cl.below{w0 w1 w:World}{L:List (Value×List Nat)}(h:Cl w0 w1 L)(hb:Below w1.heap.size w1 w):Cl w0 w L:=h.keep fun p q hp hq=>hb.block q (h.lt hp hq).2
theorem Cl.base{w0 w1 w:World}{L:List (Value×List Nat)}(h:Cl w1 w L)(hs:w0.heap.size≤w1.heap.size):Cl w0 w L:=
 ⟨fun p hp=>by obtain⟨m,hm,ho⟩:=h.own p hp;exact⟨m,hm,dX ho hs⟩,h.apt⟩
theorem XA(u:Value):UI [u]:=fun i j vi vj q hij hi hj _=>by
 have h1:=(List.getElem?_eq_some_iff.1 hi).1;have h2:=(List.getElem?_eq_some_iff.1 hj).1;simp only[List.length_singleton]at h1 h2;omega
theorem Cl.one{w w1:World}{u:Value}{A:List Nat}{n:Nat}(ho:w1.ownsRow w.heap.size 31 1 u n (Wv A))(hn:n≤maxLen):Cl w w1 [(u,A)]:=
 ⟨fun p hp=>by rw[List.mem_singleton.1 hp];exact⟨n,hn,ho⟩,XA u⟩
theorem bU{w w1 w2:World}(h1:Below w.heap.size w w1)(h2:Below w1.heap.size w1 w2):Below w.heap.size w w2:=by
 have a:=h1.size;have b:=h2.size;exact⟨h2.os.trans h1.os,h2.tape.trans h1.tape,h2.output.trans h1.output,om,fun q hq=>(h2.block q om).trans (h1.block q hq)⟩
theorem jG(w:World)(o:Obj):Below w.heap.size w (w.alloc o):=by
 have h:Below w.heap.size w w:=⟨rfl,rfl,rfl,Nat.le_refl _,fun _ _=>rfl⟩;exact h.alloc (Nat.le_refl _) o
theorem SI{w:World}{H:Nat→Prop}{B e:Nat}{v:Value}{Fv:List Value}{L:List (List Nat)}(ho:w.ownsRow B e 1 v Fv.length Fv)(hl:Fv.length=L.length)(hm:Fv.length≤1000000)(hr:∀(j:Nat) (x:Value) (A:List Nat),Fv[j]? =some x→L[j]? =some A→Rep0 w H x (.l 1 (W A)))(hH:∀q,v.ownBlock=some q→H q):Rep0 w H v (.l 1 (LA L)):=by
 refine CX Nat.one_pos ho ⟨by rw[Rt,hl],fun j x y h1 h2=>?_⟩ (by unfold maxLen;omega) hH;simp only[LA,List.getElem?_map,Option.map_eq_some_iff]at h2;obtain⟨A,h3,rfl⟩:=h2;exact hr j x A h1 h3
theorem Bn.ip{rs:Rs}{w:World}{H:Nat→Prop}{b:Nat}{vl vf vu:Value}{Lv Fv Uv:List Value}{L:List (List Nat)}(h:Bn w b rs vl vf vu Lv Fv Uv)(hH:∀q,Bq b vl vf vu q→H q)(lf:Fv.length=L.length)(lu:Uv.length=L.length)(hm:L.length≤1000000)
 (rf:∀(j:Nat) (x:Value) (A:List Nat),Fv[j]? =some x→L[j]? =some A→Rep0 w H x (.l 1 (W A))) (ru:∀(j:Nat) (x:Value) (A:List Nat),Uv[j]? =some x→L[j]? =some A→Rep0 w H x (.l 1 (W A))):Rep0 w H (.pointer (some ⟨b,0,none⟩)) (.ip [.any,.l 1 (LA L),.l 1 (LA L),.any,.any,.any,.any] 0):=by
 obtain⟨cap,hbox⟩:=h.box
 have e0:=hbox.cellAt 0 dc
 have e1:=hbox.cellAt 1 dc
 have e2:=hbox.cellAt 2 dc
 have e3:=hbox.cellAt 3 dc
 have e4:=hbox.cellAt 4 dc
 have e5:=hbox.cellAt 5 dc
 have e6:=hbox.cellAt 6 dc
 have r1:=SI h.rf lf om rf fun q hq=>hH q (.inr (.inr (.inl hq)))
 have r2:=SI h.ru lu om ru fun q hq=>hH q (.inr (.inr (.inr hq)))
 refine .ip _ 0 (fun j=>[vl,vf,vu,rs.1,rs.2.1,rs.2.2.1,rs.2.2.2].getD j undef) b 0 (hH b (.inl rfl)) (fun j hj=>?_) (fun j x hx=>?_)
 ·match j,hj with
  |0,_=>exact e0
  |1,_=>exact e1
  |2,_=>exact e2
  |3,_=>exact e3
  |4,_=>exact e4
  |5,_=>exact e5
  |6,_=>exact e6
 ·match j,hx with
  |0,hx=>cases hx;exact .any _
  |1,hx=>cases hx;exact r1
  |2,hx=>cases hx;exact r2
  |3,hx=>cases hx;exact .any _
  |4,hx=>cases hx;exact .any _
  |5,hx=>cases hx;exact .any _
  |6,hx=>cases hx;exact .any _
def up(f:Nat→Value)(t:Nat)(v:Value):Nat→Value:=fun s=>if s=t then v else f s
theorem up_ne{f:Nat→Value}{t s:Nat}{v:Value}(h:s≠t):up f t v s=f s:=if_neg h
theorem up_eq{f:Nat→Value}{t:Nat}{v:Value}:up f t v t=v:=if_pos rfl
theorem EL{a a':Act}{f:Nat→Value}{t1:Nat}{v1:Value}(hf:∀t,t<39→a.tmps.getD t undef=f t)(hs:∀t,t<39→t≠t1→a'.tmps.getD t undef=a.tmps.getD t undef)(h1:a'.tmps.getD t1 undef=v1):∀t,t<39→a'.tmps.getD t undef=up f t1 v1 t:=fun t ht=>by
 by_cases e:t=t1
 ·rw[e,up_eq];exact h1
 ·rw[up_ne e,hs t ht e,hf t ht]
theorem NQ{w:World}{H:Nat→Prop}{x y:Value}{u v:V}(h1:Rep0 w H x u)(h2:Rep0 w H y v):aj w H [x,y] [u,v]:=⟨rfl,fun j a b e1 e2=>by
 match j,e1,e2 with
 |0,e1,e2=>cases e1;cases e2;exact h1
 |1,e1,e2=>cases e1;cases e2;exact h2⟩
theorem EM{w:World}{H:Nat→Prop}{x:Value}{u:V}(h1:Rep0 w H x u):aj w H [x] [u]:=⟨rfl,fun j a b e1 e2=>by
 match j,e1,e2 with
 |0,e1,e2=>cases e1;cases e2;exact h1⟩
theorem wO{w:World}{B n:Nat}{v:Value}{A:List Nat}(h:w.ownsRow B 31 1 v n (Wv A))(hn:n≤maxLen):Rep0 w (fun q=>q<w.heap.size) v (.l 1 (W A)):=CX Nat.one_pos h (D_ A) hn fun q hq=>(h.lt q hq).2
theorem XB{w:World}{B n:Nat}{v:Value}{A:List Nat}(h:w.ownsRow B 31 1 v n (Wv A))(hn:n≤maxLen):A.length≤9223372036854775807:=by
 have h1:=h.1;simp only[Wv,List.length_map]at h1;unfold maxLen at hn;omega
theorem Cl.rep{w0 w:World}{L:List (Value×List Nat)}(h:Cl w0 w L){v:Value}{A:List Nat}(hp:(v,A)∈L):Rep0 w (fun q=>q<w.heap.size) v (.l 1 (W A))∧A.length≤9223372036854775807∧∃a n c,v= .slice a n c:=by
 obtain⟨m,hm,ho⟩:=h.own _ hp;obtain⟨a,c,e⟩:=aT ho;exact⟨wO ho hm,XB ho hm,a,m,c,e⟩
structure Outs(w0:World)(b:Nat)(rs:Rs)(vl vf vu:Value)(Lv Fv Uv vs:List Value)(w':World)(oI oJ oK:Value)(Fs Us:List Value):Prop where
 bel:aI w0 (Bq b vl vf vu) w'
 bn:Bn w' b rs oI oJ oK (Lv++vs) (Fv++Fs) (Uv++Us)
 lf:Fs.length=vs.length
 lu:Us.length=vs.length
 ff:∀v,v∈Fs→∃a c,v= .slice a 0 c
 fu:∀v,v∈Us→∃a c,v= .slice a 0 c
theorem mP{w:World}{H:Nat→Prop}{v:Value}{sz:Nat}{cs:List V}(h:Rep0 w H v (.l sz cs)):∃a n c,v= .slice a n c:=by
 obtain⟨a,n,cap,_,_,_,rfl,_⟩:=(Rep.up (ov:=fun _=>none) h).nZ;exact⟨a,n,cap,rfl⟩
theorem KW{w:World}{B e n c k:Nat}{p:Nat}{xs:List Value}(h:w.ownsRow B e 1 (.slice (some ⟨p,0,none⟩) (n+k) c) (n+k) xs):w.ownsRow B e 1 (.slice (some ⟨p,0,none⟩) n c) n (xs.take n):=by
 rcases h.2 with ⟨h1,_⟩|⟨g,cap,cur,e1,h1,h2,h3,h4,h5,h6⟩
 ·cases h1
 ·cases e1;refine⟨by rw[List.length_take,h.1];omega,.inr ⟨_,_,cur,rfl,h1,h2,om,h4,h5,?_⟩⟩;rw[←h6,List.take_take];congr 1;omega
end
section
open Go Go.RowKit Go.Proofs Ab
theorem f_{listed:Array Bool}{i j:Nat}(d:Bool):(listed.setIfInBounds i true).getD j d=if i=j∧i<listed.size then true else listed.getD j d:=by
 by_cases hij:i=j
 ·subst hij;by_cases hs:i<listed.size
  ·simp[hs]
  ·simp[hs]
 ·rw[if_neg (fun h=>hij h.1)];simp only[Array.getD_eq_getD_getElem?,Array.getElem?_setIfInBounds_ne hij]
def Gy(m n:Nat):Array Bool:=((List.range m).map fun j=>decide (j<n)).toArray
def wt(l:List Oper)(n i:Nat):Nat→Nat→Bool
 |0,t=>Region.waitsFor .any l.toArray t i
 |f+1,t=>Region.waitsFor .any l.toArray t i||(List.range n).any fun m=>Region.waitsFor .any l.toArray t m&&wt l n i f m
def sK(l:List Oper)(n:Nat):Bool:=
 decide (n<l.length)&&((List.range n).all fun i=>((l[i]?).map fun o=>o.dst != some 0&&(o.after.all fun e=>!Region.binds .any e||decide (e.on<i))&&((List.range n).all fun j=>decide (i=j)||((l[j]?).map fun p=>p.dst.isNone||p.dst != o.dst).getD false)).getD false)&&
 ((List.range l.length).all fun t=>decide (t<n)||((List.range l.length).any fun m=>decide (n≤m)&&Region.waitsFor .any l.toArray t m)||((List.range n).all fun i=>wt l n i 9 t))&&Region.seqB .any l.toArray (l.length-n) n (Gy l.length n)
theorem pR{l:List Oper}{n:Nat}(h:sK l n=true):n<l.length:=by
 simp only[sK,Bool.and_eq_true,decide_eq_true_eq]at h;exact h.1.1.1
theorem NR{l:List Oper}{n:Nat}(h:sK l n=true):Region.seqB .any l.toArray (l.length-n) n (Gy l.length n)=true:=by
 simp only[sK,Bool.and_eq_true]at h;exact h.2
theorem nK{l:List Oper}{n i:Nat}(h:sK l n=true)(hi:i<n):∃o,l[i]? =some o∧(∀e,e∈o.after→Region.binds .any e=true→e.on<i)∧∀d,o.dst=some d→d≠0∧∀j p,j<n→i≠j→l[j]? =some p→p.dst≠some d:=by
 have hn:=pR h;simp only[sK,Bool.and_eq_true]at h;have h1:=List.all_eq_true.1 h.1.1.2 i (List.mem_range.2 hi);have hg:l[i]? =some l[i]:=List.getElem?_eq_getElem om;rw[hg]at h1;simp only[Option.map_some,Option.getD_some,Bool.and_eq_true]at h1;obtain⟨⟨h3,h4⟩,h5⟩:=h1;refine⟨l[i],hg,fun e he hb=>by
  have h7:=Array.all_eq_true_iff_forall_mem.1 h4 e he;rw[hb]at h7;simpa using h7,fun d hd=>⟨fun h0=>?_,fun j p hj hij hp=>?_⟩⟩
 ·rw[hd,h0]at h3;simp at h3
 have h6:=List.all_eq_true.1 h5 j (List.mem_range.2 hj);rw[hp]at h6;simp only[Bool.or_eq_true,decide_eq_true_eq,Option.map_some,Option.getD_some,bne_iff_ne,ne_eq]at h6;rcases h6 with h6|h6|h6
 ·exact absurd h6 hij
 ·intro h8;rw[h8]at h6;cases h6
 ·rw[hd]at h6;exact h6
theorem Ju{l:List Oper}{n t i:Nat}(h:sK l n=true)(ht:n≤t)(htl:t<l.length)(hi:i<n):(∃m,n≤m∧m<l.length∧Region.waitsFor .any l.toArray t m=true)∨wt l n i 9 t=true:=by
 simp only[sK,Bool.and_eq_true]at h;have h1:=List.all_eq_true.1 h.1.2 t (List.mem_range.2 htl);simp only[Bool.or_eq_true,decide_eq_true_eq]at h1;rcases h1 with (h1|h1)|h1
 ·omega
 ·obtain⟨m,hm,hw⟩:=List.any_eq_true.1 h1;simp only[Bool.and_eq_true,decide_eq_true_eq]at hw;exact .inl ⟨m,hw.1,List.mem_range.1 hm,hw.2⟩
 ·exact .inr (List.all_eq_true.1 h1 i (List.mem_range.2 hi))
theorem SK{listed:Array Bool}{m n:Nat}(hs:listed.size=m)(h1:∀j,j<n→listed.getD j true=true)(h2:∀j,n≤j→j<m→listed.getD j true=false):listed=Gy m n:=by
 refine Array.ext (by simp[Gy,hs]) fun j h3 h4=>?_
 have e:listed.getD j true=listed[j]:=by simp[h3]
 rw[←e];simp only[Gy,List.getElem_toArray,List.getElem_map,List.getElem_range];by_cases h:j<n
 ·rw[h1 j h,decide_eq_true h]
 ·rw[h2 j om om,decide_eq_false h]
def ig(l:List Oper)(i:Nat):Nat:=((l[i]?).bind fun o=>o.dst).getD 0
structure HI(L:World→World→Prop)(l:List Oper)(n N:Nat)(a0:Act)(w0:World)(Φ:Nat→Value→World→Prop)(bk:Nat→Value→Option Nat)(listed:Array Bool)(a:Act)(w:World):Prop where
 ls:listed.size=l.length
 tl:∀t,n≤t→t<l.length→listed.getD t true=false
 sz:a.tmps.size=N
 df:a.defers=a0.defers
 bel:L w0 w
 old:∀t,(∀j,j<n→ig l j≠t)→a.tmps.getD t undef=a0.tmps.getD t undef
 val:∀j,j<n→listed.getD j true=true→Φ j (a.tmps.getD (ig l j) undef) w
 cl:∀j o e,j<n→listed.getD j true=true→l[j]? =some o→e∈o.after→Region.binds .any e=true→listed.getD e.on true=true
 sep:∀i j q,i<n→j<n→i≠j→listed.getD i true=true→listed.getD j true=true→bk i (a.tmps.getD (ig l i) undef)=some q→bk j (a.tmps.getD (ig l j) undef)≠some q
theorem Ei{listed:Array Bool}{k:Nat}{d:Bool}(h:listed.getD k d=true):listed.getD k true=true:=by
 by_cases hk:k<listed.size
 ·simp[hk]at h ⊢;exact h
 ·simp[hk]
theorem NS{l:List Oper}{n k:Nat}{listed:Array Bool}(hcl:∀j o e,j<n→listed.getD j true=true→l[j]? =some o→e∈o.after→Region.binds .any e=true→listed.getD e.on true=true):∀(f t:Nat) (o:Oper),l[t]? =some o→(∀e,e∈o.after→Region.binds .any e=true→listed.getD e.on true=true)→wt l n k f t=true→listed.getD k true=true:=by
 have dir:∀(t m:Nat) (o:Oper),l[t]? =some o→(∀e,e∈o.after→Region.binds .any e=true→listed.getD e.on true=true)→Region.waitsFor .any l.toArray t m=true→listed.getD m true=true:=fun t m o ho h hw=>by
  obtain⟨oj,hoj,e,he,hb,hon⟩:=Region.waitsFor_spec hw;rw[List.getElem?_toArray]at hoj;obtain rfl:oj=o:=Option.some.inj (hoj.symm.trans ho);rw[←hon];exact h e he hb
 intro f;induction f with
 |zero=>exact fun t o ho h hw=>dir t k o ho h hw
 |succ f ih=>
  intro t o ho h hw;simp only[wt,Bool.or_eq_true]at hw;rcases hw with hw|hw
  ·exact dir t k o ho h hw
  ·obtain⟨m,hm,hw2⟩:=List.any_eq_true.1 hw;simp only[Bool.and_eq_true]at hw2;have hmn:=List.mem_range.1 hm;have hml:=dir t m o ho h hw2.1;cases hg:l[m]? with
   |some p=>exact ih m p hg (fun e he hb=>hcl m p e hmn hml hg he hb) hw2.2
   |none=>
    exfalso;have hn2:=hw2.2;have:∀f,wt l n k f m=false:=fun f=>by
     have h0:∀i,Region.waitsFor .any l.toArray m i=false:=fun i=>by
      cases hwf:Region.waitsFor .any l.toArray m i with
      |false=>rfl
      |true=>
       obtain⟨oj,hoj,_⟩:=Region.waitsFor_spec hwf;rw[List.getElem?_toArray,hg]at hoj;cases hoj
     cases f with
     |zero=>exact h0 k
     |succ f=>simp[wt,h0]
    rw[this]at hn2;cases hn2
def unl(n:Nat)(listed:Array Bool):Nat:=((List.range n).filter fun i=>!listed.getD i true).length
def Gz(l:List Oper)(n:Nat):Bool:=sK l n&&((List.range n).all fun i=>((l[i]?).map fun o=>o.dst.isSome).getD false)
theorem or_if{c:Prop}[Decidable c]{A B C:Prop}(h:if c then A else C):if c then A∨B else C:=by
 by_cases hc:c
 ·rw[if_pos hc]at h ⊢;exact .inl h
 ·rw[if_neg hc]at h ⊢;exact h
theorem pU{o:Oper}{ops:Array Oper}{tmps:Array Value}{j d N:Nat}{b want:Bool}(hg:o.guard=some (j,want))(hd:(ops[j]?).bind (·.dst)=some d)(hs:tmps.size=N)(h:tmps.getD d undef= .bool b)(hdN:d<N):Region.wanted o (yielded ops tmps)=(b==want):=by
 have hv:tmps[d]? =some (.bool b):=by
  have hl:d<tmps.size:=om;rw[Array.getElem?_eq_getElem hl];simp only[Array.getD_eq_getD_getElem?,Array.getElem?_eq_getElem hl,Option.getD_some]at h;rw[h]
 unfold Region.wanted;rw[hg];simp only[yielded,hd,Option.bind_some,hv];cases b<;>cases want<;>rfl
theorem wP{o:Oper}{ops:Array Oper}{tmps:Array Value}{j d N:Nat}{b want:Bool}{X Y:Prop}(hg:o.guard=some (j,want))(hd:(ops[j]?).bind (·.dst)=some d)(hs:tmps.size=N)(h:tmps.getD d undef= .bool b)(hdN:d<N)(hb:(b==want)=true)(hX:X):if Region.wanted o (yielded ops tmps)then X else Y:=by
 rw[pU hg hd hs h hdN,if_pos hb];exact hX
theorem wQ{o:Oper}{ops:Array Oper}{tmps:Array Value}{j d N:Nat}{b want:Bool}{X Y:Prop}(hg:o.guard=some (j,want))(hd:(ops[j]?).bind (·.dst)=some d)(hs:tmps.size=N)(h:tmps.getD d undef= .bool b)(hdN:d<N)(hb:(b==want)=false)(hY:Y):if Region.wanted o (yielded ops tmps)then X else Y:=by
 rw[pU hg hd hs h hdN,if_neg (by rw[hb];decide)];exact hY
theorem ou{o:Oper}{y:Nat→Option Bool}{X Y:Prop}(hg:o.guard=none)(hX:X):if Region.wanted o y then X else Y:=by
 rw[if_pos (by unfold Region.wanted;rw[hg])];exact hX
def headB(l:List Oper)(n:Nat):Bool:=Gz l n&&((List.range n).all fun i=>((l[i]?).map fun o=>o.guard.isNone).getD false)
theorem uX(I:Array Bool→Act→World→Prop)(L:World→World→Prop)(hL0:∀w,L w {w with drawn:=w.drawn+1})(hLt:∀a b c,L a b→L b c→L a c){P:Program}{id:Nat}{l:List Oper}{Q:Exit→Act→World→Prop}{n N:Nat}{a0:Act}{w:World}(Φ:Nat→Value→World→Prop)(bk:Nat→Value→Option Nat)(hm:P.follows .mixedOrders=true)(hB:sK l n=true)(hz:a0.tmps.size=N)(hN:((List.range n).all fun i=>decide (ig l i<N))=true)
 (hst:∀i v w w',i<n→Φ i v w→L w w'→Φ i v w') (hbk:∀i v w q,i<n→Φ i v w→bk i v=some q→q<w.heap.size)
 (hno:∀i o v v' w,i<n→l[i]? =some o→o.dst=none→Φ i v w→Φ i v' w∧bk i v'=none)
 (hI0:I (Array.replicate l.length false) a0 {w with drawn:=w.drawn+1})
 (hstep:∀i o a w1 listed,i<n→l[i]? =some o→listed.size=l.length→listed.getD i true=false→(∀e,e∈o.after→Region.binds .any e=true→listed.getD e.on true=true)→I listed a w1→a.tmps.size=N→L w w1→(∀t,(∀j,j<n→ig l j≠t)→a.tmps.getD t undef=a0.tmps.getD t undef)→(∀e,e∈o.after→Region.binds .any e=true→Φ e.on (a.tmps.getD (ig l e.on) undef) w1)→
   ∀K:Act→World→Prop,(∀v w',Φ i v w'→L w1 w'→(∀q,bk i v=some q→w1.heap.size≤q)→I (listed.setIfInBounds i true) (a.put o.dst v) w'→K (a.put o.dst v) w')→if Region.wanted o (yielded l.toArray a.tmps)then o.wp P a w1 K Q else K (a.put o.dst undef) w1)
 (hfin:∀a w1 listed,(∀j,j<n→listed.getD j true=true)→I listed a w1→a.tmps.size=N→a.defers=a0.defers→L w w1→(∀t,(∀j,j<n→ig l j≠t)→a.tmps.getD t undef=a0.tmps.getD t undef)→(∀j,j<n→Φ j (a.tmps.getD (ig l j) undef) w1)→(∀i j q,i<n→j<n→i≠j→bk i (a.tmps.getD (ig l i) undef)=some q→bk j (a.tmps.getD (ig l j) undef)≠some q)→wpList P l.toArray Q (l.drop n) a w1):(Code.region id l.toArray true).wp P Q a0 w:=by
 have hnl:=pR hB
 have hseq:=NR hB
 have dl:∀i o d,l[i]? =some o→o.dst=some d→ig l i=d:=fun i o d h1 h2=>by simp[ig,h1,h2]
 have key:∀(c:Nat) (listed:Array Bool) (a:Act) (w1:World),unl n listed=c→HI L l n N a0 w Φ bk listed a w1→I listed a w1→wpAny P .any l.toArray Q (c+(l.length-n)) listed a w1:=by
  intro c;induction c with
  |zero=>
   intro listed a w1 hc I hI;have all:∀j,j<n→listed.getD j true=true:=fun j hj=>by
    cases hl:listed.getD j true with
    |true=>rfl
    |false=>
     have hm:j∈(List.range n).filter fun i=>!listed.getD i true:=List.mem_filter.2 ⟨List.mem_range.2 hj,by rw[hl];rfl⟩
     rw[List.eq_nil_of_length_eq_zero hc]at hm;cases hm
   have e:=SK I.ls all I.tl;have:=wpAny_of_seq (md:= .any) (Q':=Q) (l.drop n) n listed a w1 (fun j=>by simp[List.getElem?_drop]) (by rw[List.length_drop,e];exact hseq) (hfin a w1 listed all hI I.sz I.df I.bel I.old (fun j hj=>I.val j hj (all j hj)) fun i j q hi hj hij=>I.sep i j q hi hj hij (all i hi) (all j hj));rw[List.length_drop]at this;rw[Nat.zero_add];exact this
  |succ c ih=>
   intro listed a w1 hc I hI;have hex:∃i,i<n∧listed.getD i true=false:=by
    have hne:(List.range n).filter (fun i=>!listed.getD i true)≠[]:=fun h=>by
     unfold unl at hc;rw[h]at hc;cases hc
    obtain⟨i,hi⟩:=List.exists_mem_of_ne_nil _ hne;obtain⟨h1,h2⟩:=List.mem_filter.1 hi;exact⟨i,List.mem_range.1 h1,by cases h:listed.getD i true with
     |false=>rfl
     |true=>rw[h]at h2;cases h2⟩
   have hlt:∀i,i∈Region.ready .any l.toArray listed→i<n:=fun i hi=>by
    obtain⟨h1,o,h2,h3⟩:=mem_ready.1 hi;have hil:i<l.length:=by have:=(Array.getElem?_eq_some_iff.1 h2).1;simpa using this
    refine Nat.lt_of_not_le fun hni=>?_
    obtain⟨k,hk,hku⟩:=hex;rcases Ju hB hni hil hk with ⟨m,hm,hml,hw⟩|hw
    ·obtain⟨oj,hoj,e,he,hb,hon⟩:=Region.waitsFor_spec hw;obtain rfl:oj=o:=Option.some.inj (hoj.symm.trans h2);have h5:=Ei (h3 e he hb);rw[hon,I.tl m hm hml]at h5;cases h5
    ·have h5:=NS I.cl 9 i o (by rw[List.getElem?_toArray]at h2;exact h2) (fun e he hb=>Ei (h3 e he hb)) hw;rw[hku]at h5;cases h5
   have hrd:Region.ready .any l.toArray listed≠[]:=fun h=>by
    have:∀j,j<n→listed.getD j true=true:=fun j=>by
     induction j using Nat.strongRecOn with
     |_ j ihj=>
      intro hj;cases hl:listed.getD j true with
      |true=>rfl
      |false=>
       obtain⟨o,ho,hbk',_⟩:=nK hB hj;have hm:j∈Region.ready .any l.toArray listed:=by
        refine mem_ready.2 ⟨hl,o,by rw[List.getElem?_toArray];exact ho,fun e he hb=>?_⟩;have h1:=hbk' e he hb;have h2:=ihj e.on h1 om;have hs:=I.ls;simp only[Array.getD_eq_getD_getElem?,Array.getElem?_eq_getElem (show e.on<listed.size by omega),Option.getD_some]at h2 ⊢;exact h2
       rw[h]at hm;cases hm
    obtain⟨i,hi,hu⟩:=hex;rw[this i hi]at hu;cases hu
   rw[show c+1+(l.length-n)=(c+(l.length-n))+1 from om];refine⟨fun h=>absurd h hrd,fun i hi=>?_⟩;have hin:=hlt i hi;obtain⟨h1,o,h2,h3⟩:=mem_ready.1 hi;rw[List.getElem?_toArray]at h2;obtain⟨o',ho',hba,hdd'⟩:=nK hB hin;have:o'=o:=Option.some.inj (ho'.symm.trans h2);subst this;have hs:=I.ls;have lt:∀e,e∈o'.after→Region.binds .any e=true→listed.getD e.on true=true:=fun e he hb=>by
    have h4:=h3 e he hb;have h5:=hba e he hb;simp only[Array.getD_eq_getD_getElem?,Array.getElem?_eq_getElem (show e.on<listed.size by omega),Option.getD_some]at h4 ⊢;exact h4
   unfold wpOp;rw[List.getElem?_toArray];simp only[ho'];refine or_if (hstep i o' a w1 listed hin ho' hs h1 lt hI I.sz I.bel I.old (fun e he hb=>I.val e.on (by have:=hba e he hb;omega) (lt e he hb)) _ fun v w' hv hbw hnew hI'=>ih _ _ _ ?_ ?_ hI')
   ·have hx:unl n (listed.setIfInBounds i true)+1=unl n listed:=by
     unfold unl;have:∀L:List Nat,L.Nodup→i∈L→(L.filter fun j=>!(listed.setIfInBounds i true).getD j true).length+1=(L.filter fun j=>!listed.getD j true).length:=by
      intro L;induction L with
      |nil=>intro _ h;cases h
      |cons z L ihL=>
       intro hnd hm;have hnd':=List.nodup_cons.1 hnd;rcases List.mem_cons.1 hm with rfl|hm
       ·have e1:(!(listed.setIfInBounds i true).getD i true)=false:=by rw[f_,if_pos ⟨rfl,om⟩];rfl
        have e2:(!listed.getD i true)=true:=by rw[h1];rfl
        have e3:(L.filter fun j=>!(listed.setIfInBounds i true).getD j true)=L.filter fun j=>!listed.getD j true:=List.filter_congr fun j hj=>by
         rw[f_,if_neg (fun h:i=j∧i<listed.size=>hnd'.1 (h.1▸hj))]
        simp only[List.filter_cons,e1,e2,e3,if_true,Bool.false_eq_true,if_false,List.length_cons]
       ·have hzi:i≠z:=fun h=>hnd'.1 (h▸hm)
        have ih2:=ihL hnd'.2 hm;have e1:(!(listed.setIfInBounds i true).getD z true)=!listed.getD z true:=by rw[f_,if_neg (fun h=>hzi h.1)]
        simp only[List.filter_cons,e1];split
        ·simp only[List.length_cons];omega
        ·exact ih2
     exact this _ List.nodup_range (List.mem_range.2 hin)
    omega
   ·have lm:∀k,listed.getD k true=true→(listed.setIfInBounds i true).getD k true=true:=fun k hk=>by rw[f_];split<;>first|rfl|exact hk
    have ln:∀j,j≠i→(listed.setIfInBounds i true).getD j true=listed.getD j true:=fun j hj=>by rw[f_,if_neg (fun h=>hj h.1.symm)]
    have wB:L w w':=hLt _ _ _ I.bel hbw;cases hd:o'.dst with
    |none=>
     obtain⟨h7,h8⟩:Φ i (a.tmps.getD (ig l i) undef) w'∧bk i (a.tmps.getD (ig l i) undef)=none:=hno i o' v _ w' hin ho' hd hv;refine⟨by simp[hs],fun t ht htl=>by rw[ln t om];exact I.tl t ht htl,I.sz,I.df,wB,I.old,fun j hj hjl=>?_,fun j p e hj hjl hp he hb=>?_,fun x y q hx hy hxy hlx Hg=>?_⟩
     ·by_cases hij:j=i
      ·subst hij;exact h7
      ·rw[ln j hij]at hjl;exact hst j _ _ _ hj (I.val j hj hjl) hbw
     ·by_cases hij:j=i
      ·subst hij;obtain rfl:p=o':=Option.some.inj (hp.symm.trans ho');exact lm _ (lt e he hb)
      ·rw[ln j hij]at hjl;exact lm _ (I.cl j p e hj hjl hp he hb)
     ·by_cases hxi:x=i
      ·subst hxi;intro hq;rw[show(a.put none v)=a from rfl,h8]at hq;cases hq
      ·rw[ln x hxi]at hlx;by_cases hyi:y=i
       ·subst hyi;intro _ hq;rw[show(a.put none v)=a from rfl,h8]at hq;cases hq
       ·rw[ln y hyi]at Hg;exact I.sep x y q hx hy hxy hlx Hg
    |some d=>
     obtain⟨hd0,hdd⟩:=hdd' d hd;have hdi:ig l i=d:=dl i o' d ho' hd;have hdN:d<N:=by
      have:=List.all_eq_true.1 hN i (List.mem_range.2 hin);rw[hdi]at this;exact of_decide_eq_true this
     have hne:∀j,j<n→i≠j→ig l j≠d:=fun j hj hij=>by
      obtain⟨p,hp,_,_⟩:=nK hB hj;have h3:=hdd j p hj hij hp;cases hpd:p.dst with
      |none=>rw[show ig l j=0 by simp[ig,hp,hpd]];exact Ne.symm hd0
      |some dj=>
       rw[dl j p dj hp hpd];intro h;exact h3 (by rw[hpd,h])
     have hput:(a.put (some d) v).tmps=a.tmps.setIfInBounds d v:=rfl;have gi:(a.put (some d) v).tmps.getD d undef=v:=by rw[hput];exact aA (by rw[I.sz];exact hdN)
     have gn:∀t,t≠d→(a.put (some d) v).tmps.getD t undef=a.tmps.getD t undef:=fun t ht=>by rw[hput];exact ae (Ne.symm ht)
     refine⟨by simp[hs],fun t ht htl=>by rw[ln t om];exact I.tl t ht htl,by rw[hput];simp[I.sz],I.df,wB,fun t ht=>?_,fun j hj hjl=>?_,fun j p e hj hjl hp he hb=>?_,fun x y q hx hy hxy hlx Hg=>?_⟩
     ·have:t≠d:=fun h=>ht i hin (by rw[hdi,h])
      rw[gn t this];exact I.old t ht
     ·by_cases hij:j=i
      ·subst hij;rw[hdi,gi];exact hv
      ·rw[ln j hij]at hjl;rw[gn _ (hne j hj (Ne.symm hij))];exact hst j _ _ _ hj (I.val j hj hjl) hbw
     ·by_cases hij:j=i
      ·subst hij;obtain rfl:p=o':=Option.some.inj (hp.symm.trans ho');exact lm _ (lt e he hb)
      ·rw[ln j hij]at hjl;exact lm _ (I.cl j p e hj hjl hp he hb)
     ·by_cases hxi:x=i
      ·subst hxi;have hyx:y≠x:=Ne.symm hxy;rw[ln y hyx]at Hg;rw[hdi,gi,gn _ (hne y hy hxy)];intro hq hq2;have:=hnew q hq;have:=hbk y _ _ q hy (I.val y hy Hg) hq2;omega
      ·rw[ln x hxi]at hlx;by_cases hyi:y=i
       ·subst hyi;rw[hdi,gi,gn _ (hne x hx (Ne.symm hxi))];intro hq hq2;have:=hnew q hq2;have:=hbk x _ _ q hx (I.val x hx hlx) hq;omega
       ·rw[ln y hyi]at Hg;rw[gn _ (hne x hx (Ne.symm hxi)),gn _ (hne y hy (Ne.symm hyi))];exact I.sep x y q hx hy hxy hlx Hg
 refine wp_region_any hm ?_
 have e0:∀j,(Array.replicate l.length false).getD j true=decide (¬j<l.length):=fun j=>by
  by_cases h:j<l.length
  ·simp[h]
  ·simp[h]
 have c0:unl n (Array.replicate l.length false)=n:=by
  unfold unl;rw[List.filter_eq_self.2 fun j hj=>by rw[e0,decide_eq_false (by have:=List.mem_range.1 hj;omega)];rfl,List.length_range]
 have:=key n (Array.replicate l.length false) a0 {w with drawn:=w.drawn+1} c0 ⟨sy,fun t _ htl=>(by rw[e0];exact decide_eq_false om),hz,rfl,hL0 _,fun _ _=>rfl,fun j hj hl=>(by
  rw[e0,decide_eq_false om]at hl;cases hl),fun j p e hj hl=>(by
  rw[e0,decide_eq_false om]at hl;cases hl),fun i j q hi _ _ hl=>(by
  rw[e0,decide_eq_false om]at hl;cases hl)⟩ hI0
 rw[show n+(l.length-n)=l.toArray.size from by simp;omega]at this
 have hr:Array.replicate l.toArray.size false=Array.replicate l.length false:=sy
 rw[hr]
 exact this
theorem Jv(L:World→World→Prop)(hL0:∀w,L w {w with drawn:=w.drawn+1})(hLt:∀a b c,L a b→L b c→L a c){P:Program}{id:Nat}{l:List Oper}{Q:Exit→Act→World→Prop}{n N:Nat}{a0:Act}{w:World}(Φ:Nat→Value→World→Prop)(bk:Nat→Value→Option Nat)(hm:P.follows .mixedOrders=true)(hB:sK l n=true)(hz:a0.tmps.size=N)(hN:((List.range n).all fun i=>decide (ig l i<N))=true)
 (hst:∀i v w w',i<n→Φ i v w→L w w'→Φ i v w') (hbk:∀i v w q,i<n→Φ i v w→bk i v=some q→q<w.heap.size)
 (hno:∀i o v v' w,i<n→l[i]? =some o→o.dst=none→Φ i v w→Φ i v' w∧bk i v'=none)
 (hstep:∀i o a w1,i<n→l[i]? =some o→a.tmps.size=N→L w w1→(∀t,(∀j,j<n→ig l j≠t)→a.tmps.getD t undef=a0.tmps.getD t undef)→(∀e,e∈o.after→Region.binds .any e=true→Φ e.on (a.tmps.getD (ig l e.on) undef) w1)→
   ∀K:Act→World→Prop,(∀v w',Φ i v w'→L w1 w'→(∀q,bk i v=some q→w1.heap.size≤q)→K (a.put o.dst v) w')→if Region.wanted o (yielded l.toArray a.tmps)then o.wp P a w1 K Q else K (a.put o.dst undef) w1)
 (hfin:∀a w1,a.tmps.size=N→a.defers=a0.defers→L w w1→(∀t,(∀j,j<n→ig l j≠t)→a.tmps.getD t undef=a0.tmps.getD t undef)→(∀j,j<n→Φ j (a.tmps.getD (ig l j) undef) w1)→(∀i j q,i<n→j<n→i≠j→bk i (a.tmps.getD (ig l i) undef)=some q→bk j (a.tmps.getD (ig l j) undef)≠some q)→wpList P l.toArray Q (l.drop n) a w1):(Code.region id l.toArray true).wp P Q a0 w:=
 uX (fun _ _ _=>True) L hL0 hLt Φ bk hm hB hz hN hst hbk hno trivial (fun i o a w1 _ hi ho _ _ _ _ h1 h2 h3 h4 K hK=>hstep i o a w1 hi ho h1 h2 h3 h4 K fun v w' p q r=>hK v w' p q r trivial) fun a w1 _ _ _=>hfin a w1
theorem uY{P:Program}{id:Nat}{l:List Oper}{Q:Exit→Act→World→Prop}{n N:Nat}{a0:Act}{w:World}(Φ:Nat→Value→World→Prop)(bk:Nat→Value→Option Nat)(hm:P.follows .mixedOrders=true)(hB:Gz l n=true)(hz:a0.tmps.size=N)(hN:((List.range n).all fun i=>decide (ig l i<N))=true)
 (hst:∀i v w w',i<n→Φ i v w→Below w.heap.size w w'→Φ i v w') (hbk:∀i v w q,i<n→Φ i v w→bk i v=some q→q<w.heap.size)
 (hstep:∀i o a w1,i<n→l[i]? =some o→a.tmps.size=N→Below w.heap.size w w1→(∀t,(∀j,j<n→ig l j≠t)→a.tmps.getD t undef=a0.tmps.getD t undef)→(∀e,e∈o.after→Region.binds .any e=true→Φ e.on (a.tmps.getD (ig l e.on) undef) w1)→
   ∀K:Act→World→Prop,(∀v w',Φ i v w'→Below w1.heap.size w1 w'→(∀q,bk i v=some q→w1.heap.size≤q)→K (a.put o.dst v) w')→if Region.wanted o (yielded l.toArray a.tmps)then o.wp P a w1 K Q else K (a.put o.dst undef) w1)
 (hfin:∀a w1,a.tmps.size=N→a.defers=a0.defers→Below w.heap.size w w1→(∀t,(∀j,j<n→ig l j≠t)→a.tmps.getD t undef=a0.tmps.getD t undef)→(∀j,j<n→Φ j (a.tmps.getD (ig l j) undef) w1)→(∀i j q,i<n→j<n→i≠j→bk i (a.tmps.getD (ig l i) undef)=some q→bk j (a.tmps.getD (ig l j) undef)≠some q)→wpList P l.toArray Q (l.drop n) a w1):(Code.region id l.toArray true).wp P Q a0 w:=by
 simp only[Gz,Bool.and_eq_true]at hB
 refine Jv (fun w w'=>Below w.heap.size w w') (fun w=>⟨rfl,rfl,rfl,Nat.le_refl _,fun _ _=>rfl⟩) (fun a b c h1 h2=>⟨h2.os.trans h1.os,h2.tape.trans h1.tape,h2.output.trans h1.output,Nat.le_trans h1.size h2.size,fun q hq=>(h2.block q (Nat.lt_of_lt_of_le hq h1.size)).trans (h1.block q hq)⟩) Φ bk hm hB.1 hz hN hst hbk (fun i o v v' w hi ho hd=>?_) hstep hfin
 have h5:=List.all_eq_true.1 hB.2 i (List.mem_range.2 hi)
 rw[ho]at h5
 simp only[Option.map_some,Option.getD_some]at h5
 rw[hd]at h5;cases h5
theorem NT{P:Program}{id:Nat}{l:List Oper}{Q:Exit→Act→World→Prop}{n N:Nat}{a0:Act}{w:World}(Φ:Nat→Value→World→Prop)(bk:Nat→Value→Option Nat)(hm:P.follows .mixedOrders=true)(hB:headB l n=true)(hz:a0.tmps.size=N)(hN:((List.range n).all fun i=>decide (ig l i<N))=true)
 (hst:∀i v w w',i<n→Φ i v w→Below w.heap.size w w'→Φ i v w') (hbk:∀i v w q,i<n→Φ i v w→bk i v=some q→q<w.heap.size)
 (hstep:∀i o a w1,i<n→l[i]? =some o→a.tmps.size=N→Below w.heap.size w w1→(∀t,(∀j,j<n→ig l j≠t)→a.tmps.getD t undef=a0.tmps.getD t undef)→(∀e,e∈o.after→Region.binds .any e=true→Φ e.on (a.tmps.getD (ig l e.on) undef) w1)→
   ∀K:Act→World→Prop,(∀v w',Φ i v w'→Below w1.heap.size w1 w'→(∀q,bk i v=some q→w1.heap.size≤q)→K (a.put o.dst v) w')→o.wp P a w1 K Q)
 (hfin:∀a w1,a.tmps.size=N→a.defers=a0.defers→Below w.heap.size w w1→(∀t,(∀j,j<n→ig l j≠t)→a.tmps.getD t undef=a0.tmps.getD t undef)→(∀j,j<n→Φ j (a.tmps.getD (ig l j) undef) w1)→(∀i j q,i<n→j<n→i≠j→bk i (a.tmps.getD (ig l i) undef)=some q→bk j (a.tmps.getD (ig l j) undef)≠some q)→wpList P l.toArray Q (l.drop n) a w1):(Code.region id l.toArray true).wp P Q a0 w:=by
 simp only[headB,Bool.and_eq_true]at hB
 refine uY Φ bk hm hB.1 hz hN hst hbk (fun i o a w1 hi ho h1 h2 h3 h4 K hK=>?_) hfin
 have h5:=List.all_eq_true.1 hB.2 i (List.mem_range.2 hi)
 rw[ho]at h5
 rw[if_pos (by unfold Region.wanted;rw[Option.isNone_iff_eq_none.1 h5])]
 exact hstep i o a w1 hi ho h1 h2 h3 h4 K hK
def SL(l:List Oper)(n:Nat):Bool:=
 decide (n≤l.length)&&((List.range n).all fun i=>((l[i]?).map fun o=>o.guard.isNone&&o.dst.isSome&&(o.after.all fun e=>!Region.binds .any e||decide (e.on<i))&&((List.range n).all fun j=>decide (i=j)||((l[j]?).map fun p=>p.dst != o.dst).getD false)).getD false)
theorem GG{l:List Oper}{n i:Nat}(h:SL l n=true)(hi:i<n):∃o d,l[i]? =some o∧o.guard=none∧o.dst=some d∧(∀e,e∈o.after→Region.binds .any e=true→e.on<i)∧∀j p,j<n→i≠j→l[j]? =some p→p.dst≠some d:=by
 simp only[SL,Bool.and_eq_true,decide_eq_true_eq]at h;have h1:=List.all_eq_true.1 h.2 i (List.mem_range.2 hi);have hg:l[i]? =some (l[i]' om):=List.getElem?_eq_getElem om;rw[hg]at h1;simp only[Option.map_some,Option.getD_some,Bool.and_eq_true,Option.isNone_iff_eq_none]at h1;obtain⟨⟨⟨h2,h3⟩,h4⟩,h5⟩:=h1;obtain⟨d,hd⟩:=Option.isSome_iff_exists.1 h3;refine⟨_,d,hg,h2,hd,fun e he hb=>by
  have h7:=Array.all_eq_true_iff_forall_mem.1 h4 e he;rw[hb]at h7;simpa using h7,fun j p hj hij hp=>?_⟩
 have h6:=List.all_eq_true.1 h5 j (List.mem_range.2 hj);rw[hp]at h6;simp only[Bool.or_eq_true,decide_eq_true_eq,Option.map_some,Option.getD_some,bne_iff_ne,ne_eq]at h6;rcases h6 with h6|h6
 ·exact absurd h6 hij
 ·rw[hd]at h6;exact h6
theorem GH{P:Program}{id:Nat}{l:List Oper}{Q:Exit→Act→World→Prop}{n N:Nat}{a0:Act}{w:World}(Φ:Nat→Value→World→Prop)(bk:Nat→Value→Option Nat)(_hm:P.follows .mixedOrders=true)(hB:SL l n=true)(hz:a0.tmps.size=N)(hN:((List.range n).all fun i=>decide (ig l i<N))=true)
 (hst:∀i v w w',i<n→Φ i v w→Below w.heap.size w w'→Φ i v w') (hbk:∀i v w q,i<n→Φ i v w→bk i v=some q→q<w.heap.size)
 (hstep:∀i o a w1,i<n→l[i]? =some o→a.tmps.size=N→Below w.heap.size w w1→(∀t,(∀j,j<n→ig l j≠t)→a.tmps.getD t undef=a0.tmps.getD t undef)→(∀e,e∈o.after→Region.binds .any e=true→Φ e.on (a.tmps.getD (ig l e.on) undef) w1)→
   ∀K:Act→World→Prop,(∀v w',Φ i v w'→Below w1.heap.size w1 w'→(∀q,bk i v=some q→w1.heap.size≤q)→K (a.put o.dst v) w')→o.wp P a w1 K Q)
 (hfin:∀a w1,a.tmps.size=N→a.defers=a0.defers→Below w.heap.size w w1→(∀t,(∀j,j<n→ig l j≠t)→a.tmps.getD t undef=a0.tmps.getD t undef)→(∀j,j<n→Φ j (a.tmps.getD (ig l j) undef) w1)→(∀i j q,i<n→j<n→i≠j→bk i (a.tmps.getD (ig l i) undef)=some q→bk j (a.tmps.getD (ig l j) undef)≠some q)→wpList P l.toArray Q (l.drop n) a w1):(Code.region id l.toArray false).wp P Q a0 w:=by
 have dl:∀i o d,l[i]? =some o→o.dst=some d→ig l i=d:=fun i o d h1 h2=>by simp[ig,h1,h2]
 have key:∀(c k:Nat) (a:Act) (w1:World),k+c=n→a.tmps.size=N→a.defers=a0.defers→Below w.heap.size w w1→(∀t,(∀j,j<n→ig l j≠t)→a.tmps.getD t undef=a0.tmps.getD t undef)→(∀j,j<k→Φ j (a.tmps.getD (ig l j) undef) w1)→(∀i j q,i<k→j<k→i≠j→bk i (a.tmps.getD (ig l i) undef)=some q→bk j (a.tmps.getD (ig l j) undef)≠some q)→wpList P l.toArray Q (l.drop k) a w1:=by
  intro c;induction c with
  |zero=>
   intro k a w1 hk h1 h2 h3 h4 h5 h6;obtain rfl:k=n:=om;exact hfin a w1 h1 h2 h3 h4 h5 h6
  |succ c ih=>
   intro k a w1 hk h1 h2 h3 h4 h5 h6;have hin:k<n:=om;obtain⟨o,d,ho,hg,hd,hba,hdd⟩:=GG hB hin;have hkl:k<l.length:=(List.getElem?_eq_some_iff.1 ho).1;have hdr:l.drop k=o::l.drop (k+1):=by
    rw[List.drop_eq_getElem_cons hkl];congr 1;rw[List.getElem?_eq_getElem hkl]at ho;exact Option.some.inj ho
   rw[hdr];refine BigFrame.wpList_want (by unfold Region.wanted;rw[hg]) fun K hK=>?_
   refine hstep k o a w1 hin ho h1 h3 h4 (fun e he hb=>h5 e.on (hba e he hb)) K fun v w' hv hbw hnew=>hK _ _ ?_
   have hdi:ig l k=d:=dl k o d ho hd;have hdN:d<N:=by
    have:=List.all_eq_true.1 hN k (List.mem_range.2 hin);rw[hdi]at this;exact of_decide_eq_true this
   have hne:∀j,j<n→k≠j→ig l j≠d:=fun j hj hij=>by
    obtain⟨p,dj,hp,_,hpd,_,_⟩:=GG hB hj;rw[dl j p dj hp hpd];intro h;exact hdd j p hj hij hp (by rw[hpd,h])
   have hput:(a.put o.dst v).tmps=a.tmps.setIfInBounds d v:=by rw[hd];rfl
   have gi:(a.put o.dst v).tmps.getD d undef=v:=by rw[hput];exact aA (by rw[h1];exact hdN)
   have gn:∀t,t≠d→(a.put o.dst v).tmps.getD t undef=a.tmps.getD t undef:=fun t ht=>by rw[hput];exact ae (Ne.symm ht)
   have wB:Below w.heap.size w w':=by
    have s1:=h3.size;have s2:=hbw.size;exact⟨hbw.os.trans h3.os,hbw.tape.trans h3.tape,hbw.output.trans h3.output,om,fun q hq=>(hbw.block q om).trans (h3.block q hq)⟩
   refine ih (k+1) _ w' om (by rw[hput];simp[h1]) (by rw[hd];exact h2) wB (fun t ht=>?_) (fun j hj=>?_) fun x y q hx hy hxy=>?_
   ·have:t≠d:=fun h=>ht k hin (by rw[hdi,h])
    rw[gn t this];exact h4 t ht
   ·by_cases hij:j=k
    ·subst hij;rw[hdi,gi];exact hv
    ·rw[gn _ (hne j om (Ne.symm hij))];exact hst j _ _ _ om (h5 j om) hbw
   ·by_cases hxi:x=k
    ·subst hxi;rw[hdi,gi,gn _ (hne y om hxy)];intro hq hq2;have:=hnew q hq;have:=hbk y _ _ q om (h5 y om) hq2;omega
    ·by_cases hyi:y=k
     ·subst hyi;rw[hdi,gi,gn _ (hne x om (Ne.symm hxi))];intro hq hq2;have:=hnew q hq2;have:=hbk x _ _ q om (h5 x om) hq;omega
     ·rw[gn _ (hne x om (Ne.symm hxi)),gn _ (hne y om (Ne.symm hyi))];exact h6 x y q om om hxy
 refine wp_region_lit ?_
 have:=key n 0 a0 w om hz rfl ⟨rfl,rfl,rfl,Nat.le_refl _,fun _ _=>rfl⟩ (fun _ _=>rfl) (fun j hj=>om) fun i j q hi=>om
 rw[List.drop_zero]at this
 exact this
end
section
open Go Go.RowKit Ab
def bz_DQ1:=an @wi (an @aO (an @Nat.div_one (an @Nat.mul_one (an @aH (an @eY (an @dh (an @dF @cZ)))))))
theorem wordO(a:List Nat)(w:Nat)(ha:Wd a)(hw0:0<w)(hw:w<18446744073709551616)(la:a.length≤1099511627776):
 ah Tryz.prog J0 147 [.l 1 (W a),.i .u64 (w:Int)] (.to 31 1 (W (dg B (nv B a/w))) [.i .u64 ((nv B a%w:Nat):Int),.i .i64 0]):=by
 have hno:=mO (fl B a.length (nv B a/w)) (by rw[bg];omega)
 rw[qM B2 (Nat.lt_of_le_of_lt (Nat.div_le_self _ _) (bY ha))]at hno
 refine ah.mkt aX bV Tryz.func147 rfl (ac:=a147) kf rfl dc rfl dc ?_
 apply dG
 unfold a147
 conv in gc _ _=>reduce
 simp only[fZ,fC,Int.reduceOfNat,Int.reduceNegSucc]
 have U6:=yA a w ha hw0 hw la
 refine qc (ai @bD @bz_DQ1) ?_
 exact⟨⟨_,_,rfl,rfl,rfl⟩,⟨rfl,rfl⟩,⟨rfl,rfl⟩,trivial⟩
end
section
open Go Go.RowKit Ab
def dZ:=an @wi (an @aO (an @Nat.div_one (an @Nat.mul_one (an @aH (an @eY @dh)))))
def twoK(A1 A2:List Nat)(s:St):Prop:=∃i j n m,i≠j∧s.get 4= .ow 1 i n∧s.get 5= .ow 1 j m∧s.ob i=some ⟨31,1,W A1,true,false⟩∧s.ob j=some ⟨31,1,W A2,true,false⟩
theorem Jy(a b:List Nat)(ha:Wd a)(hb:Wd b)(la:a.length≤1000000000)(h2:2≤b.length)(hab:b.length≤a.length)(htop:b.getD (b.length-1) 0≠0):
 r_ (ah Tryz.prog J0) (iJ Tryz.prog) a148 (fun ex s=>(ex= .normal∨ex= .ret)∧twoK (dg B (nv B a/nv B b)) (dg B (nv B a%nv B b)) s) ⟨[(0,.l 1 (W a)),(1,.l 1 (W b))],[],0⟩:=by
 have hbt:=dA hb (b.length-1)
 obtain⟨n1,n2,n3⟩:=WB hb om htop
 have hlz:=CO (b.getD (b.length-1) 0) hbt
 have hs64:64-bl (b.getD (b.length-1) 0)≤64:=om
 have XC:=Ar b ((64-bl (b.getD (b.length-1) 0):Nat):Int) hb om
 have hsha:=Ar a ((64-bl (b.getD (b.length-1) 0):Nat):Int) ha om
 rw[uo,if_neg om,aO]at XC hsha
 have hA:=bY ha
 have hsc:=CG (U:=nv B a) (y:=nv B b) (s:=64-bl (b.getD (b.length-1) 0))
 have Jz:=QX (s:=64-bl (b.getD (b.length-1) 0)) hab om hA n3
 have hAs:nv B a*2^(64-bl (b.getD (b.length-1) 0))<B^(a.length+1):=by
  have h64:2^(64-bl (b.getD (b.length-1) 0))≤B:=Nat.pow_le_pow_right (n:=2) dc hs64;rw[Nat.pow_succ];exact Nat.lt_of_lt_of_le ((Nat.mul_lt_mul_right (Nat.two_pow_pos _)).2 hA) (Nat.mul_le_mul_left _ h64)
 generalize 64-bl (b.getD (b.length-1) 0)=s at*
 obtain⟨n,hn⟩:∃n,n=b.length:=⟨_,rfl⟩
 obtain⟨m,hm⟩:∃m,m=a.length:=⟨_,rfl⟩
 obtain⟨Vs,hVs⟩:∃v,v=nv B b*2^s:=⟨_,rfl⟩
 obtain⟨As,hAe⟩:∃v,v=nv B a*2^s:=⟨_,rfl⟩
 rw[←hVs,←hn]at n1 n2
 rw[←hVs]at XC hsc Jz
 rw[←hAe]at hsha hsc hAs Jz
 rw[←hm]at hAs Jz
 rw[←hn]at Jz
 have hvl:dg B Vs=fl B n Vs:=(Dp dc (.inr n1) n2).symm
 rw[hvl]at XC
 have hupl:=xx (by decide:2≤B) hAs
 have OV:[dg B As,List.replicate (m+1-(dg B As).length) 0].flatten=fl B (m+1) As:=by
  rw[←fl_pad hAs];simp
 have hcon:=Gg [dg B As,List.replicate (m+1-(dg B As).length) 0] sy (by rw[OV,bg];omega)
 rw[OV]at hcon
 have hlu:(fl B (m+1) As).length=m+1:=bg _ _
 have hlv:(fl B n Vs).length=n:=bg _ _
 have SN:((m:Int)+1-((dg B As).length:Int)).toNat=m+1-(dg B As).length:=om
 have hge:(0:Int)≤(m:Int)+1-((dg B As).length:Int):=om
 apply dG
 unfold a148
 conv in gc _ _=>reduce
 simp only[fZ,fC,Int.reduceOfNat,Int.reduceNegSucc]
 have hQ1:((m:Int)+1-(n:Int)).toNat=m+1-n:=om
 have hQ0:(0:Int)≤(m:Int)+1-(n:Int):=om
 repeat first|(refine hK _ ?_;clear hK K)|simp only[Sv,↓reduceIte,Nat.reduceEqDiff]|((first|refine ay (fun K hK=>?_)|refine aB (fun K hK=>?_)|refine au (fun K hK=>?_));refine dM (ai @CU (ai (Eq.symm hn) (ai @cZ @dZ))) ?_)
 refine qA _ _ (hlz) ?_ ?_
 ·exact UH (ai @CU (ai (Eq.symm hn) (ai @cZ @dZ)))
 refine dM (ai @CU (ai (Eq.symm hn) (ai @cZ @dZ))) ?_
 repeat first|(refine hK _ ?_;clear hK K)|simp only[Sv,↓reduceIte,Nat.reduceEqDiff]|((first|refine ay (fun K hK=>?_)|refine aB (fun K hK=>?_)|refine au (fun K hK=>?_));refine dM @dZ ?_)
 refine qA _ _ (XC) ?_ ?_
 ·exact UH @dZ
 refine dM @dZ ?_
 repeat first|(refine hK _ ?_;clear hK K)|simp only[Sv,↓reduceIte,Nat.reduceEqDiff]|((first|refine ay (fun K hK=>?_)|refine aB (fun K hK=>?_)|refine au (fun K hK=>?_));refine dM @dZ ?_)
 refine qA _ _ (hsha) ?_ ?_
 ·exact UH @dZ
 refine dM @dZ ?_
 repeat first|(refine hK _ ?_;clear hK K)|simp only[Sv,↓reduceIte,Nat.reduceEqDiff]|((first|refine ay (fun K hK=>?_)|refine aB (fun K hK=>?_)|refine au (fun K hK=>?_));refine dM (ai @DW (ai @SN (ai (Eq.symm hm) @dZ))) ?_)
 refine qA _ _ (hcon) ?_ ?_
 ·exact UH (ai @DW (ai @SN (ai (Eq.symm hm) @dZ)))
 refine dM (ai @DW (ai @SN (ai (Eq.symm hm) @dZ))) ?_
 try (refine hK _ ?_;clear hK K)
 refine aJ (ai @DW (ai @hQ1 (ai @hlu @dZ))) ?_
 have hVn:0<Vs:=Nat.lt_of_lt_of_le (Nat.pow_pos dc) n1
 refine aF [] Nat (fun i=>⟨[(6,.i .i64 (n:Int)),(7,.i .i64 (s:Int)),(8,.l 1 (W (fl B n Vs))),(12,.ow 1 0 (m+1)),(13,.ow 1 1 (m+1-n)),(14,.i .i64 ((i:Int)-1))],
  [(0,some ⟨31,1,W (uL As Vs m n i),true,false⟩),(1,some ⟨31,1,W (qL As Vs (m+1-n) i),true,false⟩)],2⟩)
  (fun i=>i≤m+1-n) (fun i=>i) (m+1-n) (Nat.le_refl _) (by exact mF) (by
  refine nO trivial ?_
  refine⟨om,?_,?_⟩
  ·rw[←uL_top om Jz]
  ·unfold qL;rw[Nat.sub_self,Nat.div_eq_of_lt Jz];simp[fl]) ?_
 intro i hi Q' hQ he hr
 cases i with
 |zero=>
  have hu0:(uL As Vs m n 0).take n=fl B n (As%Vs):=by
   unfold uL;rw[Nat.pow_zero,Nat.div_one,fl,List.nil_append,List.take_append_of_le_length (by rw[bg];exact Nat.le_refl _),List.take_of_length_le (by rw[bg];exact Nat.le_refl _)]
  have hul:(uL As Vs m n 0).length=m+1:=by unfold uL;rw[List.length_append,List.length_append,bg,bg,List.length_replicate];omega
  have hq0:qL As Vs (m+1-n) 0=fl B (m+1-n) (As/Vs):=by unfold qL;rw[Nat.pow_zero,Nat.div_one];rfl
  have hRn:As%Vs<B^n:=Nat.lt_trans (Nat.mod_lt _ hVn) n2;have hQb:As/Vs<B^(m+1-n):=by
   refine(Nat.div_lt_iff_lt_mul hVn).2 ?_;rw[Nat.mul_comm];exact(Nat.div_lt_iff_lt_mul (Nat.pow_pos dc)).1 Jz
  have hsh:=shrO (fl B n (As%Vs)) (s:Int) (lI dc _ _) (by rw[bg];omega) om;rw[Jb,if_neg om,aO,mW,Nat.mod_eq_of_lt hRn,hsc.2]at hsh;have hno:=mO (fl B (m+1-n) (As/Vs)) (by rw[bg];omega);rw[qM (by decide:2≤B) hQb]at hno;try (refine hK _ ?_;clear hK K)
  refine aJ @dZ ?_;refine he _ _ ?_;rw[hq0,←hsc.1];try (refine hK _ ?_;clear hK K)
  refine qc (ai @hu0 (ai @nD (ai @hul @dZ))) ?_;exact⟨.inr trivial,_,_,_,_,dc,rfl,rfl,rfl,rfl⟩
 |succ j=>
  have hj:(((j+1:Nat):Int)-1)=(j:Int):=om;have LZ:n≤1099511627776:=om;have hnm:n≤m+1-j:=om;have hjm:j+1+n≤m+1:=om;have hx:As/B^j%B<B:=Nat.mod_lt _ dc;have hR:As/B^(j+1)%Vs<Vs:=Nat.mod_lt _ hVn;have e0:As/B^j=As/B^j%B+B*(As/B^(j+1)):=by
   rw[Nat.pow_succ,←Nat.div_div_eq_div_mul];have:=Nat.div_add_mod (As/B^j) B;omega
  obtain⟨s1,s2,s3,s4⟩:=yz (V:=As/B^(j+1)) hVn hx;rw[←e0]at s1 s2 s3;rw[uL_win];have hUlt:As/B^(j+1)%Vs*B+As/B^j%B<Vs*B:=by
   have:=Nat.mul_le_mul_right B (show As/B^(j+1)%Vs+1≤Vs from hR);rw[Nat.add_mul,Nat.one_mul]at this;omega
  obtain⟨U,hU⟩:∃U,U=As/B^(j+1)%Vs*B+As/B^j%B:=⟨_,rfl⟩;rw[←hU]at s1 s3 s4 hUlt ⊢;have hX:(fl B j As).length=j:=bg _ _;have hAl:(fl B n U).length=n:=bg _ _;have hUB:U<B^n*B:=Nat.lt_of_lt_of_le hUlt (Nat.mul_le_mul_right B (Nat.le_of_lt n2));have htB:U/B^n<B:=(Nat.div_lt_iff_lt_mul (Nat.pow_pos dc)).2 (by rw[Nat.mul_comm];exact hUB);have Ie:U/B^n%B=U/B^n:=Nat.mod_eq_of_lt htB;obtain⟨k,hk⟩:∃k,n=k+2:=⟨n-2,om⟩;generalize hZ:List.replicate (m+1-(j+1)-n) 0=Z;have hZl:=congrArg List.length hZ;rw[List.length_replicate]at hZl;have w0:=zx (t:=U/B^n%B) (Z:=Z) hX hAl;have w1:=D6 (t:=U/B^n%B) (Z:=Z) hX hAl;have w2:=KD (t:=U/B^n%B) (Z:=Z) hX hAl (k:=n-1) om (i:=j+(n-1)) rfl;have w3:=KD (t:=U/B^n%B) (Z:=Z) hX hAl (k:=n-2) om (i:=j+(n-2)) rfl;have w4:=KE (t:=U/B^n%B) (Z:=Z) hX hAl;rw[D8 _ _ _ om]at w2 w3;have v1:=D8 (b:=B) n Vs (n-1) om;have v2:=D8 (b:=B) n Vs (n-2) om;have hn1:n-1=k+1:=om;have hn2:n-2=k:=om;rw[hn1]at w2 v1 n1;rw[hn2]at w3 v2;have ml:∀z:Nat,z%B<18446744073709551616:=fun z=>Nat.mod_lt z dc
  have hv1:Vs/B^(k+1)<B:=(Nat.div_lt_iff_lt_mul (Nat.pow_pos dc)).2 (by rw[←Nat.pow_succ',show(k+1).succ=n from om];exact n2);have hv1m:Vs/B^(k+1)%B=Vs/B^(k+1):=Nat.mod_eq_of_lt hv1;have q1:U/B^n%B≤Vs/B^(k+1)%B:=by
   rw[Ie,hv1m,hk,Nat.pow_succ,Nat.mul_comm,←Nat.div_div_eq_div_mul];refine Nat.div_le_div_right ?_;exact Nat.le_of_lt ((Nat.div_lt_iff_lt_mul dc).2 hUlt)
  have q2:0<Vs/B^(k+1)%B:=by
   rw[hv1m];exact(Nat.le_div_iff_mul_le (Nat.pow_pos dc)).2 (by rw[Nat.one_mul];exact n1)
  have gs:=Je (U/B^n%B) (U/B^(k+1)%B) (U/B^k%B) (Vs/B^(k+1)%B) (Vs/B^k%B) q1 q2 (ml _) (ml _) (ml _) (ml _);have t1:(U/B^n%B*18446744073709551616+U/B^(k+1)%B)*18446744073709551616+U/B^k%B=U/B^k:=by
   rw[Ie,hk];exact kn_top
  have t2:Vs/B^(k+1)%B*18446744073709551616+Vs/B^k%B=Vs/B^k:=WA (by rw[←hk];exact n2);rw[t1,t2]at gs;have hVk:B≤Vs/B^k:=(Nat.le_div_iff_mul_le (Nat.pow_pos dc)).2 (by rw[←Nat.pow_succ'];exact n1);obtain⟨kg1,kg2⟩:=QT (Nat.pow_pos (by decide:0<B):0<B^k) hUlt hVk;have gB:min 18446744073709551615 (U/B^k/(Vs/B^k))<18446744073709551616:=om;obtain⟨g,hg⟩:∃g,g=min 18446744073709551615 (U/B^k/(Vs/B^k)):=⟨_,rfl⟩;rw[←hg]at gs gB;have kg1':U/Vs≤g:=by rw[hg];exact kg1
  have kg2':g≤U/Vs+1:=by rw[hg];exact kg2
  have hj0:(0:Int)≤(j:Int):=om;repeat first|(refine hK _ ?_;clear hK K)|simp only[Sv,↓reduceIte,Nat.reduceEqDiff]|((first|refine ay (fun K hK=>?_)|refine aB (fun K hK=>?_)|refine au (fun K hK=>?_));refine dM (ai @Q7 (ai @CU (ai @hlv (ai @hn2 (ai @hn1 (ai @v2 (ai @v1 (ai @w3 (ai @w2 (ai @w1 (ai @cZ (ai @AB (ai @AA (ai @kK (ai @w0 (ai @hj0 (ai @hj @dZ))))))))))))))))) ?_)
  refine qA _ _ (gs) ?_ ?_
  ·exact UH (ai @Q7 (ai @CU (ai @hlv (ai @hn2 (ai @hn1 (ai @v2 (ai @v1 (ai @w3 (ai @w2 (ai @w1 (ai @cZ (ai @AB (ai @AA (ai @kK (ai @w0 (ai @hj0 (ai @hj @dZ)))))))))))))))))
  refine dM (ai @Q7 (ai @CU (ai @hlv (ai @hn2 (ai @hn1 (ai @v2 (ai @v1 (ai @w3 (ai @w2 (ai @w1 (ai @cZ (ai @AB (ai @AA (ai @kK (ai @w0 (ai @hj0 (ai @hj @dZ))))))))))))))))) ?_;have hvd:nv B (fl B n Vs)=Vs:=by rw[mW,Nat.mod_eq_of_lt n2]
  have hms:=F7 (fl B n U) (fl B n Vs) g (lI dc _ _) (lI dc _ _) gB om om;rw[hvd,mW,hAl]at hms;obtain⟨m1,m2⟩:=ms_def (A:=U%B^n) (V:=Vs) (w:=g) (P:=B^n) (Nat.mod_lt _ (Nat.pow_pos dc));obtain⟨c,hc⟩:∃c,c=Oy (U%B^n) Vs g (B^n):=⟨_,rfl⟩;rw[←hc]at hms m1 m2;obtain⟨o,ho⟩:∃o,o=U%B^n+B^n*c-Vs*g:=⟨_,rfl⟩;rw[←ho]at hms m1 m2;have hcg:=QQ n2 (Nat.mod_lt U (Nat.pow_pos dc)) m1 m2;obtain⟨ks1,ks2⟩:=kn_sub (Nat.mod_lt U (Nat.pow_pos dc)) (Nat.mod_add_div U (B^n)).symm n2 hVn kg1' kg2' m1 m2;have w5:=D7 (t:=U/B^n%B) (Z:=Z) hX hAl;have hol:(fl B n o).length=n:=bg _ _;have hcop:=QW (A:=fl B n U) (R:=fl B n o) (Z:=Z) (t:=U/B^n%B) hX (by rw[hAl,hol]);have w6:=zx (t:=U/B^n%B) (Z:=Z) hX hol;have w7:=D6 (t:=U/B^n%B) (Z:=Z) hX hol;have w8:=fun t'=>KF (t:=U/B^n%B) (Z:=Z) hX hol t'
  repeat first|(refine hK _ ?_;clear hK K)|simp only[Sv,↓reduceIte,Nat.reduceEqDiff]|((first|refine ay (fun K hK=>?_)|refine aB (fun K hK=>?_)|refine au (fun K hK=>?_));refine dM (ai @Nat.add_sub_cancel_left (ai @w5 (ai @nD (ai @Ah (ai @w0 (ai @kK (ai @hj @dZ))))))) ?_)
  refine qA _ _ (hms) ?_ ?_
  ·exact UH (ai @Nat.add_sub_cancel_left (ai @w5 (ai @nD (ai @Ah (ai @w0 (ai @kK (ai @hj @dZ)))))))
  refine dM (ai @Nat.add_sub_cancel_left (ai @w5 (ai @nD (ai @Ah (ai @w0 (ai @kK (ai @hj @dZ))))))) ?_;repeat first|(refine hK _ ?_;clear hK K)|simp only[Sv,↓reduceIte,Nat.reduceEqDiff]|((first|refine ay (fun K hK=>?_)|refine aB (fun K hK=>?_)|refine au (fun K hK=>?_));refine dM (ai @w1 (ai @cZ (ai @kK (ai @w0 @dZ)))) ?_)
  refine ny _ (DT (U/B^n%B) c om) ?_;refine dM (ai @w1 (ai @cZ (ai @kK (ai @w0 @dZ)))) ?_;have htk:(fl B n o).take (m+1-j)=fl B n o:=List.take_of_length_le om;have hql:=qL_len (As:=As) (Vs:=Vs) (Q:=m+1-n) hi;have yR:=fun d h=>qL_set (As:=As) (Vs:=Vs) (d:=d) hi h s2
  rw[s1]at yR;by_cases hcase:c≤U/B^n
  ·obtain⟨z1,z2,z3⟩:=ks1 hcase;have hun:(if U/B^n%B<c then 1 else 0:Nat)=0:=if_neg (by rw[Ie];omega);have htop0:(U/B^n%B+18446744073709551616-c)%18446744073709551616=0:=by rw[Ie,z2,Nat.add_sub_cancel_left]
   have hq2:=yR g z1.symm;have hlow:=QY (As:=As) (Vs:=Vs) (m:=m) (n:=n) (j:=j) om o (by rw[s3,z3]);rw[hZ]at hlow;try (refine hK _ ?_;clear hK K)
   refine aJ (ai @hq2 (ai @iQ (ai @hql (ai @hlow (ai @w8 (ai @Q5 (ai @hcop (ai @htk (ai @nD (ai @kK (ai @w6 (ai @w0 (ai @htop0 (ai @hun (ai @hj @dZ))))))))))))))) ?_;refine hQ _ j om om ?_;exact jO
  ·obtain⟨z1,z2,z3⟩:=ks2 (Nat.lt_of_not_le hcase);have hun:(if U/B^n%B<c then 1 else 0:Nat)=1:=by rw[Ie];exact kn_un _ _ z2
   have htop1:(U/B^n%B+18446744073709551616-c)%18446744073709551616=18446744073709551615:=by rw[Ie];exact kn_m1 _ _ z2
   have hd1:((g:Nat):Int)-1=((U/Vs:Nat):Int):=kn_d1 _ _ z1;have hRB:U%Vs<B^n:=Nat.lt_trans (Nat.mod_lt _ hVn) n2;have had:=Am (fl B n o) (fl B n Vs) (lI dc _ _) (lI dc _ _) (by rw[hol];exact LZ) (by rw[hlv];exact LZ);rw[mW (b:=B) n o,Nat.mod_eq_of_lt m1,hvd,hol,hlv,Nat.max_self,z3,Nat.add_div_right _ (Nat.pow_pos dc),Nat.div_eq_of_lt hRB,ed (by decide:0<B) (show(U%Vs+B^n)%B^n=(U%Vs)%B^n by rw[Nat.add_mod_right])]at had;have w9:=zx (t:=18446744073709551615) (Z:=Z) hX hol;have w10:=KE (t:=18446744073709551615) (Z:=Z) hX hol;have hwu:IntKind.wrap .u64 ((U/Vs:Nat):Int)=((U/Vs:Nat):Int):=wuN _ (Nat.lt_of_le_of_lt kg1' gB);have w14:=D7 (t:=18446744073709551615) (Z:=Z) hX hol;have hbl:(fl B n (U%Vs)).length=n:=bg _ _;have hcop2:=QW (A:=fl B n o) (R:=fl B n (U%Vs)) (Z:=Z) (t:=18446744073709551615) hX (by rw[hbl,hol]);have w11:=D6 (t:=18446744073709551615) (Z:=Z) hX hbl;have w12:=zx (t:=18446744073709551615) (Z:=Z) hX hbl;have w13:=fun t'=>KF (t:=18446744073709551615) (Z:=Z) hX hbl t'
   have htk2:(fl B n (U%Vs)).take (m+1-j)=fl B n (U%Vs):=List.take_of_length_le (by rw[hbl];exact hnm);have hq2:=yR (U/Vs) rfl;have hlow:=QY (As:=As) (Vs:=Vs) (m:=m) (n:=n) (j:=j) hjm (U%Vs) s3;rw[hZ]at hlow;try (refine hK _ ?_;clear hK K)
   refine qc (ai @hq2 (ai @iQ (ai @hql (ai @hlow (ai @w13 (ai @Q5 (ai @wrapM (ai @w11 (ai @hcop2 (ai @htk2 (ai @cZ (ai @w12 (ai @hwu (ai @hd1 (ai @Nat.add_sub_cancel_left (ai @w14 (ai @w10 (ai @w9 (ai @w8 (ai @W_setM (ai @hcop (ai @htk (ai @Ah (ai @nD (ai @kK (ai @w6 (ai @w0 (ai @htop1 (ai @hun (ai @hj @dZ)))))))))))))))))))))))))))))) ?_;refine hQ _ j (Nat.le_of_succ_le hi) (Nat.lt_succ_self j) ?_;exact jO
end
section
open Go Go.RowKit Go.Proofs Ab
def TwoR(w:World)(A1 A2:List Nat)(e:Ending)(w':World):Prop:=
 ∃(v1 v2:Value) (n1 n2:Nat),e= .returned (.tuple #[v1,v2])∧Below w.heap.size w w'∧w'.ownsRow w.heap.size 31 1 v1 n1 (Wv A1)∧w'.ownsRow w.heap.size 31 1 v2 n2 (Wv A2)∧∀q,v1.ownBlock=some q→v2.ownBlock≠some q
theorem NU{w:World}{va vb:Value}{a b:List Nat}{Ha:Nat→Prop}(gu:∀q,Ha q→q<w.heap.size)(hva:Rep0 w Ha va (.l 1 (W a)))(hvb:Rep0 w Ha vb (.l 1 (W b)))(ha:Wd a)(hb:Wd b)(la:a.length≤1000000000)(h2:2≤b.length)(hab:b.length≤a.length)(htop:b.getD (b.length-1) 0≠0):
 Calls Tryz.prog 148 #[va,vb] w (TwoR w (dg B (nv B a/nv B b)) (dg B (nv B a%nv B b))):=by
 refine Rh Tryz.func148 rfl (vs:=[va,vb]) (by show 2≤_;decide) (H:=Ha) (E:=fun _=>False) (ks:=[]) (UG:=fun _=>none)
  (s0:=⟨[(0,.l 1 (W a)),(1,.l 1 (W b))],[],0⟩) ⟨aI.refl _ _,NI _ _,gu,fun b h _=> .inl h,fun id o h=>(by cases h),fun i j oi oj vi vj q _ h=>(by cases h)⟩ (fun m v h=>by cases h) (fun k hk=>?env) (fun k hk=>?rest) (fun _ _=>rfl) (fun act iE=>?_)
 case env=>
  match k,hk with
  |0,_=>exact .base hva
  |1,_=>exact .base hvb
 case rest=>
  match k,hk with
  |k+2,_=>rfl
 refine wp_mono (iw (J:=J0) (w0:=w) (N:=Tryz.f148.ntmps) aX (fun w' _=>trivial) _ a148 kf (fun m v h=>by cases h) _ _ act w _ _ iE (Jy a b ha hb la h2 hab htop)) fun ex a' w' hq=>?_
 generalize dg B (nv B a/nv B b)=A1 at*
 generalize dg B (nv B a%nv B b)=A2 at*
 have last:∀(s':St) (H':Nat→Prop) (bJ:Nat→Option Value),twoK A1 A2 s'→Conc w ⟨Ha,fun _=>False,[]⟩ w' H' bJ Tryz.f148.ntmps a' s'→
  a'.defers=[]∧∃r,(results Tryz.f148 a'.tmps).run Tryz.prog w'= .ok r w'∧TwoR w A1 A2 (.returned r) w':=by
  rintro s' H' bJ ⟨i,j,m1,m2,hij,g4,g5,o4,o5⟩ hc'
  have hB:Below w.heap.size w w':=hc'.mem.bel.below (fun _ h=>h)
  refine⟨hc'.BZ,_,aV (show bG Tryz.f148.results.toList=some [4,5]from rfl) _ _,?_⟩
  obtain⟨x1,O1,R1,V1,B1⟩:=AU hc' g4 o4
  obtain⟨x2,O2,R2,V2,B2⟩:=AU hc' g5 o5
  have hx1:=CY R1
  have hx2:=CY R2
  subst hx1
  subst hx2
  refine⟨_,_,m1,m2,rfl,hB,ownB O1 (fun q hq=>(B1 q (lH O1▸hq)).2.elim id False.elim),ownB O2 (fun q hq=>(B2 q (lH O2▸hq)).2.elim id False.elim),fun q hq=>?_⟩
  have:=hc'.mem.sep i j _ _ _ _ q hij o4 o5 V1 V2 (by rw[lH O1];exact hq)
  rwa[lH O2]at this
 cases ex with
 |normal=>obtain⟨s',H',bJ,hq,hc'⟩:=hq;exact⟨.inl rfl,last s' H' bJ hq.2 hc'⟩
 |ret=>obtain⟨s',H',bJ,hq,hc'⟩:=hq;exact⟨.inr rfl,last s' H' bJ hq.2 hc'⟩
 |exit i=>obtain⟨s',H',bJ,hq,hc'⟩:=hq;exact absurd hq.1 sy
 |goto l=>exact hq.elim
 |panic ch=>exact hq.elim
 |outgrown=>exact hq.elim
def YW(w:World)(A:List Nat)(y z:Value)(e:Ending)(w':World):Prop:=∃(u:Value) (n:Nat),e= .returned (.tuple #[u,y,z])∧Below w.heap.size w w'∧w'.ownsRow w.heap.size 31 1 u n (Wv A)∧n≤maxLen
theorem XD{f:FuncId}{args:List V}{A:List Nat}{r1 r2:V}{y z:Value}{w:World}{H:Nat→Prop}{vs:List Value}(c:ah Tryz.prog J0 f args (.to 31 1 (W A) [r1,r2]))(hy:∀(w':World) (H':Nat→Prop) (v:Value),Rep0 w' H' v r1→v=y)(hz:∀(w':World) (H':Nat→Prop) (v:Value),Rep0 w' H' v r2→v=z)(hH:∀q,H q→q<w.heap.size)(hr:aj w H vs args):Calls Tryz.prog f vs.toArray w (YW w A y z):=by
 have c':Z5 Tryz.prog J0 f args 31 1 (W A) [r1,r2]:=c;refine(c'.2 w H vs trivial (NI _ _) hH hr).mono ?_;rintro e w' ⟨u,us,n,xs,N,rfl,hB,ho,_,_,hx,_,hm,hus⟩;have:=CY hx;subst this;match us,hus with
 |[p,q],hus=>
  have h1:=hy _ _ p (hus.2 0 p r1 rfl rfl);have h2:=hz _ _ q (hus.2 1 q r2 rfl rfl);subst h1 h2;exact⟨u,n,rfl,hB,ho,hm⟩
theorem A8{f:FuncId}{args:List V}{k:IntKind}{z:Int}{w:World}{H:Nat→Prop}{vs:List Value}(c:ah Tryz.prog J0 f args (.i k z))(hH:∀q,H q→q<w.heap.size)(hr:aj w H vs args):Calls Tryz.prog f vs.toArray w (fun e w'=>e= .returned (.int k z)∧Below w.heap.size w w'):=by
 refine((c.Vf rfl) w H vs trivial (NI _ _) hH hr).mono ?_;rintro e w' ⟨v,rfl,hB,N,hN,h⟩;rcases h with h|⟨e,sz,cs,n,xs,he,_⟩|⟨r,h,_⟩
 ·cases h;exact⟨rfl,hB⟩
 ·cases he
 ·cases h
end
section
open Go Go.RowKit Go.Proofs Ab
variable {a:Act}{w:World}{R:Exit→Act→World→Prop}
theorem dq0(hz:a.tmps.size=51)
 (kk:∀(a':Act),a'.tmps.size=51→(∀t,t<12→t≠4→t≠5→t≠6→a'.tmps.getD t undef=a.tmps.getD t undef)→a'.tmps.getD 4 undef= .slice none 0 0→a'.tmps.getD 5 undef= .slice none 0 0→a'.tmps.getD 6 undef= .int .i64 0→a'.defers=a.defers→R .normal a' w):(q1 (qf Tryz.f136)).wp Tryz.prog R a w:=ZC
theorem dq1{va vb:Value}{A1 A2:List Nat}(hz:a.tmps.size=51)(h0:a.tmps.getD 0 undef=va)(h1:a.tmps.getD 1 undef=vb)
 (c1:Calls Tryz.prog 68 #[va] w (uV w A1)) (c2:∀w1,Below w.heap.size w w1→Calls Tryz.prog 68 #[vb] w1 (uV w1 A2))
 (kk:∀(a':Act) (w1 w2:World) (u0 u1:Value) (n0 n1:Nat),a'.tmps.size=51→(∀t,t<12→t≠0→t≠1→a'.tmps.getD t undef=a.tmps.getD t undef)→a'.tmps.getD 0 undef=u0→a'.tmps.getD 1 undef=u1→a'.defers=a.defers→Below w.heap.size w w1→w1.ownsRow w.heap.size 31 1 u0 n0 (Wv A1)→n0≤maxLen→Below w1.heap.size w1 w2→w2.ownsRow w1.heap.size 31 1 u1 n1 (Wv A2)→n1≤maxLen→R .normal a' w2):(q1 (qd 1 (qf Tryz.f136))).wp Tryz.prog R a w:=by
 replace kk:=pu kk
 refine rl fun gA=>?_
 go_wp2_with (first|(go_at_call 68;refine(c1).mono ?_;rintro e w1 ⟨u0,n0,rfl,b1,o1,m1⟩;clear c1;obtain⟨ua,uc,rfl⟩:=aT o1)|(go_at_call 68;refine(c2 w1 b1).mono ?_;rintro e w2 ⟨u1,n1,rfl,b2,o2,m2⟩;obtain⟨va,vc,rfl⟩:=aT o2))
 exact kk.down _ w1 w2 _ _ n0 n1 gZ gN gS gS rfl b1 o1 m1 b2 o2 m2
theorem dq2t{xa:Option Addr}{xn xc:Nat}(hz:a.tmps.size=51)(h1:a.tmps.getD 1 undef= .slice xa xn xc)
 (hl:(xn:Int)=0)
 (kk:∀(a':Act),kA a a' 51 12 [(16,.bool true)]<|R .normal a' w):(q1 (qb (q1 (qd 2 (qf Tryz.f136))))).wp Tryz.prog R a w:=rD
theorem dq2f{xa:Option Addr}{xn xc:Nat}(hz:a.tmps.size=51)(h1:a.tmps.getD 1 undef= .slice xa xn xc)
 (hl:¬(xn:Int)=0)
 (kk:∀(a':Act),kA a a' 51 12 [(16,.bool false)]<|R .normal a' w):(q1 (qb (q1 (qd 2 (qf Tryz.f136))))).wp Tryz.prog R a w:=rD
theorem dq3(hz:a.tmps.size=51)
 (kk:∀(a':Act),kA a a' 51 4 [(4,.slice none 0 0),(5,.slice none 0 0),(6,.int .i64 1)]<|R .normal a' w):(q1 (qt (q2 (qb (q1 (qd 2 (qf Tryz.f136))))))).wp Tryz.prog R a w:=ZC
theorem dq4t{u0 u1:Value}{s:Int}(hz:a.tmps.size=51)(h0:a.tmps.getD 0 undef=u0)(h1:a.tmps.getD 1 undef=u1)
 (c1:Calls Tryz.prog 81 #[u0,u1] w (fun e w1=>e= .returned (.int .i64 s)∧Below w.heap.size w w1)) (hl:s<0)
 (kk:∀(a':Act) (w1:World),kA a a' 51 12 [(20,.bool true)]<|Below w.heap.size w w1→R .normal a' w1):(q1 (qe (q2 (qb (q1 (qd 2 (qf Tryz.f136))))))).wp Tryz.prog R a w:=by
 replace kk:=pu kk
 refine rl fun gA=>?_
 go_wp2_with (go_at_call 81;refine(c1).mono ?_;rintro e w1 ⟨rfl,b1⟩)
 exact kk.down _ w1 gZ gN gS rfl b1
theorem dq4f{u0 u1:Value}{s:Int}(hz:a.tmps.size=51)(h0:a.tmps.getD 0 undef=u0)(h1:a.tmps.getD 1 undef=u1)
 (c1:Calls Tryz.prog 81 #[u0,u1] w (fun e w1=>e= .returned (.int .i64 s)∧Below w.heap.size w w1)) (hl:¬s<0)
 (kk:∀(a':Act) (w1:World),kA a a' 51 12 [(20,.bool false)]<|Below w.heap.size w w1→R .normal a' w1):(q1 (qe (q2 (qb (q1 (qd 2 (qf Tryz.f136))))))).wp Tryz.prog R a w:=by
 replace kk:=pu kk
 refine rl fun gA=>?_
 go_wp2_with (go_at_call 81;refine(c1).mono ?_;rintro e w1 ⟨rfl,b1⟩)
 exact kk.down _ w1 gZ gN gS rfl b1
theorem dq5{u0:Value}(hz:a.tmps.size=51)(h0:a.tmps.getD 0 undef=u0)
 (kk:∀(a':Act),kA a a' 51 4 [(4,.slice none 0 0),(5,u0),(6,.int .i64 0)]<|R .normal a' w):(q1 (qt (q2 (qe (q2 (qb (q1 (qd 2 (qf Tryz.f136))))))))).wp Tryz.prog R a w:=ZC
theorem dq6t{xa:Option Addr}{xn xc:Nat}(hz:a.tmps.size=51)(h1:a.tmps.getD 1 undef= .slice xa xn xc)
 (hl:(xn:Int)=1)
 (kk:∀(a':Act),kA a a' 51 12 [(26,.bool true)]<|R .normal a' w):(q1 (qe (q2 (qe (q2 (qb (q1 (qd 2 (qf Tryz.f136))))))))).wp Tryz.prog R a w:=rD
theorem dq6f{xa:Option Addr}{xn xc:Nat}(hz:a.tmps.size=51)(h1:a.tmps.getD 1 undef= .slice xa xn xc)
 (hl:¬(xn:Int)=1)
 (kk:∀(a':Act),kA a a' 51 12 [(26,.bool false)]<|R .normal a' w):(q1 (qe (q2 (qe (q2 (qb (q1 (qd 2 (qf Tryz.f136))))))))).wp Tryz.prog R a w:=rD
theorem dq7{u0:Value}{p c x r:Nat}{A:List Nat}(hz:a.tmps.size=51)(h0:a.tmps.getD 0 undef=u0)(h1:a.tmps.getD 1 undef= .slice (some ⟨p,0,none⟩) 1 c)
 (hx:w.cell? ⟨p,0,none⟩=some (.int .u64 (x:Int))) (c1:Calls Tryz.prog 147 #[u0,.int .u64 (x:Int)] w (YW w A (.int .u64 (r:Int)) (.int .i64 0)))
 (kk:∀(a':Act) (w1:World) (u7:Value) (n7:Nat),kA a a' 51 7 [(7,u7),(8,.int .u64 (r:Int)),(9,.int .i64 0)]<|Below w.heap.size w w1→w1.ownsRow w.heap.size 31 1 u7 n7 (Wv A)→n7≤maxLen→R .normal a' w1):(q1 (qt (q2 (qe (q2 (qe (q2 (qb (q1 (qd 2 (qf Tryz.f136))))))))))).wp Tryz.prog R a w:=by
 replace kk:=pu kk
 refine rl fun gA=>?_
 go_wp2_with (go_at_call 147;refine(c1).mono ?_;rintro e w1 ⟨u7,n7,rfl,b1,o1,m1⟩;obtain⟨ua,uc,rfl⟩:=aT o1)
 exact kk.down _ w1 _ n7 gZ gN gS gS gS rfl b1 o1 m1
theorem dq8{u7:Value}{r:Nat}{A:List Nat}(hz:a.tmps.size=51)(h7:a.tmps.getD 7 undef=u7)(h8:a.tmps.getD 8 undef= .int .u64 (r:Int))(h9:a.tmps.getD 9 undef= .int .i64 0)
 (c1:Calls Tryz.prog 72 #[.int .u64 (r:Int)] w (uV w A))
 (kk:∀(a':Act) (w1:World) (v:Value) (m:Nat),kA a a' 51 4 [(4,u7),(5,v),(6,.int .i64 0)]<|Below w.heap.size w w1→w1.ownsRow w.heap.size 31 1 v m (Wv A)→m≤maxLen→R .normal a' w1):(q1 (qd 1 (qt (q2 (qe (q2 (qe (q2 (qb (q1 (qd 2 (qf Tryz.f136)))))))))))).wp Tryz.prog R a w:=by
 replace kk:=pu kk
 refine rl fun gA=>?_
 go_wp2_with (go_at_call 72;refine(c1).mono ?_;rintro e w1 ⟨v,m,rfl,b1,o1,m1⟩;obtain⟨ua,uc,rfl⟩:=aT o1)
 exact kk.down _ w1 _ m gZ gN gS gS gS rfl b1 o1 m1
theorem dq9{u0 u1:Value}{A1 A2:List Nat}(hz:a.tmps.size=51)(h0:a.tmps.getD 0 undef=u0)(h1:a.tmps.getD 1 undef=u1)
 (c1:Calls Tryz.prog 148 #[u0,u1] w (TwoR w A1 A2))
 (kk:∀(a':Act) (w1:World) (v1 v2:Value) (n1 n2:Nat),kA a a' 51 7 [(10,v1),(11,v2)]<|Below w.heap.size w w1→w1.ownsRow w.heap.size 31 1 v1 n1 (Wv A1)→w1.ownsRow w.heap.size 31 1 v2 n2 (Wv A2)→(∀q,v1.ownBlock=some q→v2.ownBlock≠some q)→R .normal a' w1):(q1 (qd 3 (qf Tryz.f136))).wp Tryz.prog R a w:=by
 replace kk:=pu kk
 refine rl fun gA=>?_
 go_wp2_with (go_at_call 148;refine(c1).mono ?_;rintro e w1 ⟨v1,v2,n1,n2,rfl,b1,o1,o2,s12⟩;obtain⟨ua,uc,rfl⟩:=aT o1;obtain⟨va,vc,rfl⟩:=aT o2)
 exact kk.down _ w1 _ _ n1 n2 gZ gN gS gS rfl b1 o1 o2 s12
theorem dq10{u0 u1:Value}(hz:a.tmps.size=51)(h10:a.tmps.getD 10 undef=u0)(h11:a.tmps.getD 11 undef=u1)
 (kk:∀(a':Act),kA a a' 51 4 [(4,u0),(5,u1),(6,.int .i64 0)]<|R .normal a' w):(q1 (qd 4 (qf Tryz.f136))).wp Tryz.prog R a w:=ZC
end
