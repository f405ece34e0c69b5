import Derived.Handy
import Derived.BigCall
import Derived.Laws.Tables
import Derived.StillTail
import Derived.BigFrame
import Derived.Laws.Rows
import Derived.Test.YtpopphdnlhihdaaGreatDoorU9
import Derived.Test.YtpopphdnlhihdaaGreatDoorRc
import Derived.Test.YtpopphdnlhihdaaGreatDoorBK0
set_option linter.all false
set_option maxHeartbeats 10000000
set_option maxRecDepth 2000000
namespace Go.Proofs.YtpopphdnlhihdaaGreatDoor
section
open Go
def ct(v:Nat):Nat:=if h:v=0 then 0 else if v%2=1 then 0 else ct (v/2)+1
termination_by v
decreasing_by omega
theorem ct_0:ct 0=0:=by unfold ct;rfl
theorem ct_mk(k m:Nat):ct (2^k*(2*m+1))=k:=by
 induction k with
 |zero=>unfold ct;rw[dif_neg sy,au sy]
 |succ k a=>
  have c:2^(k+1)*(2*m+1)=2*(2^k*(2*m+1)):=by rw[dO,bV (2^k) 2,fB]
  have f:0<2^k*(2*m+1):=Nat.mul_pos (bg dc) om;unfold ct;rw[c,dif_neg om,ah om,Nat.mul_div_cancel_left _ dc,a]
theorem JG{v:Nat}(h:v≠0):∃m,v=2^ct v*(2*m+1):=by
 induction v using Nat.strongRecOn with
 |_ v c=>
  by_cases a:v%2=1
  ·refine⟨v/2,?_⟩;have:ct v=0:=by unfold ct;rw[dif_neg h,au a]
   rw[this,Nat.pow_zero,iV];omega
  ·obtain⟨m,f⟩:=c (v/2) om om;refine⟨m,?_⟩;have:ct v=ct (v/2)+1:=by rw[ct];rw[dif_neg h,ah a]
   rw[this,dO,bV (2^ct (v/2)) 2,fB,←f];omega
theorem Ik{v n:Nat}(h:v<2^n)(h0:v≠0):ct v<n:=by
 obtain⟨m,c⟩:=JG h0;rcases dW (ct v) n with a|a
 ·exact a
 ·have g:=gX (show 0<2 by decide) a;have f:2^ct v*1≤2^ct v*(2*m+1):=iZ _ om;omega
theorem ct_add{w u n:Nat}(h0:w≠0)(a:w<2^n):ct (w+2^n*u)=ct w:=by
 obtain⟨m,c⟩:=JG h0;have hl:=Ik a h0;generalize ct w=k at*
 have:w+2^n*u=2^k*(2*(m+2^(n-k-1)*u)+1):=by
  have e:2^n=2^k*(2*2^(n-k-1)):=by rw[←Nat.pow_succ',←dn];congr 1;omega
  rw[c,e,fB,←fQ];congr 1;rw[fQ,fB];omega
 rw[this,ct_mk]
theorem YU{v n:Nat}(h0:v≠0):ct (2^n*v)=n+ct v:=by
 obtain⟨m,a⟩:=JG h0;generalize ct v=k at*
 rw[a,←fB,←dn,ct_mk]
theorem ct_bit{v:Nat}(h0:v≠0):v/2^ct v%2=1∧∀j,j<ct v→v/2^j%2=0:=by
 obtain⟨m,a⟩:=JG h0;generalize ct v=k at*
 have c:0<2^k:=bg dc;refine⟨by rw[a,Nat.mul_div_cancel_left _ c];omega,fun j f=>?_⟩;have e:2^k=2^j*(2*2^(k-j-1)):=by rw[←Nat.pow_succ',←dn];congr 1;omega
 rw[a,e,fB,Nat.mul_div_cancel_left _ (bg dc),fB,Nat.mul_mod_right]
theorem low_bit{x:Nat}(h0:x≠0)(h:x<18446744073709551616):x&&&(18446744073709551616-x)=2^ct x:=by
 obtain⟨m,a⟩:=JG h0;have hl:=Ik (n:=64) h h0;generalize ct x=k at*
 have f:0<2^k:=bg dc;have e:18446744073709551616=2^k*(2*2^(63-k)):=by rw[←Nat.pow_succ',←dn,show k+(63-k).succ=64 from om]
 have Uk:m<2^(63-k):=by
  rw[a,e]at h;have:=Nat.lt_of_mul_lt_mul_left h;omega
 have c:18446744073709551616-x=2^k*(2*(2^(63-k)-(m+1))+1):=by
  rw[e,a,←Nat.mul_sub];congr 1;omega
 rw[c,a,bV (2^k) (2*m+1),bV (2^k) (2*(2^(63-k)-(m+1))+1),←Nat.shiftLeft_eq,←Nat.shiftLeft_eq,←Nat.shiftLeft_and_distrib];have:(2*m+1)&&&(2*(2^(63-k)-(m+1))+1)=1:=by
  apply Nat.eq_of_testBit_eq;intro i;rw[Nat.testBit_and];cases i with
  |zero=>simp
  |succ i=>
   rw[Nat.testBit_succ,Nat.testBit_succ,Nat.testBit_succ,show(2*m+1)/2=m from om,show(2*(2^(63-k)-(m+1))+1)/2=2^(63-k)-(m+1)from om,Nat.testBit_two_pow_sub_succ Uk];cases m.testBit i<;>simp
 rw[this,Nat.one_shiftLeft]
end
section
open Go Go.RowKit Ab
def YV:=an @wi<|an @aI<|an @aW<|an @aO<|an @aQ<|an @fZ<|an @di<|an @dR @dH
theorem bl_0:bl 0=0:=rfl
variable{a:List Nat}
theorem bl_dvd(j:Wd a)(h0:0<(tz a).length):((((tz a).length:Nat):Int)-1)*64+((bl (a.getD ((tz a).length-1) 0):Nat):Int)=((bl (nv B a):Nat):Int):=by
 have c:tz a≠[]:=fun h=>by rw[h]at h0;simp at h0
 have ht:=yz (b:=B) (Jh a) c;rw[wX]at ht;have hl:=eP (xJ j);rw[wX]at hl;obtain⟨t,l⟩:∃t,(tz a).length=t+1:=⟨(tz a).length-1,om⟩;rw[l]at ht hl ⊢;rw[CW]at ht ⊢;have g:=qP (b:=B) dc j t;rw[bD ((fP (bg dc)).2 (by rw[←Nat.pow_succ'];exact hl))]at g;have f:B^t=2^(64*t):=by rw[B64,←Nat.pow_mul]
 have:=Hm (x:=nv B a) (n:=64*t) (by rw[←f];exact ht);rw[g,this,←f];omega
theorem I_(a:List Nat)(c:Wd a)(g:a.length≤10000000000):aT 125 [.l 1 (W a)] (.i .i64 ((bl (nv B a):Nat):Int)):=by
 have ht:=xZ a om;have hl:=r_ a;refine f_ aN a_ Tryz.func125 ?_;by_cases h0:(((tz a).length:Nat):Int)=0
 ·have e:bl (nv B a)=0:=by rw[←wX,nz (by omega:(tz a).length=0)];rfl
  rw[e];exact jO (ai @h0<|ai @bG @YV)
 ·have e:=bl_dvd c om;have hb:=fV c ((tz a).length-1);have f:=y9 hb;have j:=Hu (a.getD ((tz a).length-1) 0) hb;have hidx:((((tz a).length:Nat):Int)-1).toNat=(tz a).length-1:=om;exact jO (ai @e<|ai @hidx<|ai @h0<|ai @bG @YV)
theorem mX(a:List Nat)(f:Wd a)(c:a.length≤10000000000):aT 70 [.l 1 (W a)] (.i .i64 ((bl (nv B a):Nat):Int)):=by
 have h:=I_ a f c;refine f_ aN a_ Tryz.func70 ?_;exact jO (ai @bG @YV)
theorem bl_z{n:Nat}:(((bl n:Nat):Int)=0)=(n=0):=propext ⟨fun h=>by
 rcases kz n with a|a
 ·exact a
 ·have:=X8 (x:=n) om;omega,fun h=>by rw[h];rfl⟩
theorem KX(f:Wd a):bl (nv B a)≤64*a.length:=by
 rcases kz (nv B a)with h|h
 ·rw[h];exact aG _
 ·obtain⟨g,j⟩:=Dz (x:=nv B a) om;have c:=eP f;rw[B64,←Nat.pow_mul]at c;have:=(BN (by decide:1<2)).1 (cZ g c);omega
end
section
open Go Go.RowKit Ab
def lg:=an @gG<|an @wi<|an @aI<|an @aW<|an @aO<|an @aQ<|an @fZ<|an @di<|an @dR<|an @dH @lu
def zI(s:Bool)(n:Nat):Int:=if s then -(n:Int)else(n:Int)
abbrev zL(s:Bool)(a:List Nat):V:= .g [.b s,.l 1 (W a)]
abbrev zN(z:Int):V:= .g [.b (decide (z<0)),.l 1 (W (dg B z.natAbs))]
def zv(s:Bool)(a:List Nat):Int:=zI s (nv B a)
theorem EJ(s:Bool)(n:Nat):(zI s n).natAbs=n:=by unfold zI;split<;>omega
theorem zV(s:Bool)(a:List Nat):(zv s a).natAbs=nv B a:=EJ s _
theorem Qy(s:Bool)(n:Nat):decide (zI s n<0)=(s&&decide (0<n)):=by
 unfold zI;cases s
 ·simp
 ·simp
theorem zN_I(s:Bool)(n:Nat):zN (zI s n)= .g [.b (s&&decide (0<n)),.l 1 (W (dg B n))]:=by
 show V.g [.b (decide (zI s n<0)),.l 1 (W (dg B (zI s n).natAbs))]=_;rw[EJ,Qy]
theorem fD(z:Int):zv (decide (z<0)) (dg B z.natAbs)=z:=by
 unfold zv zI;rw[ae];by_cases h:z<0
 ·simp[h];omega
 ·simp[h];omega
theorem Aq(z:Int):zI (decide (z<0)) z.natAbs=z:=by
 unfold zI;by_cases h:z<0
 ·simp[h];omega
 ·simp[h];omega
theorem BR{n:Nat}:((0:Int)<(((dg B n).length:Nat):Int))=(0<n):=by
 have h:=uz (b:=B) B2 (v:=n);refine propext ⟨fun c=>?_,fun c=>?_⟩
 ·rcases kz n with a|a
  ·rw[h.2 a]at c;simp at c
  ·exact a
 ·rcases kz (dg B n).length with a|a
  ·have:=h.1 (nz a);omega
  ·omega
variable{m:Nat}
theorem zlen{z:Int}(h:z.natAbs<B^m):(dg B z.natAbs).length≤m:=aA h
def gp(z:Int):Int:=if z<0 then-1 else if 0<z then 1 else 0
def cz(x y:Int):Int:=if x<y then-1 else if x=y then 0 else 1
theorem rH(s:Bool)(n:Nat):aT 123 [.b s,.l 1 (W (dg B n))] (zN (zI s n)):=by
 rw[zN_I];refine b_ aN a_ Tryz.func123 [.c 4 true 2] ?_;cases s
 ·refine aX (ai @bG @lg) ?_;exact X0 (ai @bG @lg)
 ·by_cases h:0<n
  ·have e:decide (0<n)=true:=cO h;rw[e];refine aX (ai @h<|ai @BR<|ai @bG @lg) ?_;exact X0 (ai @bG @lg)
  ·have e:decide (0<n)=false:=aZ h;rw[e];refine aX (ai @h<|ai @BR<|ai @bG @lg) ?_;exact X0 (ai @bG @lg)
theorem wG(s:Bool)(a:List Nat)(f:Wd a)(g:a.length≤1000000000):aT 124 [zL s a] (zN (zv s a)):=by
 have l:=(rE a f om).frozen;have j:=rH s (nv B a);refine b_ aN a_ Tryz.func124 [.c 2 true 2] ?_;repeat first|(refine hK _ ?_;clear hK K)|simp only[Sv,↓reduceIte,Nat.reduceEqDiff]|((first|refine ay (fun K hK=>?_)|refine ax (fun K hK=>?_)|refine ak (fun K hK=>?_)|refine fM ?_|refine dE (by assumption) ?_|refine fO ?_|(apply dF;assumption)|(apply dG;assumption));simp(disch:=(first|omega|assumption)) only[S1,seval,-Int.reduceToNat,-List.reduceReplicate,aK.sb,aK.mut,aU,↓aJ,aV,aC,lg,dJ,zv])
 simp(disch:=(first|omega|assumption)) only[rU,iy,fG,qp,qw,lJ,qA,qB,iC,lK,lL,fH,eF,dY,iF,iK,jv,fA,V.aP,bW,bY,S1,seval,-Int.reduceToNat,-List.reduceReplicate,aK.sb,aK.mut,aU,↓aJ,aV,aC,lg,dJ,zv]
theorem EK(s:Bool)(a:List Nat)(g:Wd a)(f:a.length≤1000000000):aT 72 [.b s,.l 1 (W a)] (zN (zv s a)):=by
 have j:=wG s a g f;refine b_ aN a_ Tryz.func72 [.c 4 true 2] ?_;exact lV (ai @bG @lg)
theorem yl(n:Int)(h1: -9223372036854775808≤n)(h2:n<9223372036854775808):aT 68 [.i .i64 n] (zN n):=by
 have j:=(wF n.natAbs om).frozen;have a:=rH (decide (n<0)) n.natAbs;rw[Aq]at a;by_cases h:n<0
 ·have e1:decide (n<0)=true:=cO h;rw[show zN n= .g [.b true,.l 1 (W (dg B n.natAbs))]from by show V.g [.b (decide (n<0)),_]=_;rw[e1]]at a ⊢;rw[e1]at a;refine b_ aN a_ Tryz.func68 [.c 2 true 2] ?_;have f:IntKind.u64.wrap (0-IntKind.u64.wrap n)=(n.natAbs:Int):=by rw[IntKind.wrap_u64,IntKind.wrap_u64];omega
  repeat first|(refine hK _ ?_;clear hK K)|simp only[Sv,↓reduceIte,Nat.reduceEqDiff]|((first|refine ay (fun K hK=>?_)|refine ax (fun K hK=>?_)|refine ak (fun K hK=>?_)|refine fM ?_|refine dE (by assumption) ?_|refine fO ?_|(apply dF;assumption)|(apply dG;assumption));simp(disch:=(first|omega|assumption)) only[S1,seval,-Int.reduceToNat,-List.reduceReplicate,aK.sb,aK.mut,aU,↓aJ,aV,aC,lg,dJ,h,f,e1])
  simp(disch:=(first|omega|assumption)) only[rU,iy,fG,qp,qw,lJ,qA,qB,iC,lK,lL,fH,eF,dY,iF,iK,jv,fA,V.aP,bW,bY,S1,seval,-Int.reduceToNat,-List.reduceReplicate,aK.sb,aK.mut,aU,↓aJ,aV,aC,lg,dJ,h,f,e1]
 ·have e1:decide (n<0)=false:=aZ h;rw[show zN n= .g [.b false,.l 1 (W (dg B n.natAbs))]from by show V.g [.b (decide (n<0)),_]=_;rw[e1]]at a ⊢;rw[e1]at a;refine b_ aN a_ Tryz.func68 [.c 2 true 2] ?_;have f:IntKind.u64.wrap n=(n.natAbs:Int):=by rw[IntKind.wrap_u64];omega
  repeat first|(refine hK _ ?_;clear hK K)|simp only[Sv,↓reduceIte,Nat.reduceEqDiff]|((first|refine ay (fun K hK=>?_)|refine ax (fun K hK=>?_)|refine ak (fun K hK=>?_)|refine fM ?_|refine dE (by assumption) ?_|refine fO ?_|(apply dF;assumption)|(apply dG;assumption));simp(disch:=(first|omega|assumption)) only[S1,seval,-Int.reduceToNat,-List.reduceReplicate,aK.sb,aK.mut,aU,↓aJ,aV,aC,lg,dJ,h,f,e1])
  simp(disch:=(first|omega|assumption)) only[rU,iy,fG,qp,qw,lJ,qA,qB,iC,lK,lL,fH,eF,dY,iF,iK,jv,fA,V.aP,bW,bY,S1,seval,-Int.reduceToNat,-List.reduceReplicate,aK.sb,aK.mut,aU,↓aJ,aV,aC,lg,dJ,h,f,e1]
theorem jX(s:Bool)(a:List Nat)(j:Wd a)(g:a.length≤1000000000):aT 77 [zL s a] (.i .i64 (gp (zv s a))):=by
 have l:=wG s a j g;have c:=BR (n:=(zv s a).natAbs);generalize zv s a=z at*
 refine f_ aN a_ Tryz.func77 ?_;by_cases h:z<0
 ·rw[show gp z= -1 from au h];exact jO (ai @h<|ai @bG @lg)
 ·by_cases f:0<z
  ·have e:0<z.natAbs:=om;rw[show gp z=1 from(ah h).trans (au f)];exact jO (ai @e<|ai @c<|ai @h<|ai @bG @lg)
  ·have e:¬0<z.natAbs:=om;rw[show gp z=0 from(ah h).trans (ah f)];exact jO (ai @e<|ai @c<|ai @h<|ai @bG @lg)
theorem sgz_I(s:Bool)(n:Nat):gp (zI s n)=if n=0 then 0 else if s then-1 else 1:=by
 unfold gp zI;cases s<;>simp only[aJ,if_false,if_true]<;>(repeat' split)<;>omega
theorem cz_eq(s t:Bool)(u v:Nat):(gp (zI s u)<gp (zI t v)→cz (zI s u) (zI t v)= -1)∧(gp (zI t v)<gp (zI s u)→cz (zI s u) (zI t v)=1)∧(gp (zI s u)=gp (zI t v)→gp (zI s u)*sg u v=cz (zI s u) (zI t v)):=by
 unfold gp cz zI sg;cases s<;>cases t<;>simp only[if_true,aJ,if_false]<;>refine⟨fun h=>?_,fun h=>?_,fun h=>?_⟩<;>(repeat' split at h)<;>(repeat' split)<;>first|rfl|omega
theorem KY(z:Int): -1≤gp z∧gp z≤1:=by unfold gp;split;decide;split<;>decide
theorem sg_bnd(u v:Nat): -1≤sg u v∧sg u v≤1:=by unfold sg;split;decide;split<;>decide
theorem N7{a b:Int}(h1: -1≤a∧a≤1)(h2: -1≤b∧b≤1):IntKind.i64.wrap (a*b)=a*b:=by
 refine wi ?_;have c:a= -1∨a=0∨a=1:=om;have hb:b= -1∨b=0∨b=1:=om;rcases c with rfl|rfl|rfl<;>rcases hb with rfl|rfl|rfl<;>decide
theorem Vl(s t:Bool)(a b:List Nat)(f:Wd a)(hb:Wd b)(j:a.length≤1000000000)(g:b.length≤1000000000):aT 116 [zL s a,zL t b] (.i .i64 (cz (zv s a) (zv t b))):=by
 have A:=jX s a f j;have z:=jX t b hb g;have u:=DC a b f hb om om;obtain⟨e1,m,l⟩:=cz_eq s t (nv B a) (nv B b);have c:=N7 (KY (zI s (nv B a))) (sg_bnd (nv B a) (nv B b));unfold zv at*
 generalize cz (zI s (nv B a)) (zI t (nv B b))=r at*
 generalize gp (zI s (nv B a))=x at*
 generalize gp (zI t (nv B b))=y at*
 generalize sg (nv B a) (nv B b)=w at*
 refine f_ aN a_ Tryz.func116 ?_;by_cases c1:x<y
 ·rw[e1 c1];exact jO (ai @c1<|ai @bG @lg)
 ·by_cases c2:y<x
  ·rw[m c2];exact jO (ai @c2<|ai @c1<|ai @bG @lg)
  ·have e:=l om;rw[e]at c;rw[←e];rw[←e]at c;exact jO (ai @c<|ai @c2<|ai @c1<|ai @bG @lg)
theorem qK(s:Bool)(a:List Nat)(f:Wd a)(j:a.length≤1000000000):aT 80 [zL s a] (zN (-(zv s a))):=by
 have l:=(rE a f om).frozen;have g:=rH (!s) (nv B a);rw[show zI (!s) (nv B a)= -(zv s a)from by unfold zv zI;cases s<;>simp]at g;refine b_ aN a_ Tryz.func80 [.c 2 true 2] ?_;exact lV (ai @bG @lg)
theorem JD(s:Bool)(a:List Nat)(c:Wd a)(f:a.length≤1000000000):aT 110 [zL s a] (.o 49 1 (W (dg B (nv B a)))):=by
 have g:=rE a c om;refine f_ aN a_ Tryz.func110 ?_;exact jO (ai @bG @lg)
theorem RG(s t:Bool)(u v:Nat):(s=t→zI s (u+v)=zI s u+zI t v)∧(s≠t→zI (!(s==decide (u<v))) (if u<v then v-u else u-v)=zI s u+zI t v):=by
 unfold zI;refine⟨fun h=>?_,fun h=>?_⟩
 ·subst h;cases s<;>simp<;>omega
 ·by_cases h2:u<v
  ·cases s<;>cases t<;>simp[h2]at h ⊢ <;>omega
  ·cases s<;>cases t<;>simp[h2]at h ⊢ <;>omega
theorem JH(s t:Bool)(a b:List Nat)(j:Wd a)(hb:Wd b)(y:a.length≤1000000000)(u:b.length≤1000000000):aT 84 [zL s a,zL t b] (zN (zv s a+zv t b)):=by
 obtain⟨e1,m⟩:=RG s t (nv B a) (nv B b);refine b_ aN a_ Tryz.func84 [.c 4 true 2] ?_;by_cases h:s=t
 ·have f:(s==t)=true:=by rw[h];cases t<;>rfl
  have l:=(v_ a b j hb om om).frozen;have g:=rH s (nv B a+nv B b);rw[e1 h]at g;repeat first|(refine hK _ ?_;clear hK K)|simp only[Sv,↓reduceIte,Nat.reduceEqDiff]|((first|refine ay (fun K hK=>?_)|refine ax (fun K hK=>?_)|refine ak (fun K hK=>?_)|refine fM ?_|refine dE (by assumption) ?_|refine fO ?_|(apply dF;assumption)|(apply dG;assumption));simp(disch:=(first|omega|assumption)) only[S1,seval,-Int.reduceToNat,-List.reduceReplicate,aK.sb,aK.mut,aU,↓aJ,aV,aC,lg,dJ,f,zv])
  simp(disch:=(first|omega|assumption)) only[rU,iy,fG,qp,qw,lJ,qA,qB,iC,lK,lL,fH,eF,dY,iF,iK,jv,fA,V.aP,bW,bY,S1,seval,-Int.reduceToNat,-List.reduceReplicate,aK.sb,aK.mut,aU,↓aJ,aV,aC,lg,dJ,f,zv]
 ·have f:(s==t)=false:=by cases s<;>cases t<;>first|rfl|exact absurd rfl h
  have l:=Vd a b j hb om om;have g:=rH (!(s==decide (nv B a<nv B b))) (if nv B a<nv B b then nv B b-nv B a else nv B a-nv B b);rw[m h]at g;rw[show(if nv B a<nv B b then dg B (nv B b-nv B a)else dg B (nv B a-nv B b))=dg B (if nv B a<nv B b then nv B b-nv B a else nv B a-nv B b)from by split<;>rfl]at l;generalize decide (nv B a<nv B b)=q at*
  generalize (if nv B a<nv B b then nv B b-nv B a else nv B a-nv B b)=n at*
  repeat first|(refine hK _ ?_;clear hK K)|simp only[Sv,↓reduceIte,Nat.reduceEqDiff]|((first|refine ay (fun K hK=>?_)|refine ax (fun K hK=>?_)|refine ak (fun K hK=>?_)|refine fM ?_|refine dE (by assumption) ?_|refine fO ?_|(apply dF;assumption)|(apply dG;assumption));simp(disch:=(first|omega|assumption)) only[S1,seval,-Int.reduceToNat,-List.reduceReplicate,aK.sb,aK.mut,aU,↓aJ,aV,aC,lg,dJ,f,zv])
  simp(disch:=(first|omega|assumption)) only[rU,iy,fG,qp,qw,lJ,qA,qB,iC,lK,lL,fH,eF,dY,iF,iK,jv,fA,V.aP,bW,bY,S1,seval,-Int.reduceToNat,-List.reduceReplicate,aK.sb,aK.mut,aU,↓aJ,aV,aC,lg,dJ,f,zv]
theorem zaddN{x y:Int}(c:x.natAbs<B^m)(a:y.natAbs<B^m)(hm:m≤1000000000):aT 84 [zN x,zN y] (zN (x+y)):=by
 have:=JH (decide (x<0)) (decide (y<0)) (dg B x.natAbs) (dg B y.natAbs) (af _) (af _) (bK (aA c) hm) (bK (aA a) hm);rwa[fD,fD]at this
theorem VD(s t:Bool)(a b:List Nat)(j:Wd a)(hb:Wd b)(g:a.length≤1000000000)(f:b.length≤1000000000):aT 129 [zL s a,zL t b] (zN (zv s a-zv t b)):=by
 have m:=qK t b hb f;have l:=JH s (decide (-(zv t b)<0)) a (dg B (-(zv t b)).natAbs) j (af _) g (by rw[kX,zV];exact bK (aA (eP hb)) f);rw[fD,←Int.sub_eq_add_neg]at l;refine b_ aN a_ Tryz.func129 [.c 4 true 2] ?_;exact lV (ai @bG @lg)
theorem RH(s t:Bool)(u v:Nat):zI (!(s==t)) (u*v)=zI s u*zI t v:=by
 unfold zI;cases s<;>cases t<;>simp[jC,Int.neg_mul,Int.mul_neg]
theorem Vk(s t:Bool)(a b:List Nat)(j:Wd a)(hb:Wd b)(g:a.length≤100000000)(f:b.length≤100000000):aT 112 [zL s a,zL t b] (zN (zv s a*zv t b)):=by
 have m:=NW a b j hb g f;have l:=rH (!(s==t)) (nv B a*nv B b);rw[RH]at l;refine b_ aN a_ Tryz.func112 [.c 4 true 2] ?_;repeat first|(refine hK _ ?_;clear hK K)|simp only[Sv,↓reduceIte,Nat.reduceEqDiff]|((first|refine ay (fun K hK=>?_)|refine ax (fun K hK=>?_)|refine ak (fun K hK=>?_)|refine fM ?_|refine dE (by assumption) ?_|refine fO ?_|(apply dF;assumption)|(apply dG;assumption));simp(disch:=(first|omega|assumption)) only[S1,seval,-Int.reduceToNat,-List.reduceReplicate,aK.sb,aK.mut,aU,↓aJ,aV,aC,lg,dJ,zv])
 simp(disch:=(first|omega|assumption)) only[rU,iy,fG,qp,qw,lJ,qA,qB,iC,lK,lL,fH,eF,dY,iF,iK,jv,fA,V.aP,bW,bY,S1,seval,-Int.reduceToNat,-List.reduceReplicate,aK.sb,aK.mut,aU,↓aJ,aV,aC,lg,dJ,zv]
end
section
open Go Go.ChangeShapes Go.WideShapes Go.ChangeAt Go.RowKit Ab
abbrev QZ:List V→Nat→Prop:=QSt2 YB QNat
variable{H:Type}
theorem YW{enc:TypeId×Value→H}{w:World}:mg enc Tryz.prog w 4 YB:=Qj Tryz.underlying4
theorem KZ{enc:TypeId×Value→H}{w:World}:mg enc Tryz.prog w 25 QZ:=
 BF (s1:=1) (s2:=1) Tryz.underlying25 rfl rfl kf kf kf YW JC
theorem QZ_L{xs:List V}{n:Nat}(h:QZ xs n):∃(s:Bool) (a:List Nat),V.g xs=zL s a∧Wd a∧a.length≤n:=by
 obtain⟨x1,x2,n1,n2,rfl,⟨s,rfl,rfl⟩,f,l⟩:=h;obtain⟨a,rfl,c,j⟩:=YC f;exact⟨s,a,rfl,c,om⟩
end
section
open Go Go.RowKit Ab
def BG:=an @gG<|an @wi<|an @aI<|an @aW<|an @aO<|an @aQ<|an @fZ<|an @di<|an @dR<|an @dH @lu
theorem Ja:zN 0= .g [.b false,.l 1 []]:=rfl
theorem Gm(s t:Bool)(u v:Nat):zI (!(s==t)) (u/v)=(zI s u).tdiv (zI t v):=by
 unfold zI;cases s<;>cases t<;>simp[Int.neg_tdiv,Int.tdiv_neg]<;>rfl
theorem K_(s t:Bool)(u v:Nat):zI s (u%v)=(zI s u).tmod (zI t v):=by
 unfold zI;cases s<;>cases t<;>simp[Int.neg_tmod,Int.tmod_neg]<;>rfl
variable{a:List Nat}{x y:Int}{m:Nat}
theorem KU{s:Bool}:zv s a=0↔nv B a=0:=by unfold zv zI;cases s<;>simp
def zq(x y:Int):Int:=x.tdiv y
def zr(x y:Int):Int:=if y=0 then 0 else x.tmod y
def ze(y:Int):Int:=if y=0 then 1 else 0
theorem zr_0(x:Int):zr x 0=0:=au rfl
theorem zq_0(x:Int):zq x 0=0:=Int.tdiv_zero x
theorem zr_p(h:y≠0):zr x y=x.tmod y:=ah h
theorem ze_p(h:y≠0):ze y=0:=ah h
theorem VE(s t:Bool)(a b:List Nat)(m:Wd a)(hb:Wd b)(l:a.length≤1000000000)(j:b.length≤1000000000):
 aT 128 [zL s a,zL t b] (.t [zN (zq (zv s a) (zv t b)),zN (zr (zv s a) (zv t b)),.i .i64 (ze (zv t b))]):=by
 have hq:=H5 a b m hb l j
 by_cases f:nv B b=0
 ·have hz:=(KU (s:=t)).2 f;rw[hz,zq_0,zr_0,show ze 0=1 from rfl];rw[f,qQ_0,qR_0,qE_0]at hq;refine b_ aN a_ Tryz.func128 [.c 4 true 2,.c 5 true 2,.t 6] ?_;exact lV (ai @Ja<|ai @bG @BG)
 ·have hz:zv t b≠0:=fun h=>f (KU.1 h)
  have g:0<nv B b:=om;rw[zr_p hz,ze_p hz];rw[qE_p g,qR_p g,qQ]at hq;have y:=rH (!(s==t)) (nv B a/nv B b);have u:=rH s (nv B a%nv B b);rw[Gm]at y;rw[K_ s t]at u;refine b_ aN a_ Tryz.func128 [.c 4 true 2,.c 5 true 2,.t 6] ?_;repeat first|(refine hK _ ?_;clear hK K)|simp only[Sv,↓reduceIte,Nat.reduceEqDiff]|((first|refine ay (fun K hK=>?_)|refine ax (fun K hK=>?_)|refine ak (fun K hK=>?_)|refine fM ?_|refine dE (by assumption) ?_|refine fO ?_|(apply dF;assumption)|(apply dG;assumption));simp(disch:=(first|omega|assumption)) only[S1,seval,-Int.reduceToNat,-List.reduceReplicate,aK.sb,aK.mut,aU,↓aJ,aV,aC,BG,dJ,zv,zq])
  simp(disch:=(first|omega|assumption)) only[rU,iy,fG,qp,qw,lJ,qA,qB,iC,lK,lL,fH,eF,dY,iF,iK,jv,fA,V.aP,bW,bY,S1,seval,-Int.reduceToNat,-List.reduceReplicate,aK.sb,aK.mut,aU,↓aJ,aV,aC,BG,dJ,zv,zq]
theorem YX(x y:Int):(zq x y).natAbs≤x.natAbs:=Int.natAbs_tdiv_le_natAbs x y
theorem YY(x y:Int):(zr x y).natAbs≤x.natAbs:=by
 unfold zr;split
 ·exact aG _
 ·rw[Int.natAbs_tmod];exact Nat.mod_le _ _
theorem bF{s:Bool}(f:Wd a)(c:a.length≤m):(zv s a).natAbs<B^m:=by rw[zV];exact bP f c
theorem Qx{z:Int}(hz:z.natAbs<B^m)(hm:m≤1000000000):aT 77 [zN z] (.i .i64 (gp z)):=by
 have:=jX (decide (z<0)) (dg B z.natAbs) (af _) (bK (aA hz) hm);rwa[fD]at this
theorem zsubN(c:x.natAbs<B^m)(a:y.natAbs<B^m)(hm:m≤1000000000):aT 129 [zN x,zN y] (zN (x-y)):=by
 have:=VD (decide (x<0)) (decide (y<0)) (dg B x.natAbs) (dg B y.natAbs) (af _) (af _) (bK (aA c) hm) (bK (aA a) hm);rwa[fD,fD]at this
theorem zabs1(h:x.natAbs<B^m):x.natAbs<B^(m+1):=KE h (Nat.le_succ m)
theorem one_lt(m:Nat):(1:Int).natAbs<B^(m+1):=by
 have:=gX (by decide:0<B) (Nat.succ_le_succ (aG m));rw[Nat.pow_one]at this;exact eu dc this
theorem La(x y:Int)(h:y≠0):x.fdiv y=if x.tmod y≠0∧gp x≠gp y then x.tdiv y-1 else x.tdiv y:=by
 rw[Int.fdiv_eq_tdiv];by_cases g:y∣x
 ·rw[au g,ah (fun h=>h.1 (Int.tmod_eq_zero_of_dvd g)),Int.sub_zero]
 ·have ht:x.tmod y≠0:=fun h=>g (Int.dvd_of_tmod_eq_zero h)
  have f:x≠0:=fun l=>g (l▸Int.dvd_zero y)
  rw[ah g];have e:(x.tmod y≠0∧gp x≠gp y)=(gp x≠gp y):=propext ⟨And.right,fun h=>⟨ht,h⟩⟩;simp only[e];generalize x.tdiv y=q;have j:∀z:Int,z<0→gp z= -1:=fun z h=>au h
  have sp:∀z:Int,0<z→gp z=1:=fun z h=>(ah om).trans (au h)
  rcases Int.lt_or_gt_of_ne h with c|c
  ·rw[Int.sign_eq_neg_one_of_neg c,j y c];rcases Int.lt_or_gt_of_ne f with a|a
   ·rw[j x a,ah om,ah om,ah dc];omega
   ·rw[sp x a,au om,ah om,au dc]
  ·rw[Int.sign_eq_one_of_pos c,sp y c];rcases Int.lt_or_gt_of_ne f with a|a
   ·rw[j x a,ah om,au om,au dc]
   ·rw[sp x a,au om,au om,ah dc];omega
theorem NY(s t:Bool)(a b:List Nat)(A:Wd a)(hb:Wd b)(E:a.length≤100000000)(H:b.length≤100000000):
 aT 74 [zL s a,zL t b] (.t [zN ((zv s a).fdiv (zv t b)),.i .i64 (ze (zv t b))]):=by
 have hq:=VE s t a b A hb om om
 have hl:=bF (s:=s) A E
 have u:=cZ (YX (zv s a) (zv t b)) hl
 have hl2:=cZ (YY (zv s a) (zv t b)) hl
 have l:=Qx hl2 dc
 have G:=jX s a A om
 have m:=jX t b hb om
 have hone:=yl 1 dc dc
 have F:=zsubN (zabs1 u) (one_lt 100000000) dc
 generalize zv s a=x at*
 generalize zv t b=y at*
 by_cases g:y=0
 ·subst g;rw[zq_0,zr_0,show ze 0=1 from rfl]at hq;rw[Int.fdiv_zero,show ze 0=1 from rfl];refine b_ aN a_ Tryz.func74 [.c 4 true 2,.t 5] ?_;exact lV (ai @Ja<|ai @bG @BG)
 ·rw[La x y g,ze_p g];rw[ze_p g]at hq;have C:gp (zr x y)=0↔x.tmod y=0:=by
   rw[zr_p g];unfold gp;generalize x.tmod y=z;split
   ·omega
   ·split<;>omega
  by_cases j:x.tmod y=0
  ·have e1:=C.2 j;rw[ah (by intro h;exact h.1 j)];rw[e1]at l;refine b_ aN a_ Tryz.func74 [.c 4 true 2,.t 5] ?_;repeat first|(refine hK _ ?_;clear hK K)|simp only[Sv,↓reduceIte,Nat.reduceEqDiff]|((first|refine ay (fun K hK=>?_)|refine ax (fun K hK=>?_)|refine ak (fun K hK=>?_)|refine fM ?_|refine dE (by assumption) ?_|refine fO ?_|(apply dF;assumption)|(apply dG;assumption));simp(disch:=(first|omega|assumption)) only[S1,seval,-Int.reduceToNat,-List.reduceReplicate,aK.sb,aK.mut,aU,↓aJ,aV,aC,BG,dJ,zq])
   simp(disch:=(first|omega|assumption)) only[rU,iy,fG,qp,qw,lJ,qA,qB,iC,lK,lL,fH,eF,dY,iF,iK,jv,fA,V.aP,bW,bY,S1,seval,-Int.reduceToNat,-List.reduceReplicate,aK.sb,aK.mut,aU,↓aJ,aV,aC,BG,dJ,zq]
  ·have e1:¬gp (zr x y)=0:=fun h=>j (C.1 h)
   by_cases f:gp x=gp y
   ·rw[ah (by intro h;exact h.2 f)];rw[←f]at m;refine b_ aN a_ Tryz.func74 [.c 4 true 2,.t 5] ?_;repeat first|(refine hK _ ?_;clear hK K)|simp only[Sv,↓reduceIte,Nat.reduceEqDiff]|((first|refine ay (fun K hK=>?_)|refine ax (fun K hK=>?_)|refine ak (fun K hK=>?_)|refine fM ?_|refine dE (by assumption) ?_|refine fO ?_|(apply dF;assumption)|(apply dG;assumption));simp(disch:=(first|omega|assumption)) only[S1,seval,-Int.reduceToNat,-List.reduceReplicate,aK.sb,aK.mut,aU,↓aJ,aV,aC,BG,dJ,e1,zq])
    simp(disch:=(first|omega|assumption)) only[rU,iy,fG,qp,qw,lJ,qA,qB,iC,lK,lL,fH,eF,dY,iF,iK,jv,fA,V.aP,bW,bY,S1,seval,-Int.reduceToNat,-List.reduceReplicate,aK.sb,aK.mut,aU,↓aJ,aV,aC,BG,dJ,e1,zq]
   ·rw[au ⟨j,f⟩];refine b_ aN a_ Tryz.func74 [.c 4 true 2,.t 5] ?_;repeat first|(refine hK _ ?_;clear hK K)|simp only[Sv,↓reduceIte,Nat.reduceEqDiff]|((first|refine ay (fun K hK=>?_)|refine ax (fun K hK=>?_)|refine ak (fun K hK=>?_)|refine fM ?_|refine dE (by assumption) ?_|refine fO ?_|(apply dF;assumption)|(apply dG;assumption));simp(disch:=(first|omega|assumption)) only[S1,seval,-Int.reduceToNat,-List.reduceReplicate,aK.sb,aK.mut,aU,↓aJ,aV,aC,BG,dJ,e1,f,zq])
    simp(disch:=(first|omega|assumption)) only[rU,iy,fG,qp,qw,lJ,qA,qB,iC,lK,lL,fH,eF,dY,iF,iK,jv,fA,V.aP,bW,bY,S1,seval,-Int.reduceToNat,-List.reduceReplicate,aK.sb,aK.mut,aU,↓aJ,aV,aC,BG,dJ,e1,f,zq]
end
section
open Go Go.RowKit Go.Proofs Ab
variable{e k sz:Nat}{w' w1 w0:World}{H:Nat→Prop}{t:Array Value}{u y x:Value}{P:Program}{f:FuncId}{fn:Func}{vs:List Value}{a:Act}{p:Prop}{A:List Nat}
theorem bJ{B:Nat}{n:Nat}{v:Value}{xs:List Value}{w:World}(h:w.ownsRow B e k v n xs)(hb:∀q,v.ownBlock=some q→w'.heap[q]? =w.heap[q]?):w'.ownsRow B e k v n xs:=by
 refine⟨h.1,h.2.imp id fun⟨g,cap,cur,e1,f,c,a⟩=>⟨g,cap,cur,e1,f,?_,a⟩⟩;rw[hb g (by rw[e1];rfl)];exact c
theorem oK{B a n:Nat}{v:Value}{xs:List Value}{w:World}(h:w.ownsRow B e k v n xs)(c:a≤B):w.ownsRow a e k v n xs:=
 ⟨h.1,h.2.imp id fun⟨g,cap,cur,e1,j,f⟩=>⟨g,cap,cur,e1,bK c j,f⟩⟩
theorem iE{w:World}{B n:Nat}{v:Value}{xs:List Value}(h:w.ownsRow B e k v n xs):∃a c,v= .slice a n c:=by
 rcases h.2 with ⟨rfl,rfl⟩|⟨g,cap,cur,rfl,_⟩<;>exact⟨_,_,rfl⟩
theorem xE{w:World}{B n:Nat}{v:Value}{xs:List Value}(h:w.ownsRow B e sz v n xs):blk v=v.ownBlock:=by
 rcases h.2 with ⟨rfl,_⟩|⟨g,cap,cur,rfl,_⟩<;>rfl
theorem zi{w:World}{B n:Nat}{v:Value}{xs:List Value}{cs:List V}(c:0<sz)(u:w.ownsRow B e sz v n xs)(m:aB w H xs cs)(hm:n≤maxLen)(z:∀q,v.ownBlock=some q→H q):Rep0 w H v (.l sz cs):=by
 have hl:cs.length=n*sz:=by rw[←m.1];exact u.1
 rcases u.2 with ⟨rfl,rfl⟩|⟨g,cap,cur,rfl,F,E,A,C⟩
 ·have y:cs=[]:=nz (by rw[hl];exact iT _);subst y;exact .l none 0 0 sz [] (fun _=>undef) 0 0 c (iT _).symm (aG _) (aY _) (.inl rfl) (fun j a=>absurd a (Nat.not_lt_zero j)) (fun j x f=>by simp at f)
 ·refine .l _ n cap sz cs (fun j=>xs[j]?.getD undef) g 0 c hl hm A (.inr ⟨rfl,z g rfl⟩) (fun j a=>?_) (fun j x f=>?_)
  ·rw[eY,u.cellAt j (by rw[←hl];exact a),bC (by rw[m.1];exact a)];rfl
  ·have a:j<xs.length:=by rw[m.1];exact(iR.1 f).1
   rw[bC a];exact m.2 j _ x (bC a) f
def Wv(a:List Nat):List Value:=a.map fun n:Nat=>Value.int .u64 (n:Int)
theorem Lc{w:World}(a:List Nat):aB w H (Wv a) (W a):=by
 refine⟨by simp[Wv,W],fun j v x g f=>?_⟩;simp only[Wv,W,iU,jT]at g f;obtain⟨n,l,rfl⟩:=g;obtain⟨m,c,rfl⟩:=f;rw[l]at c;cases c;exact .i _ _
theorem N8{w:World}{a:List Nat}{xs:List Value}(h:aB w H xs (W a)):xs=Wv a:=by
 have hl:xs.length=a.length:=by rw[h.1,aQ]
 refine List.ext_getElem? fun j=>?_
 rcases dW j a.length with c|c
 ·have g:xs[j]? =some xs[j]:=bC om;have l:(W a)[j]? =some (.i .u64 (a[j]:Int)):=by simp[W,c]
  have f:=h.2 j _ _ g l;rw[g];generalize xs[j]=v at f;cases f;simp[Wv,c]
 ·rw[ng om,ng (by simp[Wv];exact c)]
def q1:Code→Code
 | .seq a _=>a
 |c=>c
def q2:Code→Code
 | .seq _ b=>b
 |c=>c
def qb:Code→Code
 | .block _ c=>c
 |c=>c
def ql:Code→Code
 | .loop c=>c
 |c=>c
def qd:Nat→Code→Code
 |0,c=>c
 |n+1,c=>qd n (q2 c)
def qf(f:Func):Code:=f.body.getD .skip
theorem bU(a:Act)(t:Nat):a.eval (.tmp t)=a.tmps.getD t undef:=rfl
theorem dM{d:Nat}{v:Value}(h:d≠k):(t.setIfInBounds d v).getD k u=t.getD k u:=by
 simp only[lH];rw[Array.getElem?_setIfInBounds_ne h]
theorem iQ{d:Nat}{v:Value}(h:d<t.size):(t.setIfInBounds d v).getD d u=v:=by
 simp only[lH];rw[Array.getElem?_setIfInBounds_self_of_lt h];rfl
theorem gI{N:Nat}{v:Value}(hz:t.size=N)(h:t.getD k undef=v)(a:k<N):t[k]' om=v:=by
 rw[←h];simp[hz,a]
variable{R:Ending→World→Prop}
theorem zY{c:Code}{w:World}(l:P.funcs[f]? =some fn)(hb:fn.body=some c)(m:vs.length≤fn.ntmps)
 (k:∀a:Act,a.tmps.size=fn.ntmps→(∀j,j<vs.length→a.tmps.getD j undef=vs.getD j undef)→a.defers=[]→c.wp P (bodyPost P fn R) a w):Calls P f vs.toArray w R:=by
 refine calls_of_wp l hb (k _ ?_ ?_ rfl)
 ·simp;omega
 ·intro j g;simp only[lH,List.getD];rw[Array.getElem?_append_left (by simpa using g)];simp
def pu{p:Prop}(h:p):PLift p:=⟨h⟩
theorem gJ(a:Act):∀(k:Nat) (h:k<a.tmps.size),a.tmps[k]=a.tmps.getD k undef:=fun k h=>by simp[h]
theorem rl{Q:Exit→Act→World→Prop}{w:World}{id:Nat}{l:List Oper}(h:(∀(k:Nat) (h:k<a.tmps.size),a.tmps[k]=a.tmps.getD k undef)→wpList P l.toArray Q l a w):(Code.region id l.toArray false).wp P Q a w:=wp_region_lit (h (gJ a))
theorem gZ(h:p:=by simp[hz]):p:=h
theorem gN(h:p:=by(intro t ht;intros;(try dsimp only[Act.put]);(repeat rw[dM om]))):p:=h
theorem gS(h:p:=by((try rw[bU]);(try dsimp only[Act.put]);(repeat (first|rw[dM dc]|rw[iQ (by simp[hz])]));first|done|assumption|(refine congrArg Value.bool ?_;first|(simp[hl];done)|(simp[hl,hl2];done)|(simp;omega)|(simp[hb];done)))):p:=h
theorem gK(h:p:=by kernel_rfl):p:=h
theorem gM(h:p:=by simp):p:=h
theorem oT(h:p:=by(replace hK:=pu hK;go_tidy;have gA:=gJ a1;go_simp;first|exact hK.down _ _ rfl (dQ _) (fun q h=>by cases h)|exact hK.down _ _ (congrArg Value.bool (by simp[hl])) (dQ _) (fun q h=>by cases h))):p:=h
theorem dQ(w:World):Below w.heap.size w w:=⟨rfl,rfl,rfl,aY _,fun _ _=>rfl⟩
theorem Gp(w:World)(B e sz:Nat):w.ownsRow B e sz (.slice none 0 0) 0 (Wv []):=⟨by simp[Wv],.inl ⟨rfl,rfl⟩⟩
def RowR(w:World)(A:List Nat)(e:Ending)(w':World):Prop:=∃(u:Value) (n:Nat),e= .returned u∧Below w.heap.size w w'∧w'.ownsRow w.heap.size 49 1 u n (Wv A)∧n≤maxLen
def RowT(w:World)(A:List Nat)(y:Value)(e:Ending)(w':World):Prop:=∃(u:Value) (n:Nat),e= .returned (.tuple #[u,y])∧Below w.heap.size w w'∧w'.ownsRow w.heap.size 49 1 u n (Wv A)∧n≤maxLen
def TO(w:World):Prop:=TJ w fun q=>q<w.heap.size
theorem TO.up{w:World}(h:TO w)(hb:Below w.heap.size w w'):TO w':=TJ.mono h (fun _ h=>eu h hb.size) fun q h=>hb.block q h
theorem Gq{w:World}{us:List V}(a:∀q,H q→q<w.heap.size)(h:aB w H vs us):aB w (fun q=>q<w.heap.size) vs us:=⟨h.1,fun j v x f c=>(h.2 j v x f c).mono a fun _ _=>rfl⟩
variable{args:List V}
theorem JI{w:World}(c:aT f args (.o 49 1 (W A)))(u:TO w)(y:∀q,H q→q<w.heap.size)(g:aB w H vs args):Calls Tryz.prog f vs.toArray w (RowR w A):=by
 refine((c.to0 rfl) w (fun q=>q<w.heap.size) vs trivial u (fun _ h=>h) (Gq y g)).mono ?_;rintro e w' ⟨v,rfl,z,N,C,h⟩;rcases h with h|⟨e,sz,cs,n,xs,m,_,j,a,_,l,_⟩|⟨r,h,_⟩
 ·cases h
 ·cases m;have:=N8 a;subst this;exact⟨v,n,rfl,z,j,l⟩
 ·cases h
theorem YZ{r:V}{w:World}(c:aT f args (.to 49 1 (W A) [r]))(g:∀(w':World) (H':Nat→Prop) (z:Value),Rep0 w' H' z r→z=y)(E:TO w)(F:∀q,H q→q<w.heap.size)(l:aB w H vs args):Calls Tryz.prog f vs.toArray w (RowT w A y):=by
 have I:TFun Tryz.prog J0 f args 49 1 (W A) [r]:=c;refine(I.2 w (fun q=>q<w.heap.size) vs trivial E (fun _ h=>h) (Gq F l)).mono ?_;rintro e w' ⟨u,us,n,xs,N,rfl,G,m,_,_,j,_,C,a⟩;have:=N8 j;subst this;match us,a with
 |[z],a=>
  have:=g _ _ z (a.2 0 z r rfl rfl);subst this;exact⟨u,n,rfl,G,m,C⟩
theorem dB{w c:World}(h1:Below w.heap.size w w1)(h2:Below w1.heap.size w1 c):Below w.heap.size w c:=by
 have a:=h1.size;have b:=h2.size;exact⟨h2.os.trans h1.os,h2.tape.trans h1.tape,h2.output.trans h1.output,om,fun q hq=>(h2.block q om).trans (h1.block q hq)⟩
theorem zZ(w:World)(o:Obj):Below w.heap.size w (w.alloc o):=by
 have h:Below w.heap.size w w:=⟨rfl,rfl,rfl,aY _,fun _ _=>rfl⟩;exact h.alloc (aY _) o
theorem N9{w:World}{u v:V}(h1:Rep0 w H x u)(h2:Rep0 w H y v):aB w H [x,y] [u,v]:=⟨rfl,fun j a b e1 c=>by
 match j,e1,c with
 |0,e1,c=>cases e1;cases c;exact h1
 |1,e1,c=>cases e1;cases c;exact h2⟩
theorem rp1{w:World}{u:V}(h1:Rep0 w H x u):aB w H [x] [u]:=⟨rfl,fun j a b e1 c=>by
 match j,e1,c with
 |0,e1,c=>cases e1;cases c;exact h1⟩
theorem Ld{w:World}{B n:Nat}{v:Value}(h:w.ownsRow B 49 1 v n (Wv A))(a:n≤maxLen):Rep0 w (fun q=>q<w.heap.size) v (.l 1 (W A)):=zi uf h (Lc A) a fun q hq=>(h.lt q hq).2
theorem gV{w:World}{v:Value}{cs:List V}(h:Rep0 w H v (.l sz cs)):∃a n c,v= .slice a n c:=by
 obtain⟨a,n,cap,_,_,_,rfl,_⟩:=(Rep.up (ov:=fun _=>none) h).vV;exact⟨a,n,cap,rfl⟩
theorem Il{w:World}{B n:Nat}{v:Value}{xs:List Value}(a:w.ownsRow B 49 1 v n xs):n≤maxLen:=by
 rcases a.2 with ⟨_,rfl⟩|⟨g,cap,cur,_,_,_,f,c,_⟩
 ·exact aG _
 ·exact bK f c
def RowT3(w:World)(A:List Nat)(y z:Value)(e:Ending)(w':World):Prop:=∃(u:Value) (n:Nat),e= .returned (.tuple #[u,y,z])∧Below w.heap.size w w'∧w'.ownsRow w.heap.size 49 1 u n (Wv A)∧n≤maxLen
theorem to_raw3{r1 r2:V}{z:Value}{w:World}(c:aT f args (.to 49 1 (W A) [r1,r2]))(g:∀(w':World) (H':Nat→Prop) (v:Value),Rep0 w' H' v r1→v=y)(hz:∀(w':World) (H':Nat→Prop) (v:Value),Rep0 w' H' v r2→v=z)(E:TO w)(F:∀q,H q→q<w.heap.size)(l:aB w H vs args):Calls Tryz.prog f vs.toArray w (RowT3 w A y z):=by
 have L:TFun Tryz.prog J0 f args 49 1 (W A) [r1,r2]:=c;refine(L.2 w (fun q=>q<w.heap.size) vs trivial E (fun _ h=>h) (Gq F l)).mono ?_;rintro e w' ⟨u,us,n,xs,N,rfl,G,m,_,_,j,_,C,a⟩;have:=N8 j;subst this;match us,a with
 |[p,q],a=>
  have J:=g _ _ p (a.2 0 p r1 rfl rfl);have I:=hz _ _ q (a.2 1 q r2 rfl rfl);subst J I;exact⟨u,n,rfl,G,m,C⟩
theorem Io{k:IntKind}{z:Int}{w:World}(c:aT f args (.i k z))(j:TO w)(l:∀q,H q→q<w.heap.size)(a:aB w H vs args):Calls Tryz.prog f vs.toArray w (fun e w'=>e= .returned (.int k z)∧Below w.heap.size w w'):=by
 refine((c.to0 rfl) w (fun q=>q<w.heap.size) vs trivial j (fun _ h=>h) (Gq l a)).mono ?_;rintro e w' ⟨v,rfl,m,N,u,h⟩;rcases h with h|⟨e,sz,cs,n,xs,g,_⟩|⟨r,h,_⟩
 ·cases h;exact⟨rfl,m⟩
 ·cases g
 ·cases h
theorem int_fin{p g:Nat}{s:Bool}{fr:Nat×Nat}(h:fn.results=#[.cell p 25])(hd:a.defers=[])(c:a.tmps.getD p undef= .pointer (some ⟨g,0,none⟩))(f:w'.heap[g]? =some (.cells #[.bool s,u] 25 fr))(j:R (.returned (.agg #[.bool s,u])) w'):bodyPost Tryz.prog fn R .ret a w':=
 ⟨hd,_,results_cell_row h _ _ g _ _ fr _ c f Tryz.underlying25 rfl kf,j⟩
def Own(w0:World)(A:List Nat)(v:Value)(w:World):Prop:=∃m,m≤maxLen∧w.ownsRow w0.heap.size 49 1 v m (Wv A)
theorem Own.up{w:World}{v:Value}(h:Own w0 A v w)(hb:Below w.heap.size w w'):Own w0 A v w':=by
 obtain⟨m,c,a⟩:=h;exact⟨m,c,bJ a fun q hq=>hb.block q (a.lt q hq).2⟩
theorem Own.base{w:World}{v:Value}(h:Own w1 A v w)(a:w0.heap.size≤w1.heap.size):Own w0 A v w:=by
 obtain⟨m,f,c⟩:=h;exact⟨m,f,oK c a⟩
def IA(w:World)(Ha:Nat→Prop)(v:Value)(s:Bool)(a:List Nat):Prop:=∃x,v= .agg #[.bool s,x]∧Rep0 w Ha x (.l 1 (W a))
theorem Own.rep{w:World}{v:Value}(h:Own w0 A v w):Rep0 w (fun q=>q<w.heap.size) v (.l 1 (W A)):=by
 obtain⟨m,c,a⟩:=h;exact Ld a c
theorem Own.nil(w0 w:World):Own w0 [] (.slice none 0 0) w:=⟨0,aG _,Gp _ _ _ _⟩
theorem lU{w:World}{q i:Nat}(h:w'.heap[q]? =w.heap[q]?):w'.cell? ⟨q,i,none⟩=w.cell? ⟨q,i,none⟩:=by
 simp only[World.cell?,h]
theorem rW1(h:p:=by(replace kk:=pu kk;refine rl fun gA=>?_;go_wp2;exact kk.down _ gZ gN gS rfl)):p:=h
end
section
open Go Go.RowKit Go.Proofs Ab
variable{listed:Array Bool}{j k N id:Nat}{l:List Oper}{o:Oper}{ops:Array Oper}{tmps:Array Value}{want:Bool}{Y:Prop}{P:Program}{Q:Exit→Act→World→Prop}
theorem vk{i:Nat}(d:Bool):(listed.setIfInBounds i true).getD j d=if i=j∧i<listed.size then true else listed.getD j d:=by
 by_cases a:i=j
 ·subst a;by_cases hs:i<listed.size
  ·simp[hs]
  ·simp[hs]
 ·rw[ah (fun h=>a h.1)];simp only[lH,Array.getElem?_setIfInBounds_ne a]
def N_(m n:Nat):Array Bool:=((List.range m).map fun j=>decide (j<n)).toArray
def wt(l:List Oper)(n i:Nat):Nat→Nat→Bool
 |0,t=>Region.waitsFor .any l.toArray t i
 |f+1,t=>Region.waitsFor .any l.toArray t i||(List.range n).any fun m=>Region.waitsFor .any l.toArray t m&&wt l n i f m
def z_(l:List Oper)(n:Nat):Bool:=
 decide (n<l.length)&&((List.range n).all fun i=>((l[i]?).map fun o=>o.dst != some 0&&(o.after.all fun e=>!Region.binds .any e||decide (e.on<i))&&((List.range n).all fun j=>decide (i=j)||((l[j]?).map fun p=>p.dst.isNone||p.dst != o.dst).getD false)).getD false)&&
 ((List.range l.length).all fun t=>decide (t<n)||((List.range l.length).any fun m=>decide (n≤m)&&Region.waitsFor .any l.toArray t m)||((List.range n).all fun i=>wt l n i 9 t))&&Region.seqB .any l.toArray (l.length-n) n (N_ l.length n)
theorem DT{n:Nat}(h:z_ l n=true):n<l.length:=by
 simp only[z_,dA,qW]at h;exact h.1.1.1
theorem VF{n:Nat}(h:z_ l n=true):Region.seqB .any l.toArray (l.length-n) n (N_ l.length n)=true:=by
 simp only[z_,dA]at h;exact h.2
theorem Aa{n i:Nat}(h:z_ l n=true)(C:i<n):∃o,l[i]? =some o∧(∀e,e∈o.after→Region.binds .any e=true→e.on<i)∧∀d,o.dst=some d→d≠0∧∀j p,j<n→i≠j→l[j]? =some p→p.dst≠some d:=by
 have J:=DT h;simp only[z_,dA]at h;have f:=dh.1 h.1.1.2 i (gQ.2 C);have g:l[i]? =some l[i]:=bC om;rw[g]at f;simp only[kZ,jJ,dA]at f;obtain⟨⟨y,H⟩,G⟩:=f;refine⟨l[i],g,fun e E hb=>by
  have u:=Array.all_eq_true_iff_forall_mem.1 H e E;rw[hb]at u;simpa using u,fun d m=>⟨fun I=>?_,fun j p A c z=>?_⟩⟩
 ·rw[m,I]at y;simp at y
 have a:=dh.1 G j (gQ.2 A);rw[z]at a;simp only[Bool.or_eq_true,qW,kZ,jJ,ku,ne_eq]at a;rcases a with a|a|a
 ·exact absurd a c
 ·intro F;rw[F]at a;cases a
 ·rw[m]at a;exact a
theorem QA{n t i:Nat}(h:z_ l n=true)(ht:n≤t)(f:t<l.length)(j:i<n):(∃m,n≤m∧m<l.length∧Region.waitsFor .any l.toArray t m=true)∨wt l n i 9 t=true:=by
 simp only[z_,dA]at h;have a:=dh.1 h.1.2 t (gQ.2 f);simp only[Bool.or_eq_true,qW]at a;rcases a with (a|a)|a
 ·omega
 ·obtain⟨m,g,c⟩:=List.any_eq_true.1 a;simp only[dA,qW]at c;exact .inl ⟨m,c.1,gQ.1 g,c.2⟩
 ·exact .inr (dh.1 a i (gQ.2 j))
theorem Y0{m n:Nat}(a:listed.size=m)(h1:∀j,j<n→listed.getD j true=true)(h2:∀j,n≤j→j<m→listed.getD j true=false):listed=N_ m n:=by
 refine Array.ext (by simp[N_,a]) fun j c f=>?_
 have e:listed.getD j true=listed[j]:=by simp[c]
 rw[←e];simp only[N_,List.getElem_toArray,List.getElem_map,List.getElem_range];by_cases h:j<n
 ·rw[h1 j h,cO h]
 ·rw[h2 j om om,aZ h]
def vM(l:List Oper)(i:Nat):Nat:=((l[i]?).bind fun o=>o.dst).getD 0
structure HI(L:World→World→Prop)(l:List Oper)(n N:Nat)(a0:Act)(w0:World)(Φ:Nat→Value→World→Prop)(bk:Nat→Value→Option Nat)(listed:Array Bool)(a:Act)(w:World):Prop where
 ls:listed.size=l.length
 tl:∀t,n≤t→t<l.length→listed.getD t true=false
 sz:a.tmps.size=N
 df:a.defers=a0.defers
 bel:L w0 w
 old:∀t,(∀j,j<n→vM l j≠t)→a.tmps.getD t undef=a0.tmps.getD t undef
 val:∀j,j<n→listed.getD j true=true→Φ j (a.tmps.getD (vM l j) undef) w
 cl:∀j o e,j<n→listed.getD j true=true→l[j]? =some o→e∈o.after→Region.binds .any e=true→listed.getD e.on true=true
 sep:∀i j q,i<n→j<n→i≠j→listed.getD i true=true→listed.getD j true=true→bk i (a.tmps.getD (vM l i) undef)=some q→bk j (a.tmps.getD (vM l j) undef)≠some q
theorem Gs{d:Bool}(h:listed.getD k d=true):listed.getD k true=true:=by
 by_cases hk:k<listed.size
 ·simp[hk]at h ⊢;exact h
 ·simp[hk]
theorem VG{n:Nat}(H:∀j o e,j<n→listed.getD j true=true→l[j]? =some o→e∈o.after→Region.binds .any e=true→listed.getD e.on true=true):∀(f t:Nat) (o:Oper),l[t]? =some o→(∀e,e∈o.after→Region.binds .any e=true→listed.getD e.on true=true)→wt l n k f t=true→listed.getD k true=true:=by
 have dir:∀(t m:Nat) (o:Oper),l[t]? =some o→(∀e,e∈o.after→Region.binds .any e=true→listed.getD e.on true=true)→Region.waitsFor .any l.toArray t m=true→listed.getD m true=true:=fun t m o u h c=>by
  obtain⟨I,a,e,G,hb,A⟩:=Region.waitsFor_spec c;rw[oQ]at a;obtain rfl:I=o:=dS (a.symm.trans u);rw[←A];exact h e G hb
 intro f;induction f with
 |zero=>exact fun t o u h c=>dir t k o u h c
 |succ f L=>
  intro t o u h c;simp only[wt,Bool.or_eq_true]at c;rcases c with c|c
  ·exact dir t k o u h c
  ·obtain⟨m,M,g⟩:=List.any_eq_true.1 c;simp only[dA]at g;have C:=gQ.1 M;have E:=dir t m o u h g.1;cases F:l[m]? with
   |some p=>exact L m p F (fun e G hb=>H m p e C E F G hb) g.2
   |none=>
    exfalso;have y:=g.2;have:∀f,wt l n k f m=false:=fun f=>by
     have J:∀i,Region.waitsFor .any l.toArray m i=false:=fun i=>by
      cases z:Region.waitsFor .any l.toArray m i with
      |false=>rfl
      |true=>
       obtain⟨I,a,_⟩:=Region.waitsFor_spec z;rw[oQ,F]at a;cases a
     cases f with
     |zero=>exact J k
     |succ f=>simp[wt,J]
    rw[this]at y;cases y
def unl(n:Nat)(listed:Array Bool):Nat:=((List.range n).filter fun i=>!listed.getD i true).length
def Tt(l:List Oper)(n:Nat):Bool:=z_ l n&&((List.range n).all fun i=>((l[i]?).map fun o=>o.dst.isSome).getD false)
theorem or_if{c:Prop}[Decidable c]{A B C:Prop}(h:if c then A else C):if c then A∨B else C:=by
 by_cases hc:c
 ·rw[au hc]at h ⊢;exact .inl h
 ·rw[ah hc]at h ⊢;exact h
theorem vN{d:Nat}{b:Bool}(c:o.guard=some (j,want))(hd:(ops[j]?).bind (·.dst)=some d)(f:tmps.size=N)(h:tmps.getD d undef= .bool b)(hdN:d<N):Region.wanted o (yielded ops tmps)=(b==want):=by
 have a:tmps[d]? =some (.bool b):=by
  have hl:d<tmps.size:=om;rw[sF hl];simp only[lH,sF hl,jJ]at h;rw[h]
 unfold Region.wanted;rw[c];simp only[yielded,hd,Option.bind_some,a];cases b<;>cases want<;>rfl
theorem DU{d:Nat}{b:Bool}{X:Prop}(c:o.guard=some (j,want))(hd:(ops[j]?).bind (·.dst)=some d)(a:tmps.size=N)(h:tmps.getD d undef= .bool b)(hdN:d<N)(hb:(b==want)=true)(f:X):if Region.wanted o (yielded ops tmps)then X else Y:=by
 rw[vN c hd a h hdN,au hb];exact f
theorem DV{d:Nat}{b:Bool}{X:Prop}(c:o.guard=some (j,want))(hd:(ops[j]?).bind (·.dst)=some d)(a:tmps.size=N)(h:tmps.getD d undef= .bool b)(hdN:d<N)(hb:(b==want)=false)(f:Y):if Region.wanted o (yielded ops tmps)then X else Y:=by
 rw[vN c hd a h hdN,ah (by rw[hb];decide)];exact f
theorem xu{y:Nat→Option Bool}{X:Prop}(a:o.guard=none)(c:X):if Region.wanted o y then X else Y:=by
 rw[au (by unfold Region.wanted;rw[a])];exact c
def headB(l:List Oper)(n:Nat):Bool:=Tt l n&&((List.range n).all fun i=>((l[i]?).map fun o=>o.guard.isNone).getD false)
theorem Ip(I:Array Bool→Act→World→Prop)(L:World→World→Prop)(hL0:∀w,L w {w with drawn:=w.drawn+1})(hLt:∀a b c,L a b→L b c→L a c){n:Nat}{a0:Act}{w:World}(Φ:Nat→Value→World→Prop)(bk:Nat→Value→Option Nat)(hm:P.follows .mixedOrders=true)(hB:z_ l n=true)(hz:a0.tmps.size=N)(hN:((List.range n).all fun i=>decide (vM l i<N))=true)
 (hst:∀i v w w',i<n→Φ i v w→L w w'→Φ i v w') (hbk:∀i v w q,i<n→Φ i v w→bk i v=some q→q<w.heap.size)
 (hno:∀i o v v' w,i<n→l[i]? =some o→o.dst=none→Φ i v w→Φ i v' w∧bk i v'=none)
 (hI0:I (Array.replicate l.length false) a0 {w with drawn:=w.drawn+1})
 (hstep:∀i o a w1 listed,i<n→l[i]? =some o→listed.size=l.length→listed.getD i true=false→(∀e,e∈o.after→Region.binds .any e=true→listed.getD e.on true=true)→I listed a w1→a.tmps.size=N→L w w1→(∀t,(∀j,j<n→vM l j≠t)→a.tmps.getD t undef=a0.tmps.getD t undef)→(∀e,e∈o.after→Region.binds .any e=true→Φ e.on (a.tmps.getD (vM l e.on) undef) w1)→
   ∀K:Act→World→Prop,(∀v w',Φ i v w'→L w1 w'→(∀q,bk i v=some q→w1.heap.size≤q)→I (listed.setIfInBounds i true) (a.put o.dst v) w'→K (a.put o.dst v) w')→if Region.wanted o (yielded l.toArray a.tmps)then o.wp P a w1 K Q else K (a.put o.dst undef) w1)
 (hfin:∀a w1 listed,(∀j,j<n→listed.getD j true=true)→I listed a w1→a.tmps.size=N→a.defers=a0.defers→L w w1→(∀t,(∀j,j<n→vM l j≠t)→a.tmps.getD t undef=a0.tmps.getD t undef)→(∀j,j<n→Φ j (a.tmps.getD (vM l j) undef) w1)→(∀i j q,i<n→j<n→i≠j→bk i (a.tmps.getD (vM l i) undef)=some q→bk j (a.tmps.getD (vM l j) undef)≠some q)→wpList P l.toArray Q (l.drop n) a w1):(Code.region id l.toArray true).wp P Q a0 w:=by
 have hnl:=DT hB
 have hseq:=VF hB
 have dl:∀i o d,l[i]? =some o→o.dst=some d→vM l i=d:=fun i o d h1 G=>by simp[vM,h1,G]
 have key:∀(c:Nat) (listed:Array Bool) (a:Act) (w1:World),unl n listed=c→HI L l n N a0 w Φ bk listed a w1→I listed a w1→wpAny P .any l.toArray Q (c+(l.length-n)) listed a w1:=by
  intro c;induction c with
  |zero=>
   intro listed a w1 hc I hI;have all:∀j,j<n→listed.getD j true=true:=fun j g=>by
    cases hl:listed.getD j true with
    |true=>rfl
    |false=>
     have hm:j∈(List.range n).filter fun i=>!listed.getD i true:=List.mem_filter.2 ⟨gQ.2 g,by rw[hl];rfl⟩
     rw[nz hc]at hm;cases hm
   have e:=Y0 I.ls all I.tl;have:=wpAny_of_seq (md:= .any) (Q':=Q) (l.drop n) n listed a w1 (fun j=>by simp[uB]) (by rw[uM,e];exact hseq) (hfin a w1 listed all hI I.sz I.df I.bel I.old (fun j g=>I.val j g (all j g)) fun i j q M g f=>I.sep i j q M g f (all i M) (all j g));rw[uM]at this;rw[eY];exact this
  |succ c ih=>
   intro listed a w1 hc I hI;have hex:∃i,i<n∧listed.getD i true=false:=by
    have E:(List.range n).filter (fun i=>!listed.getD i true)≠[]:=fun h=>by
     unfold unl at hc;rw[h]at hc;cases hc
    obtain⟨i,M⟩:=List.exists_mem_of_ne_nil _ E;obtain⟨h1,G⟩:=List.mem_filter.1 M;exact⟨i,gQ.1 h1,by cases h:listed.getD i true with
     |false=>rfl
     |true=>rw[h]at G;cases G⟩
   have hlt:∀i,i∈Region.ready .any l.toArray listed→i<n:=fun i M=>by
    obtain⟨h1,o,G,h3⟩:=mem_ready.1 M;have hil:i<l.length:=by have:=(pW.1 G).1;simpa using this
    refine Nat.lt_of_not_le fun hni=>?_
    obtain⟨k,hk,hku⟩:=hex;rcases QA hB hni hil hk with ⟨m,hm,hml,hw⟩|hw
    ·obtain⟨oj,hoj,e,A,hb,hon⟩:=Region.waitsFor_spec hw;obtain rfl:oj=o:=dS (hoj.symm.trans G);have h5:=Gs (h3 e A hb);rw[hon,I.tl m hm hml]at h5;cases h5
    ·have h5:=VG I.cl 9 i o (by rw[oQ]at G;exact G) (fun e A hb=>Gs (h3 e A hb)) hw;rw[hku]at h5;cases h5
   have hrd:Region.ready .any l.toArray listed≠[]:=fun h=>by
    have:∀j,j<n→listed.getD j true=true:=fun j=>by
     induction j using Nat.strongRecOn with
     |_ j ihj=>
      intro g;cases hl:listed.getD j true with
      |true=>rfl
      |false=>
       obtain⟨o,ho,hbk',_⟩:=Aa hB g;have hm:j∈Region.ready .any l.toArray listed:=by
        refine mem_ready.2 ⟨hl,o,by rw[oQ];exact ho,fun e A hb=>?_⟩;have h1:=hbk' e A hb;have G:=ihj e.on h1 om;have hs:=I.ls;simp only[lH,sF (show e.on<listed.size by omega),jJ]at G ⊢;exact G
       rw[h]at hm;cases hm
    obtain⟨i,M,hu⟩:=hex;rw[this i M]at hu;cases hu
   rw[show c+1+(l.length-n)=(c+(l.length-n))+1 from om];refine⟨fun h=>absurd h hrd,fun i M=>?_⟩;have J:=hlt i M;obtain⟨h1,o,G,h3⟩:=mem_ready.1 M;rw[oQ]at G;obtain⟨o',C,hba,hdd'⟩:=Aa hB J;have:o'=o:=dS (C.symm.trans G);subst this;have hs:=I.ls;have lt:∀e,e∈o'.after→Region.binds .any e=true→listed.getD e.on true=true:=fun e A hb=>by
    have h4:=h3 e A hb;have h5:=hba e A hb;simp only[lH,sF (show e.on<listed.size by omega),jJ]at h4 ⊢;exact h4
   unfold wpOp;rw[oQ];simp only[C];refine or_if (hstep i o' a w1 listed J C hs h1 lt hI I.sz I.bel I.old (fun e A hb=>I.val e.on (by have:=hba e A hb;omega) (lt e A hb)) _ fun v w' hv hbw hnew hI'=>ih _ _ _ ?_ ?_ hI')
   ·have hx:unl n (listed.setIfInBounds i true)+1=unl n listed:=by
     unfold unl;have:∀L:List Nat,L.Nodup→i∈L→(L.filter fun j=>!(listed.setIfInBounds i true).getD j true).length+1=(L.filter fun j=>!listed.getD j true).length:=by
      intro L;induction L with
      |nil=>intro _ h;cases h
      |cons z L ihL=>
       intro hnd hm;have U:=List.nodup_cons.1 hnd;rcases dZ.1 hm with rfl|hm
       ·have e1:(!(listed.setIfInBounds i true).getD i true)=false:=by rw[vk,au ⟨rfl,om⟩];rfl
        have e2:(!listed.getD i true)=true:=by rw[h1];rfl
        have e3:(L.filter fun j=>!(listed.setIfInBounds i true).getD j true)=L.filter fun j=>!listed.getD j true:=List.filter_congr fun j g=>by
         rw[vk,ah (fun h:i=j∧i<listed.size=>U.1 (h.1▸g))]
        simp only[List.filter_cons,e1,e2,e3,if_true,aJ,if_false,dX]
       ·have hzi:i≠z:=fun h=>U.1 (h▸hm)
        have ih2:=ihL U.2 hm;have e1:(!(listed.setIfInBounds i true).getD z true)=!listed.getD z true:=by rw[vk,ah (fun h=>hzi h.1)]
        simp only[List.filter_cons,e1];split
        ·simp only[dX];omega
        ·exact ih2
     exact this _ List.nodup_range (gQ.2 J)
    omega
   ·have lm:∀k,listed.getD k true=true→(listed.setIfInBounds i true).getD k true=true:=fun k hk=>by rw[vk];split<;>first|rfl|exact hk
    have O:∀j,j≠i→(listed.setIfInBounds i true).getD j true=listed.getD j true:=fun j g=>by rw[vk,ah (fun h=>g h.1.symm)]
    have wB:L w w':=hLt _ _ _ I.bel hbw;cases hd:o'.dst with
    |none=>
     obtain⟨h7,h8⟩:Φ i (a.tmps.getD (vM l i) undef) w'∧bk i (a.tmps.getD (vM l i) undef)=none:=hno i o' v _ w' J C hd hv;refine⟨by simp[hs],fun t ht Z=>by rw[O t om];exact I.tl t ht Z,I.sz,I.df,wB,I.old,fun j g u=>?_,fun j p e g u hp A hb=>?_,fun x y q hx hy T H F=>?_⟩
     ·by_cases f:j=i
      ·subst f;exact h7
      ·rw[O j f]at u;exact hst j _ _ _ g (I.val j g u) hbw
     ·by_cases f:j=i
      ·subst f;obtain rfl:p=o':=dS (hp.symm.trans C);exact lm _ (lt e A hb)
      ·rw[O j f]at u;exact lm _ (I.cl j p e g u hp A hb)
     ·by_cases hxi:x=i
      ·subst hxi;intro hq;rw[show(a.put none v)=a from rfl,h8]at hq;cases hq
      ·rw[O x hxi]at H;by_cases hyi:y=i
       ·subst hyi;intro _ hq;rw[show(a.put none v)=a from rfl,h8]at hq;cases hq
       ·rw[O y hyi]at F;exact I.sep x y q hx hy T H F
    |some d=>
     obtain⟨hd0,hdd⟩:=hdd' d hd;have Y:vM l i=d:=dl i o' d C hd;have hdN:d<N:=by
      have:=dh.1 hN i (gQ.2 J);rw[Y]at this;exact of_decide_eq_true this
     have E:∀j,j<n→i≠j→vM l j≠d:=fun j g f=>by
      obtain⟨p,hp,_,_⟩:=Aa hB g;have h3:=hdd j p g f hp;cases hpd:p.dst with
      |none=>rw[show vM l j=0 by simp[vM,hp,hpd]];exact Ne.symm hd0
      |some dj=>
       rw[dl j p dj hp hpd];intro h;exact h3 (by rw[hpd,h])
     have hput:(a.put (some d) v).tmps=a.tmps.setIfInBounds d v:=rfl;have gi:(a.put (some d) v).tmps.getD d undef=v:=by rw[hput];exact iQ (by rw[I.sz];exact hdN)
     have gn:∀t,t≠d→(a.put (some d) v).tmps.getD t undef=a.tmps.getD t undef:=fun t ht=>by rw[hput];exact dM (Ne.symm ht)
     refine⟨by simp[hs],fun t ht Z=>by rw[O t om];exact I.tl t ht Z,by rw[hput];simp[I.sz],I.df,wB,fun t ht=>?_,fun j g u=>?_,fun j p e g u hp A hb=>?_,fun x y q hx hy T H F=>?_⟩
     ·have:t≠d:=fun h=>ht i J (by rw[Y,h])
      rw[gn t this];exact I.old t ht
     ·by_cases f:j=i
      ·subst f;rw[Y,gi];exact hv
      ·rw[O j f]at u;rw[gn _ (E j g (Ne.symm f))];exact hst j _ _ _ g (I.val j g u) hbw
     ·by_cases f:j=i
      ·subst f;obtain rfl:p=o':=dS (hp.symm.trans C);exact lm _ (lt e A hb)
      ·rw[O j f]at u;exact lm _ (I.cl j p e g u hp A hb)
     ·by_cases hxi:x=i
      ·subst hxi;have hyx:y≠x:=Ne.symm T;rw[O y hyx]at F;rw[Y,gi,gn _ (E y hy T)];intro hq hq2;have:=hnew q hq;have:=hbk y _ _ q hy (I.val y hy F) hq2;omega
      ·rw[O x hxi]at H;by_cases hyi:y=i
       ·subst hyi;rw[Y,gi,gn _ (E x hx (Ne.symm hxi))];intro hq hq2;have:=hnew q hq2;have:=hbk x _ _ q hx (I.val x hx H) hq;omega
       ·rw[O y hyi]at F;rw[gn _ (E x hx (Ne.symm hxi)),gn _ (E y hy (Ne.symm hyi))];exact I.sep x y q hx hy T H F
 refine wp_region_any hm ?_
 have e0:∀j,(Array.replicate l.length false).getD j true=decide (¬j<l.length):=fun j=>by
  by_cases h:j<l.length
  ·simp[h]
  ·simp[h]
 have c0:unl n (Array.replicate l.length false)=n:=by
  unfold unl;rw[List.filter_eq_self.2 fun j g=>by rw[e0,aZ (by have:=gQ.1 g;omega)];rfl,List.length_range]
 have:=key n (Array.replicate l.length false) a0 {w with drawn:=w.drawn+1} c0 ⟨sy,fun t _ Z=>(by rw[e0];exact aZ om),hz,rfl,hL0 _,fun _ _=>rfl,fun j g hl=>(by
  rw[e0,aZ om]at hl;cases hl),fun j p e g hl=>(by
  rw[e0,aZ om]at hl;cases hl),fun i j q M _ _ hl=>(by
  rw[e0,aZ om]at hl;cases hl)⟩ hI0
 rw[show n+(l.length-n)=l.toArray.size from by simp;omega]at this
 have hr:Array.replicate l.toArray.size false=Array.replicate l.length false:=sy
 rw[hr]
 exact this
theorem QB(L:World→World→Prop)(y:∀w,L w {w with drawn:=w.drawn+1})(u:∀a b c,L a b→L b c→L a c){n:Nat}{a0:Act}{w:World}(Φ:Nat→Value→World→Prop)(bk:Nat→Value→Option Nat)(hm:P.follows .mixedOrders=true)(F:z_ l n=true)(hz:a0.tmps.size=N)(E:((List.range n).all fun i=>decide (vM l i<N))=true)
 (f:∀i v w w',i<n→Φ i v w→L w w'→Φ i v w') (m:∀i v w q,i<n→Φ i v w→bk i v=some q→q<w.heap.size)
 (g:∀i o v z w,i<n→l[i]? =some o→o.dst=none→Φ i v w→Φ i z w∧bk i z=none)
 (hstep:∀i o a w1,i<n→l[i]? =some o→a.tmps.size=N→L w w1→(∀t,(∀j,j<n→vM l j≠t)→a.tmps.getD t undef=a0.tmps.getD t undef)→(∀e,e∈o.after→Region.binds .any e=true→Φ e.on (a.tmps.getD (vM l e.on) undef) w1)→
   ∀K:Act→World→Prop,(∀v w',Φ i v w'→L w1 w'→(∀q,bk i v=some q→w1.heap.size≤q)→K (a.put o.dst v) w')→if Region.wanted o (yielded l.toArray a.tmps)then o.wp P a w1 K Q else K (a.put o.dst undef) w1)
 (hfin:∀a w1,a.tmps.size=N→a.defers=a0.defers→L w w1→(∀t,(∀j,j<n→vM l j≠t)→a.tmps.getD t undef=a0.tmps.getD t undef)→(∀j,j<n→Φ j (a.tmps.getD (vM l j) undef) w1)→(∀i j q,i<n→j<n→i≠j→bk i (a.tmps.getD (vM l i) undef)=some q→bk j (a.tmps.getD (vM l j) undef)≠some q)→wpList P l.toArray Q (l.drop n) a w1):(Code.region id l.toArray true).wp P Q a0 w:=
 Ip (fun _ _ _=>True) L y u Φ bk hm F hz E f m g trivial (fun i o a w1 _ C A _ _ _ _ J I H G K hK=>hstep i o a w1 C A J I H G K fun v w' p q r=>hK v w' p q r trivial) fun a w1 _ _ _=>hfin a w1
theorem Iq{n:Nat}{a0:Act}{w:World}(Φ:Nat→Value→World→Prop)(bk:Nat→Value→Option Nat)(hm:P.follows .mixedOrders=true)(z:Tt l n=true)(hz:a0.tmps.size=N)(F:((List.range n).all fun i=>decide (vM l i<N))=true)
 (u:∀i v w w',i<n→Φ i v w→Below w.heap.size w w'→Φ i v w') (y:∀i v w q,i<n→Φ i v w→bk i v=some q→q<w.heap.size)
 (hstep:∀i o a w1,i<n→l[i]? =some o→a.tmps.size=N→Below w.heap.size w w1→(∀t,(∀j,j<n→vM l j≠t)→a.tmps.getD t undef=a0.tmps.getD t undef)→(∀e,e∈o.after→Region.binds .any e=true→Φ e.on (a.tmps.getD (vM l e.on) undef) w1)→
   ∀K:Act→World→Prop,(∀v w',Φ i v w'→Below w1.heap.size w1 w'→(∀q,bk i v=some q→w1.heap.size≤q)→K (a.put o.dst v) w')→if Region.wanted o (yielded l.toArray a.tmps)then o.wp P a w1 K Q else K (a.put o.dst undef) w1)
 (hfin:∀a w1,a.tmps.size=N→a.defers=a0.defers→Below w.heap.size w w1→(∀t,(∀j,j<n→vM l j≠t)→a.tmps.getD t undef=a0.tmps.getD t undef)→(∀j,j<n→Φ j (a.tmps.getD (vM l j) undef) w1)→(∀i j q,i<n→j<n→i≠j→bk i (a.tmps.getD (vM l i) undef)=some q→bk j (a.tmps.getD (vM l j) undef)≠some q)→wpList P l.toArray Q (l.drop n) a w1):(Code.region id l.toArray true).wp P Q a0 w:=by
 simp only[Tt,dA]at z
 refine QB (fun w w'=>Below w.heap.size w w') (fun w=>⟨rfl,rfl,rfl,aY _,fun _ _=>rfl⟩) (fun a b c f g=>⟨g.os.trans f.os,g.tape.trans f.tape,g.output.trans f.output,bK f.size g.size,fun q hq=>(g.block q (eu hq f.size)).trans (f.block q hq)⟩) Φ bk hm z.1 hz F u y (fun i o v G w C A E=>?_) hstep hfin
 have m:=dh.1 z.2 i (gQ.2 C)
 rw[A]at m
 simp only[kZ,jJ]at m
 rw[E]at m;cases m
end
section
open Go Go.RowKit Ab
def bz_DQ1Q:=an @wi<|an @aI<|an @aW<|an @aO<|an @aQ<|an @fZ<|an @di<|an @dR @dH
theorem wordO(a:List Nat)(w:Nat)(g:Wd a)(c:0<w)(u:w<18446744073709551616)(m:a.length≤1099511627776):
 aT 175 [.l 1 (W a),.i .u64 (w:Int)] (.to 49 1 (W (dg B (nv B a/w))) [.i .u64 ((nv B a%w:Nat):Int),.i .i64 0]):=by
 have f:=sZ (fl B a.length (nv B a/w)) (by rw[bH];omega)
 rw[xI B2 (cZ (fE _ _) (eP g))]at f
 refine fC.mkt aN a_ Tryz.func175 rfl (ac:=a175) kf rfl dc rfl dc ?_
 apply gm
 unfold a175
 conv in gc _ _=>reduce
 simp only[dw,eU,Int.reduceOfNat,Int.reduceNegSucc]
 have j:=E8 a w g c u m
 refine pJ (ai @bG @bz_DQ1Q) ?_
 exact⟨⟨_,_,rfl,rfl,rfl⟩,⟨rfl,rfl⟩,⟨rfl,rfl⟩,trivial⟩
end
section
open Go Go.RowKit Ab
def jF:=an @aQ<|an @aW<|an @aO<|an @aI<|an @fZ<|an @dR<|an @wi<|an @lu<|an @gG @di
theorem _root_.Go.Proofs.YtpopphdnlhihdaaGreatDoor.Ab.fC.mktn{P:Program}{J:World→Prop}(tN:P.follows .mixedOrders=true)(U:∀w e w',J w→bT w e w'→J w'){f:FuncId}{fn:Func}{c:Code}{ac:AC}{E:Nat}{ts:List Nat}{args:List V}{e sz:Nat}{rs:List V}(hf:P.funcs[f]? =some fn)(hb:fn.body=some c)(hc:jm P fn.ntmps c=some ac)(L:kR fn.results.toList=some (E::ts))(F:ts≠[])(O:Nat.ble args.length fn.ntmps=true)
 (M:0<sz)
 (hv:yY (fC P J) (mG P) ac (fun ex s=>match ex with| .normal| .ret=>s.get E= .nl∧iF s ts rs| .exit _=>False) (xW args)):fC P J f args (.to e sz [] rs):=by
 have hn:args.length≤fn.ntmps:=qY O
 refine⟨M,?_⟩
 intro w H vs hJ hT hH mf
 refine calls_of_wp hf hb ?_
 have hlen:vs.length=args.length:=mf.1
 have hsize:(vs.toArray++Array.replicate (fn.ntmps-vs.toArray.size) undef).size=fn.ntmps:=by simp;omega
 have mY:Conc w ⟨H,fun _=>False,[]⟩ w H (fun _=>none) fn.ntmps {tmps:=vs.toArray++Array.replicate (fn.ntmps-vs.toArray.size) undef,defers:=[]} (xW args):=by
  refine⟨⟨bT.refl _ _,hT,hH,fun b hb _=> .inl hb,fun id o h=>(by cases h),fun i j oi oj vi vj b hij h=>(by cases h)⟩,hsize,rfl,fun _ _ h=>(by cases h),fun t=>?_,fun _ _=>rfl⟩;show Rep w H (fun _=>none) _ (lk (eU 0 args) t);rw[vF];simp only[aG,if_true,Nat.sub_zero];by_cases ht:t<args.length
  ·have A:t<vs.length:=om;have:=mf.2 t vs[t] args[t] (bC A) (bC ht);simp only[lH,List.getD,bC ht,jJ];rw[Array.getElem?_append_left (by simpa using A)];simp only[oQ,bC A,jJ];exact .up this
  ·have:args.getD t V.any= .any:=by simp[List.getD,ng (Nat.le_of_not_lt ht)]
   rw[this];exact .any _
 have last:∀(m:St) (C:Nat→Prop) (g:Nat→Option Value) (y:Act) (w':World),(m.get E= .nl∧iF m ts rs)→Conc w ⟨H,fun _=>False,[]⟩ w' C g fn.ntmps y m→
  y.defers=[]∧∃r,(results fn y.tmps).run P w'= .ok r w'∧∃(u:Value) (us:List Value) (n:Nat) (xs:List Value) (N:Nat→Prop),Ending.returned r= .returned (.tuple (u::us).toArray)∧Below w.heap.size w w'∧w'.ownsRow w.heap.size e sz u n xs∧(∀b,N b→w.heap.size≤b∧b<w'.heap.size)∧(∀b,blk u=some b→¬N b)∧
   aB w' (fun b=>H b∨N b) xs []∧(∀x,x∈([]:List V)→x.cell=true)∧n≤maxLen∧aB w' (fun b=>H b∨N b) us rs:=by
  rintro m C g y w' ⟨h1,h3⟩ a
  have z:=a.env E
  rw[h1]at z
  have e1:=z.rq
  obtain⟨hl,up,I,hkey,mf⟩:=Ez a ts rs h3
  obtain⟨H1,kJ,G,T,Y⟩:=a.mem.freeze I
  have Q:∀b,H1 b→H b∨(H1 b∧w.heap.size≤b):=fun b hb=>by
   rcases dW b w.heap.size with h|h
   ·exact .inl ((G.low b hb h).resolve_right (fun h=>h))
   ·exact .inr ⟨hb,h⟩
  refine⟨a.I7,_,mV L _ _,y.tmps.getD E undef,ts.map fun t=>y.tmps.getD t undef,0,[],fun b=>H1 b∧w.heap.size≤b,?_,a.mem.bel.below (fun _ h=>h),by rw[e1];exact World.ownsRow_nil _ _ _ _,fun b hb=>⟨hb.2,G.Bo b hb.1⟩,fun b hb hN=>(by rw[e1]at hb;cases hb),⟨rfl,fun j v x h=>by simp at h⟩,fun x h=>by simp at h,aG _,⟨by simpa using hl,fun j v x Z h6=>?_⟩⟩
  ·match ts,F with
   |t1::ts',_=>rfl
  ·simp only[iU,jT]at Z;obtain⟨q,hq,rfl⟩:=Z;exact(mf H1 kJ.hH T j q x hq h6).mono Q (fun _ _=>rfl)
 refine wp_mono (nM (J:=J) (H0:=⟨H,fun _=>False,[]⟩) tN (fun w' hb=>U w _ w' hJ hb) c ac hc (fun _ _ h=>by cases h) _ _ _ w H (fun _=>none) mY hv) fun ex y w' hq=>?_
 cases ex with
 |normal=>obtain⟨m,C,g,z,a⟩:=hq;exact last m C g y w' z a
 |ret=>obtain⟨m,C,g,z,a⟩:=hq;exact last m C g y w' z a
 |exit i=>obtain⟨m,C,g,z,_⟩:=hq;exact z.elim
 |goto l=>exact hq.elim
 |panic ch=>exact hq.elim
 |outgrown=>exact hq.elim
theorem subO(a b:List Nat)(c:Wd a)(hb:Wd b)(g:a.length≤1099511627776)(f:b.length≤1099511627776):
 aT 166 [.l 1 (W a),.l 1 (W b)] (.to 49 1 (W (if nv B a<nv B b then[]else dg B (nv B a-nv B b))) [.i .i64 ((if nv B a<nv B b then 2 else 0:Nat):Int)]):=by
 by_cases h:nv B a<nv B b
 ·simp only[h,↓reduceIte,dR];refine fC.mktn aN a_ Tryz.func166 rfl (ac:=a166) kf rfl dc rfl dc ?_;apply gm;unfold a166;conv in gc _ _=>reduce
  simp only[dw,eU,Int.reduceOfNat,Int.reduceNegSucc];refine aX @jF ?_;try simp only[Sv,↓reduceIte,Nat.reduceEqDiff]
  refine ay (fun K hK=>?_);refine iw @jF ?_;refine yw @jF (yP a b c hb g f) ?_;refine iw @jF ?_;refine hK _ ?_;clear hK K;simp only[h,↓reduceIte];try (refine hK _ ?_;clear hK K)
  refine aX @jF ?_;exact⟨trivial,⟨rfl,rfl⟩,trivial⟩
 ·have j:(fl B (max a.length b.length) (nv B a+B^max a.length b.length-nv B b)).length≤1099511627776:=by rw[bH];omega
  have e:tz (fl B (max a.length b.length) (nv B a+B^max a.length b.length-nv B b))=dg B (nv B a-nv B b):=by
   have u:=eP c;have m:B^a.length≤B^max a.length b.length:=gX B0 om;rw[←xI B2 (n:=max a.length b.length) (by omega:nv B a-nv B b<_)];congr 1;exact jg B0 (by rw[show nv B a+B^max a.length b.length-nv B b=(nv B a-nv B b)+B^max a.length b.length from om,Nat.add_mod_right])
  have hown:=zK _ j;rw[e]at hown;simp only[h,↓reduceIte];refine fC.mkt aN a_ Tryz.func166 rfl (ac:=a166) kf rfl dc rfl dc ?_;apply gm;unfold a166;conv in gc _ _=>reduce
  simp only[dw,eU,Int.reduceOfNat,Int.reduceNegSucc];try (refine hK _ ?_;clear hK K)
  refine aX @jF ?_;try simp only[Sv,↓reduceIte,Nat.reduceEqDiff]
  refine ay (fun K hK=>?_);refine iw @jF ?_;refine yw @jF (yP a b c hb g f) ?_;refine iw @jF ?_;refine hK _ ?_;clear hK K;simp only[h,↓reduceIte];try (refine hK _ ?_;clear hK K)
  refine aX @jF ?_;try simp only[Sv,↓reduceIte,Nat.reduceEqDiff]
  refine ay (fun K hK=>?_);refine iw @jF ?_;refine yw @jF (hown) ?_;refine iw @jF ?_;refine hK _ ?_;clear hK K;try (refine hK _ ?_;clear hK K)
  refine aX @jF ?_;exact⟨⟨_,_,rfl,rfl,rfl⟩,⟨rfl,rfl⟩,trivial⟩
theorem diffO(a b:List Nat)(g:Wd a)(hb:Wd b)(f:a.length≤1099511627776)(c:b.length≤1099511627776):
 aT 138 [.l 1 (W a),.l 1 (W b)] (.to 49 1 (W (if nv B a<nv B b then dg B (nv B b-nv B a)else dg B (nv B a-nv B b))) [.b (decide (nv B a<nv B b))]):=by
 by_cases h:nv B a<nv B b
 ·simp only[h,↓reduceIte,decide_true];refine fC.mkt aN a_ Tryz.func138 rfl (ac:=a138) kf rfl dc rfl dc ?_;apply gm;unfold a138;conv in gc _ _=>reduce
  simp only[dw,eU,Int.reduceOfNat,Int.reduceNegSucc];refine aX @jF ?_;try simp only[Sv,↓reduceIte,Nat.reduceEqDiff]
  refine ay (fun K hK=>?_);refine iw @jF ?_;refine yw @jF (subO a b g hb f c) ?_;simp only[h,↓reduceIte,dR];refine iw @jF ?_;refine hK _ ?_;clear hK K;try (refine hK _ ?_;clear hK K)
  refine aX @jF ?_;try simp only[Sv,↓reduceIte,Nat.reduceEqDiff]
  refine ay (fun K hK=>?_);refine iw @jF ?_;refine yw @jF (subO b a hb g c f) ?_;simp only[show¬nv B b<nv B a from om,↓reduceIte];refine iw @jF ?_;refine hK _ ?_;clear hK K;try (refine hK _ ?_;clear hK K)
  refine aX @jF ?_;exact⟨⟨_,_,rfl,rfl,rfl⟩,⟨rfl,rfl⟩,trivial⟩
 ·simp only[h,↓reduceIte,decide_false];refine fC.mkt aN a_ Tryz.func138 rfl (ac:=a138) kf rfl dc rfl dc ?_;apply gm;unfold a138;conv in gc _ _=>reduce
  simp only[dw,eU,Int.reduceOfNat,Int.reduceNegSucc];try (refine hK _ ?_;clear hK K)
  refine aX @jF ?_;try simp only[Sv,↓reduceIte,Nat.reduceEqDiff]
  refine ay (fun K hK=>?_);refine iw @jF ?_;refine yw @jF (subO a b g hb f c) ?_;simp only[h,↓reduceIte];refine iw @jF ?_;refine hK _ ?_;clear hK K;try (refine hK _ ?_;clear hK K)
  refine aX @jF ?_;exact⟨⟨_,_,rfl,rfl,rfl⟩,⟨rfl,rfl⟩,trivial⟩
theorem shlO(a:List Nat)(n:Int)(g:Wd a)(z:a.length≤100000000000):aT 127 [.l 1 (W a),.i .i64 n] (.to 49 1 (W (Cb (nv B a) n).1) [.i .i64 (Cb (nv B a) n).2]):=by
 by_cases f:n<0∨1048576<n
 ·rw[show Cb (nv B a) n=([],3)from au f];simp only[dR];refine fC.mktn aN a_ Tryz.func127 rfl (ac:=a127) kf rfl dc rfl dc ?_;apply gm;unfold a127;conv in gc _ _=>reduce
  simp only[dw,eU,Int.reduceOfNat,Int.reduceNegSucc];by_cases c:n<0
  ·refine aX (ai @c @jF) ?_;exact⟨trivial,⟨rfl,rfl⟩,trivial⟩
  ·have j:1048576<n:=f.resolve_left c;refine aX (ai @j<|ai @c @jF) ?_;exact⟨trivial,⟨rfl,rfl⟩,trivial⟩
 ·have c:¬n<0:=fun h=>f (.inl h)
  have j:¬1048576<n:=fun h=>f (.inr h)
  rw[show Cb (nv B a) n=(dg B (nv B a*2^n.toNat),0)from ah om];obtain⟨k,rfl⟩:∃k:Nat,n=(k:Int):=⟨n.toNat,om⟩;have lt:=r_ a;have lo:=Hl (tz a) k;have e:nv B (qg (tz a) k)=nv B a*2^k:=by rw[Ju (xJ g),wX]
  refine fC.mkt aN a_ Tryz.func127 rfl (ac:=a127) kf rfl dc rfl dc ?_;apply gm;unfold a127;conv in gc _ _=>reduce
  simp only[dw,eU,Int.reduceOfNat,Int.reduceNegSucc];have y:=vI a om;have u:=DD (tz a) k (xJ g) om om;have m:=Hr (qg (tz a) k) (Jt (xJ g) k) om;refine pJ (ai @e<|ai @j<|ai @c @jF) ?_;exact⟨⟨_,_,rfl,rfl,rfl⟩,⟨rfl,rfl⟩,trivial⟩
theorem shrO(a:List Nat)(n:Int)(c:Wd a)(j:a.length≤100000000000)(m:n<9223372036854775808):aT 192 [.l 1 (W a),.i .i64 n] (.to 49 1 (W (I9 (nv B a) n).1) [.i .i64 (I9 (nv B a) n).2]):=by
 by_cases h1:n<0
 ·rw[show I9 (nv B a) n=([],3)from au h1];simp only[dR];refine fC.mktn aN a_ Tryz.func192 rfl (ac:=a192) kf rfl dc rfl dc ?_;apply gm;unfold a192;conv in gc _ _=>reduce
  simp only[dw,eU,Int.reduceOfNat,Int.reduceNegSucc];refine aX (ai @h1 @jF) ?_;exact⟨trivial,⟨rfl,rfl⟩,trivial⟩
 ·rw[show I9 (nv B a) n=(dg B (nv B a/2^n.toNat),0)from ah h1];obtain⟨k,rfl⟩:∃k:Nat,n=(k:Int):=⟨n.toNat,om⟩;have e:nv B (fl B (a.length-k/64) (nv B a/2^k))=nv B a/2^k:=by
   rw[qj,bD];rw[ED,←lZ];refine cZ (fE _ _) ?_;rcases dW a.length (k/64)with h|h
   ·rw[jQ (eu (eP c) (gX B0 om))];exact bg B0
   ·rw[fP (bg B0),←dn,show a.length-k/64+k/64=a.length from om];exact eP c
  refine fC.mkt aN a_ Tryz.func192 rfl (ac:=a192) kf rfl dc rfl dc ?_;apply gm;unfold a192;conv in gc _ _=>reduce
  simp only[dw,eU,Int.reduceOfNat,Int.reduceNegSucc];have g:=DF a k c om om;have f:=Hr (fl B (a.length-k/64) (nv B a/2^k)) (oN B0 _ _) (by rw[bH];omega);refine pJ (ai @e<|ai @h1 @jF) ?_;exact⟨⟨_,_,rfl,rfl,rfl⟩,⟨rfl,rfl⟩,trivial⟩
end
section
open Go Go.RowKit Ab
def ig:=an @wi<|an @aI<|an @aW<|an @aO<|an @aQ<|an @fZ @di
def twoK(A1 A2:List Nat)(s:St):Prop:=∃i j n m,i≠j∧s.get 4= .ow 1 i n∧s.get 5= .ow 1 j m∧s.ob i=some ⟨49,1,W A1,true,false⟩∧s.ob j=some ⟨49,1,W A2,true,false⟩
theorem QC(a b:List Nat)(ha:Wd a)(hb:Wd b)(la:a.length≤1000000000)(h2:2≤b.length)(hab:b.length≤a.length)(htop:b.getD (b.length-1) 0≠0):
 yY aT (mG Tryz.prog) a176 (fun ex s=>(ex= .normal∨ex= .ret)∧twoK (dg B (nv B a/nv B b)) (dg B (nv B a%nv B b)) s) ⟨[(0,.l 1 (W a)),(1,.l 1 (W b))],[],0⟩:=by
 have hbt:=fV hb (b.length-1)
 obtain⟨n1,n2,n3⟩:=SY hb om htop
 have hlz:=EI (b.getD (b.length-1) 0) hbt
 have hs64:64-bl (b.getD (b.length-1) 0)≤64:=om
 have KI:=wz b ((64-bl (b.getD (b.length-1) 0):Nat):Int) hb om
 have Qh:=wz a ((64-bl (b.getD (b.length-1) 0):Nat):Int) ha om
 rw[Cb,ah om,aI]at KI Qh
 have hA:=eP ha
 have L:=EE (U:=nv B a) (y:=nv B b) (s:=64-bl (b.getD (b.length-1) 0))
 have Ce:=NL (s:=64-bl (b.getD (b.length-1) 0)) hab om hA n3
 have T:nv B a*2^(64-bl (b.getD (b.length-1) 0))<B^(a.length+1):=by
  have h64:2^(64-bl (b.getD (b.length-1) 0))≤B:=gX (n:=2) dc hs64;rw[dO];exact eu ((Nat.mul_lt_mul_right (t_ _)).2 hA) (iZ _ h64)
 generalize 64-bl (b.getD (b.length-1) 0)=s at*
 obtain⟨n,hn⟩:∃n,n=b.length:=⟨_,rfl⟩
 obtain⟨m,hm⟩:∃m,m=a.length:=⟨_,rfl⟩
 obtain⟨f,hVs⟩:∃v,v=nv B b*2^s:=⟨_,rfl⟩
 obtain⟨u,hAe⟩:∃v,v=nv B a*2^s:=⟨_,rfl⟩
 rw[←hVs,←hn]at n1 n2
 rw[←hVs]at KI L Ce
 rw[←hAe]at Qh L T Ce
 rw[←hm]at T Ce
 rw[←hn]at Ce
 have hvl:dg B f=fl B n f:=(CX dc (.inr n1) n2).symm
 rw[hvl]at KI
 have hupl:=BK (by decide:2≤B) T
 have MI:[dg B u,List.replicate (m+1-(dg B u).length) 0].flatten=fl B (m+1) u:=by
  rw[←Ym T];simp
 have hcon:=E_ [dg B u,List.replicate (m+1-(dg B u).length) 0] sy (by rw[MI,bH];omega)
 rw[MI]at hcon
 have hlu:(fl B (m+1) u).length=m+1:=bH _ _
 have I:(fl B n f).length=n:=bH _ _
 have HY:((m:Int)+1-((dg B u).length:Int)).toNat=m+1-(dg B u).length:=om
 have hge:(0:Int)≤(m:Int)+1-((dg B u).length:Int):=om
 apply gm
 unfold a176
 conv in gc _ _=>reduce
 simp only[dw,eU,Int.reduceOfNat,Int.reduceNegSucc]
 have hQ1:((m:Int)+1-(n:Int)).toNat=m+1-n:=om
 have hQ0:(0:Int)≤(m:Int)+1-(n:Int):=om
 repeat first|(refine hK _ ?_;clear hK K)|simp only[Sv,↓reduceIte,Nat.reduceEqDiff]|((first|refine ay (fun K hK=>?_)|refine ax (fun K hK=>?_)|refine ak (fun K hK=>?_));refine iw (ai @zf (ai (Eq.symm hn) (ai @dH @ig))) ?_)
 refine qc _ _ (hlz) ?_ ?_
 ·exact OJ (ai @zf (ai (Eq.symm hn) (ai @dH @ig)))
 refine iw (ai @zf (ai (Eq.symm hn) (ai @dH @ig))) ?_
 repeat first|(refine hK _ ?_;clear hK K)|simp only[Sv,↓reduceIte,Nat.reduceEqDiff]|((first|refine ay (fun K hK=>?_)|refine ax (fun K hK=>?_)|refine ak (fun K hK=>?_));refine iw @ig ?_)
 refine qc _ _ (KI) ?_ ?_
 ·exact OJ @ig
 refine iw @ig ?_
 repeat first|(refine hK _ ?_;clear hK K)|simp only[Sv,↓reduceIte,Nat.reduceEqDiff]|((first|refine ay (fun K hK=>?_)|refine ax (fun K hK=>?_)|refine ak (fun K hK=>?_));refine iw @ig ?_)
 refine qc _ _ (Qh) ?_ ?_
 ·exact OJ @ig
 refine iw @ig ?_
 repeat first|(refine hK _ ?_;clear hK K)|simp only[Sv,↓reduceIte,Nat.reduceEqDiff]|((first|refine ay (fun K hK=>?_)|refine ax (fun K hK=>?_)|refine ak (fun K hK=>?_));refine iw (ai @EF<|ai @HY (ai (Eq.symm hm) @ig)) ?_)
 refine qc _ _ (hcon) ?_ ?_
 ·exact OJ (ai @EF<|ai @HY (ai (Eq.symm hm) @ig))
 refine iw (ai @EF<|ai @HY (ai (Eq.symm hm) @ig)) ?_
 try (refine hK _ ?_;clear hK K)
 refine aX (ai @EF<|ai @hQ1<|ai @hlu @ig) ?_
 have H:0<f:=eu (bg dc) n1
 refine aF [] Nat (fun i=>⟨[(6,.i .i64 (n:Int)),(7,.i .i64 (s:Int)),(8,.l 1 (W (fl B n f))),(12,.ow 1 0 (m+1)),(13,.ow 1 1 (m+1-n)),(14,.i .i64 ((i:Int)-1))],
  [(0,some ⟨49,1,W (uL u f m n i),true,false⟩),(1,some ⟨49,1,W (qL u f (m+1-n) i),true,false⟩)],2⟩)
  (fun i=>i≤m+1-n) (fun i=>i) (m+1-n) (aY _) (by exact oL) (by
  refine tV trivial ?_
  refine⟨om,?_,?_⟩
  ·rw[←Yo om Ce]
  ·unfold qL;rw[gW,jQ Ce];simp[fl]) ?_
 intro i hi Q' hQ he hr
 cases i with
 |zero=>
  have hu0:(uL u f m n 0).take n=fl B n (u%f):=by
   unfold uL;rw[Nat.pow_zero,aW,fl,uQ,RI (by rw[bH];exact aY _),jB (by rw[bH];exact aY _)]
  have hul:(uL u f m n 0).length=m+1:=by unfold uL;rw[bZ,bZ,bH,bH,nS];omega
  have hq0:qL u f (m+1-n) 0=fl B (m+1-n) (u/f):=by unfold qL;rw[Nat.pow_zero,aW];rfl
  have hRn:u%f<B^n:=oh (cu _ H) n2;have hQb:u/f<B^(m+1-n):=by
   refine(fP H).2 ?_;rw[bV];exact(fP (bg dc)).1 Ce
  have hsh:=shrO (fl B n (u%f)) (s:Int) (oN dc _ _) (by rw[bH];omega) om;rw[I9,ah om,aI,qj,bD hRn,L.2]at hsh;have hno:=sZ (fl B (m+1-n) (u/f)) (by rw[bH];omega);rw[xI (by decide:2≤B) hQb]at hno;try (refine hK _ ?_;clear hK K)
  refine aX @ig ?_;refine he _ _ ?_;rw[hq0,←L.1];try (refine hK _ ?_;clear hK K)
  refine pJ (ai @hu0<|ai @mW<|ai @hul @ig) ?_;exact⟨.inr trivial,_,_,_,_,dc,rfl,rfl,rfl,rfl⟩
 |succ j=>
  have hj:(((j+1:Nat):Int)-1)=(j:Int):=om;have J_:n≤1099511627776:=om;have hnm:n≤m+1-j:=om;have hjm:j+1+n≤m+1:=om;have hx:u/B^j%B<B:=cu _ dc;have hR:u/B^(j+1)%f<f:=cu _ H;have e0:u/B^j=u/B^j%B+B*(u/B^(j+1)):=by
   rw[dO,←lZ];have:=qo (u/B^j) B;omega
  obtain⟨s1,s2,s3,s4⟩:=zM (V:=u/B^(j+1)) H hx;rw[←e0]at s1 s2 s3;rw[Yp];have hUlt:u/B^(j+1)%f*B+u/B^j%B<f*B:=by
   have:=kF B (show u/B^(j+1)%f+1≤f from hR);rw[kQ,iV]at this;omega
  obtain⟨U,hU⟩:∃U,U=u/B^(j+1)%f*B+u/B^j%B:=⟨_,rfl⟩;rw[←hU]at s1 s3 s4 hUlt ⊢;have E:(fl B j u).length=j:=bH _ _;have F:(fl B n U).length=n:=bH _ _;have hUB:U<B^n*B:=eu hUlt (kF B (qC n2));have htB:U/B^n<B:=(fP (bg dc)).2 (by rw[bV];exact hUB);have G:U/B^n%B=U/B^n:=bD htB;obtain⟨k,hk⟩:∃k,n=k+2:=⟨n-2,om⟩;generalize hZ:List.replicate (m+1-(j+1)-n) 0=Z;have hZl:=congrArg List.length hZ;rw[nS]at hZl;have w0:=xk (t:=U/B^n%B) (Z:=Z) E F;have w1:=AQ (t:=U/B^n%B) (Z:=Z) E F;have w2:=Gg (t:=U/B^n%B) (Z:=Z) E F (k:=n-1) om (i:=j+(n-1)) rfl;have w3:=Gg (t:=U/B^n%B) (Z:=Z) E F (k:=n-2) om (i:=j+(n-2)) rfl;have w4:=Gi (t:=U/B^n%B) (Z:=Z) E F;rw[Cc _ _ _ om]at w2 w3;have v1:=Cc (b:=B) n f (n-1) om;have v2:=Cc (b:=B) n f (n-2) om;have N:n-1=k+1:=om;have M:n-2=k:=om;rw[N]at w2 v1 n1;rw[M]at w3 v2;have ml:∀z:Nat,z%B<18446744073709551616:=fun z=>cu z dc
  have hv1:f/B^(k+1)<B:=(fP (bg dc)).2 (by rw[←Nat.pow_succ',show(k+1).succ=n from om];exact n2);have Yv:f/B^(k+1)%B=f/B^(k+1):=bD hv1;have q1:U/B^n%B≤f/B^(k+1)%B:=by
   rw[G,Yv,hk,dO,bV,←lZ];refine Nat.div_le_div_right ?_;exact qC ((fP dc).2 hUlt)
  have q2:0<f/B^(k+1)%B:=by
   rw[Yv];exact(rZ (bg dc)).2 (by rw[iV];exact n1)
  have gs:=Hy (U/B^n%B) (U/B^(k+1)%B) (U/B^k%B) (f/B^(k+1)%B) (f/B^k%B) q1 q2 (ml _) (ml _) (ml _) (ml _);have t1:(U/B^n%B*18446744073709551616+U/B^(k+1)%B)*18446744073709551616+U/B^k%B=U/B^k:=by
   rw[G,hk];exact Yj
  have t2:f/B^(k+1)%B*18446744073709551616+f/B^k%B=f/B^k:=SX (by rw[←hk];exact n2);rw[t1,t2]at gs;have hVk:B≤f/B^k:=(rZ (bg dc)).2 (by rw[←Nat.pow_succ'];exact n1);obtain⟨kg1,kg2⟩:=NK (bg (by decide:0<B):0<B^k) hUlt hVk;have gB:min 18446744073709551615 (U/B^k/(f/B^k))<18446744073709551616:=om;obtain⟨g,hg⟩:∃g,g=min 18446744073709551615 (U/B^k/(f/B^k)):=⟨_,rfl⟩;rw[←hg]at gs gB;have Y:U/f≤g:=by rw[hg];exact kg1
  have kg2':g≤U/f+1:=by rw[hg];exact kg2
  have hj0:(0:Int)≤(j:Int):=om;repeat first|(refine hK _ ?_;clear hK K)|simp only[Sv,↓reduceIte,Nat.reduceEqDiff]|((first|refine ay (fun K hK=>?_)|refine ax (fun K hK=>?_)|refine ak (fun K hK=>?_));refine iw (ai @JA<|ai @zf<|ai @I<|ai @M<|ai @N<|ai @v2<|ai @v1<|ai @w3<|ai @w2<|ai @w1<|ai @dH<|ai @yg<|ai @yf<|ai @jq<|ai @w0<|ai @hj0<|ai @hj @ig) ?_)
  refine qc _ _ (gs) ?_ ?_
  ·exact OJ (ai @JA<|ai @zf<|ai @I<|ai @M<|ai @N<|ai @v2<|ai @v1<|ai @w3<|ai @w2<|ai @w1<|ai @dH<|ai @yg<|ai @yf<|ai @jq<|ai @w0<|ai @hj0<|ai @hj @ig)
  refine iw (ai @JA<|ai @zf<|ai @I<|ai @M<|ai @N<|ai @v2<|ai @v1<|ai @w3<|ai @w2<|ai @w1<|ai @dH<|ai @yg<|ai @yf<|ai @jq<|ai @w0<|ai @hj0<|ai @hj @ig) ?_;have hvd:nv B (fl B n f)=f:=by rw[qj,bD n2]
  have O:=E5 (fl B n U) (fl B n f) g (oN dc _ _) (oN dc _ _) gB om om;rw[hvd,qj,F]at O;obtain⟨m1,m2⟩:=Yn (A:=U%B^n) (V:=f) (w:=g) (P:=B^n) (cu _ (bg dc));obtain⟨c,hc⟩:∃c,c=Ve (U%B^n) f g (B^n):=⟨_,rfl⟩;rw[←hc]at O m1 m2;obtain⟨o,ho⟩:∃o,o=U%B^n+B^n*c-f*g:=⟨_,rfl⟩;rw[←ho]at O m1 m2;have hcg:=SN n2 (cu U (bg dc)) m1 m2;obtain⟨ks1,ks2⟩:=Yi (cu U (bg dc)) (Nat.mod_add_div U (B^n)).symm n2 H Y kg2' m1 m2;have w5:=DK (t:=U/B^n%B) (Z:=Z) E F;have C:(fl B n o).length=n:=bH _ _;have Yw:=KF (A:=fl B n U) (R:=fl B n o) (Z:=Z) (t:=U/B^n%B) E (by rw[F,C]);have w6:=xk (t:=U/B^n%B) (Z:=Z) E C;have w7:=AQ (t:=U/B^n%B) (Z:=Z) E C;have w8:=fun t'=>Gj (t:=U/B^n%B) (Z:=Z) E C t'
  repeat first|(refine hK _ ?_;clear hK K)|simp only[Sv,↓reduceIte,Nat.reduceEqDiff]|((first|refine ay (fun K hK=>?_)|refine ax (fun K hK=>?_)|refine ak (fun K hK=>?_));refine iw (ai @qX<|ai @w5<|ai @mW<|ai @yO<|ai @w0<|ai @jq<|ai @hj @ig) ?_)
  refine qc _ _ (O) ?_ ?_
  ·exact OJ (ai @qX<|ai @w5<|ai @mW<|ai @yO<|ai @w0<|ai @jq<|ai @hj @ig)
  refine iw (ai @qX<|ai @w5<|ai @mW<|ai @yO<|ai @w0<|ai @jq<|ai @hj @ig) ?_;repeat first|(refine hK _ ?_;clear hK K)|simp only[Sv,↓reduceIte,Nat.reduceEqDiff]|((first|refine ay (fun K hK=>?_)|refine ax (fun K hK=>?_)|refine ak (fun K hK=>?_));refine iw (ai @w1<|ai @dH<|ai @jq<|ai @w0 @ig) ?_)
  refine uG _ (F9 (U/B^n%B) c om) ?_;refine iw (ai @w1<|ai @dH<|ai @jq<|ai @w0 @ig) ?_;have htk:(fl B n o).take (m+1-j)=fl B n o:=jB om;have hql:=Yq (As:=u) (Vs:=f) (Q:=m+1-n) hi;have Uj:=fun d h=>Yr (As:=u) (Vs:=f) (d:=d) hi h s2
  rw[s1]at Uj;by_cases hcase:c≤U/B^n
  ·obtain⟨z1,z2,z3⟩:=ks1 hcase;have hun:(if U/B^n%B<c then 1 else 0:Nat)=0:=ah (by rw[G];omega);have Yx:(U/B^n%B+18446744073709551616-c)%18446744073709551616=0:=by rw[G,z2,qX]
   have hq2:=Uj g z1.symm;have hlow:=KG (As:=u) (Vs:=f) (m:=m) (n:=n) (j:=j) om o (by rw[s3,z3]);rw[hZ]at hlow;try (refine hK _ ?_;clear hK K)
   refine aX (ai @hq2<|ai @ny<|ai @hql<|ai @hlow<|ai @w8<|ai @KH<|ai @Yw<|ai @htk<|ai @mW<|ai @jq<|ai @w6<|ai @w0<|ai @Yx<|ai @hun<|ai @hj @ig) ?_;refine hQ _ j om om ?_;exact lC
  ·obtain⟨z1,z2,z3⟩:=ks2 (Nat.lt_of_not_le hcase);have hun:(if U/B^n%B<c then 1 else 0:Nat)=1:=by rw[G];exact kn_un _ _ z2
   have Yy:(U/B^n%B+18446744073709551616-c)%18446744073709551616=18446744073709551615:=by rw[G];exact kn_m1 _ _ z2
   have hd1:((g:Nat):Int)-1=((U/f:Nat):Int):=kn_d1 _ _ z1;have hRB:U%f<B^n:=oh (cu _ H) n2;have had:=B_ (fl B n o) (fl B n f) (oN dc _ _) (oN dc _ _) (by rw[C];exact J_) (by rw[I];exact J_);rw[qj (b:=B) n o,bD m1,hvd,C,I,Nat.max_self,z3,Nat.add_div_right _ (bg dc),jQ hRB,jg (by decide:0<B) (show(U%f+B^n)%B^n=(U%f)%B^n by rw[Nat.add_mod_right])]at had;have w9:=xk (t:=18446744073709551615) (Z:=Z) E C;have w10:=Gi (t:=18446744073709551615) (Z:=Z) E C;have hwu:IntKind.wrap .u64 ((U/f:Nat):Int)=((U/f:Nat):Int):=wuN _ (cZ Y gB);have w14:=DK (t:=18446744073709551615) (Z:=Z) E C;have J:(fl B n (U%f)).length=n:=bH _ _;have Yz:=KF (A:=fl B n o) (R:=fl B n (U%f)) (Z:=Z) (t:=18446744073709551615) E (by rw[J,C]);have w11:=AQ (t:=18446744073709551615) (Z:=Z) E J;have w12:=xk (t:=18446744073709551615) (Z:=Z) E J;have w13:=fun t'=>Gj (t:=18446744073709551615) (Z:=Z) E J t'
   have htk2:(fl B n (U%f)).take (m+1-j)=fl B n (U%f):=jB (by rw[J];exact hnm);have hq2:=Uj (U/f) rfl;have hlow:=KG (As:=u) (Vs:=f) (m:=m) (n:=n) (j:=j) hjm (U%f) s3;rw[hZ]at hlow;try (refine hK _ ?_;clear hK K)
   refine pJ (ai @hq2<|ai @ny<|ai @hql<|ai @hlow<|ai @w13<|ai @KH<|ai @wrapM<|ai @w11<|ai @Yz<|ai @htk2<|ai @dH<|ai @w12<|ai @hwu<|ai @hd1<|ai @qX<|ai @w14<|ai @w10<|ai @w9<|ai @w8<|ai @Yu<|ai @Yw<|ai @htk<|ai @yO<|ai @mW<|ai @jq<|ai @w6<|ai @w0<|ai @Yy<|ai @hun<|ai @hj @ig) ?_;refine hQ _ j (Nat.le_of_succ_le hi) (Nat.lt_succ_self j) ?_;exact lC
end
section
open Go Go.RowKit Go.Proofs Ab
theorem DW{w0 w:World}{H0:HS}{H:Nat→Prop}{ov:Nat→Option Value}{N:Nat}{a:Act}{s:St}{t i n e sz:Nat}{cs:List V}(A:Conc w0 H0 w H ov N a s)(g:s.get t= .ow sz i n)(F:s.ob i=some ⟨e,sz,cs,true,false⟩):
 ∃xs,w.ownsRow 0 e sz (a.tmps.getD t undef) n xs∧aB w H xs cs∧ov i=some (a.tmps.getD t undef)∧∀q,(a.tmps.getD t undef).ownBlock=some q→¬H q∧(w0.heap.size≤q∨H0.e q):=by
 have z:=A.env t
 rw[g]at z
 generalize a.tmps.getD t undef=v at*
 obtain⟨Q,cap,e1,f,M,I,O⟩:=z.jK
 obtain⟨u,y,c⟩:=A.mem.obj i _ F
 rw[f]at y;cases y
 rcases c.bd with ⟨L,_⟩|⟨_,_,E,xs,hown,l,G⟩
 ·cases L
 ·have hb:=xE hown;have m:E=n:=by
   rcases hown.2 with ⟨j,J⟩|⟨P,C,cur,j,_⟩
   ·rw[e1]at j;cases j;exact J
   ·rw[e1]at j;cases j;rfl
  subst m;exact⟨xs,hown,l,f,fun q hq=>⟨fun h=>(by have:=(c.fz q (hb▸hq)).1 h;cases this),c.ow q (hb▸hq)⟩⟩
def TwoR(w:World)(A1 A2:List Nat)(e:Ending)(w':World):Prop:=
 ∃(v1 v2:Value) (n1 n2:Nat),e= .returned (.tuple #[v1,v2])∧Below w.heap.size w w'∧w'.ownsRow w.heap.size 49 1 v1 n1 (Wv A1)∧w'.ownsRow w.heap.size 49 1 v2 n2 (Wv A2)∧∀q,v1.ownBlock=some q→v2.ownBlock≠some q
theorem VH{w:World}{C A:Value}{a b:List Nat}{Y:Nat→Prop}(hJ:TO w)(hHlt0:∀q,Y q→q<w.heap.size)(z:Rep0 w Y C (.l 1 (W a)))(y:Rep0 w Y A (.l 1 (W b)))(ha:Wd a)(hb:Wd b)(la:a.length≤1000000000)(h2:2≤b.length)(P:b.length≤a.length)(htop:b.getD (b.length-1) 0≠0):
 Calls Tryz.prog 176 #[C,A] w (TwoR w (dg B (nv B a/nv B b)) (dg B (nv B a%nv B b))):=by
 have L:Rep0 w (fun q=>q<w.heap.size) C (.l 1 (W a)):=z.mono hHlt0 fun _ _=>rfl
 have I:Rep0 w (fun q=>q<w.heap.size) A (.l 1 (W b)):=y.mono hHlt0 fun _ _=>rfl
 have hHlt:∀q,q<w.heap.size→q<w.heap.size:=fun _ h=>h
 refine VZ Tryz.func176 rfl (vs:=[C,A]) (by show 2≤_;decide) (H:=fun q=>q<w.heap.size) (E:=fun _=>False) (ks:=[]) (ov0:=fun _=>none)
  (s0:=⟨[(0,.l 1 (W a)),(1,.l 1 (W b))],[],0⟩) ⟨bT.refl _ _,hJ,hHlt,fun b h _=> .inl h,fun id o h=>(by cases h),fun i j oi oj vi vj q _ h=>(by cases h)⟩ (fun m v h=>by cases h) (fun k M=>?env) (fun k M=>?rest) (fun _ _=>rfl) (fun act mY=>?_)
 case env=>
  match k,M with
  |0,_=>exact .base L
  |1,_=>exact .base I
 case rest=>
  match k,M with
  |k+2,_=>rfl
 refine wp_mono (nM (J:=J0) (w0:=w) (N:=Tryz.f176.ntmps) aN (fun w' _=>trivial) _ a176 kf (fun m v h=>by cases h) _ _ act w _ _ mY (QC a b ha hb la h2 P htop)) fun ex Q w' hq=>?_
 generalize dg B (nv B a/nv B b)=A1 at*
 generalize dg B (nv B a%nv B b)=A2 at*
 have last:∀(g:St) (u:Nat→Prop) (f:Nat→Option Value),twoK A1 A2 g→Conc w ⟨fun q=>q<w.heap.size,fun _=>False,[]⟩ w' u f Tryz.f176.ntmps Q g→
  Q.defers=[]∧∃r,(results Tryz.f176 Q.tmps).run Tryz.prog w'= .ok r w'∧TwoR w A1 A2 (.returned r) w':=by
  rintro g u f ⟨i,j,m1,m2,O,g4,g5,o4,Z⟩ c
  have hB:Below w.heap.size w w':=c.mem.bel.below (fun _ h=>h)
  refine⟨c.I7,_,mV (show kR Tryz.f176.results.toList=some [4,5]from rfl) _ _,?_⟩
  obtain⟨x1,U,R1,V1,B1⟩:=DW c g4 o4
  obtain⟨x2,T,R2,V2,B2⟩:=DW c g5 Z
  have G:=N8 R1
  have F:=N8 R2
  subst G
  subst F
  refine⟨_,_,m1,m2,rfl,hB,ownB U (fun q hq=>(B1 q (xE U▸hq)).2.elim id False.elim),ownB T (fun q hq=>(B2 q (xE T▸hq)).2.elim id False.elim),fun q hq=>?_⟩
  have:=c.mem.sep i j _ _ _ _ q O o4 Z V1 V2 (by rw[xE U];exact hq)
  rwa[xE T]at this
 cases ex with
 |normal=>obtain⟨g,u,f,hq,c⟩:=hq;exact⟨.inl rfl,last g u f hq.2 c⟩
 |ret=>obtain⟨g,u,f,hq,c⟩:=hq;exact⟨.inr rfl,last g u f hq.2 c⟩
 |exit i=>obtain⟨g,u,f,hq,c⟩:=hq;exact absurd hq.1 sy
 |goto l=>exact hq.elim
 |panic ch=>exact hq.elim
 |outgrown=>exact hq.elim
end
section
open Go Go.RowKit Go.Proofs Ab
structure Gh where
 β:Nat→Option Nat
 κ:Nat→Option (Option Nat)
structure St(γ:Gh)(w:World)(γ':Gh)(w':World):Prop where
 sz:w.heap.size≤w'.heap.size
 np:∀q,q<w.heap.size→(∀i,γ.β i≠some q)→w'.heap[q]? =w.heap[q]?
 eb:∀i b,γ.β i=some b→γ'.β i=some b
 ek:∀t x,γ.κ t=some x→γ'.κ t=some x
 nb:∀i b,γ'.β i=some b→γ.β i=some b∨w.heap.size≤b
structure Fx where
 φ:Gh→World→Value→Prop
 one:Bool
 up:∀{γ w γ' w' x},St γ w γ' w'→φ γ w x→φ γ' w' x
 h1:one=true→∀{γ w x},φ γ w x→x.oneCell'=true
inductive Δ where
 |k (v:Value)
 |ow (A:List Nat) (t:Nat)
 |rd (A:List Nat)
 |rz (Z:Nat→Prop) (A:List Nat)
 |p (i o:Nat)
 |sl (i n c:Nat)
 |f (Φ:Fx)
 |g (ds:List Δ)
 |t (ds:List Δ)
abbrev Jw(w:World):Prop:=TO w
section
variable (w0:World) (γ:Gh) (w:World)
def s0:Δ→Value→Prop
 | .k v,x=>x=v
 | .ow A t,x=>Own w0 A x w∧γ.κ t=some x.ownBlock
 | .rd A,x=>∃H:Nat→Prop,(∀q,H q→q<w.heap.size∧∀i,γ.β i≠some q)∧Rep0 w H x (.l 1 (W A))
 | .rz Z A,x=>∃H:Nat→Prop,(∀q,H q→(q<w.heap.size∧∀i,γ.β i≠some q)∧¬Z q)∧Rep0 w H x (.l 1 (W A))
 | .p i o,x=>∃b,γ.β i=some b∧x= .pointer (some ⟨b,o,none⟩)
 | .sl i n c,x=>∃b,γ.β i=some b∧x= .slice (some ⟨b,0,none⟩) n c
 | .f Φ,x=>Φ.φ γ w x
 |_,_=>False
def l0:List Δ→List Value→Prop
 |[],[]=>True
 |d::ds,x::xs=>s0 w0 γ w d x∧l0 ds xs
 |_,_=>False
def s1:Δ→Value→Prop
 | .g ds,x=>∃xs:List Value,x= .agg xs.toArray∧l0 w0 γ w ds xs
 |d,x=>s0 w0 γ w d x
def l1:List Δ→List Value→Prop
 |[],[]=>True
 |d::ds,x::xs=>s1 w0 γ w d x∧l1 ds xs
 |_,_=>False
def s2:Δ→Value→Prop
 | .t ds,x=>∃xs:List Value,x= .tuple xs.toArray∧l1 w0 γ w ds xs
 |d,x=>s1 w0 γ w d x
def bx(i:Nat)(b:TypeId×List Δ):Prop:=∃q xs,γ.β i=some q∧w.heap[q]? =some (.cells xs.toArray b.1 (0,0))∧l0 w0 γ w b.2 xs
structure Wi(F:Nat→Prop):Prop where
 j:Jw w0
 bel:Below w0.heap.size w0 w
 bn:∀i b,γ.β i=some b→w0.heap.size≤b∧b<w.heap.size
 bi:∀i j b,γ.β i=some b→γ.β j=some b→i=j
 kn:∀t q,γ.κ t=some (some q)→w0.heap.size≤q∧q<w.heap.size∧∀i,γ.β i≠some q
 ki:∀t u q,γ.κ t=some (some q)→γ.κ u=some (some q)→t=u
 fr:∀i,F i→γ.β i=none∧∀r,r<4→γ.κ (4*i+r)=none
end
variable {w0 w w':World} {γ γ':Gh} {F:Nat→Prop}
theorem St.rf(γ:Gh)(w:World):St γ w γ w:=⟨aY _,fun _ _ _=>rfl,fun _ _ h=>h,fun _ _ h=>h,fun _ _ h=> .inl h⟩
theorem St.of(hb:Below w.heap.size w w'):St γ w γ w':=⟨hb.size,fun q h _=>hb.block q h,fun _ _ h=>h,fun _ _ h=>h,fun _ _ h=> .inl h⟩
theorem s0.up(E:Wi w0 γ w F)(j:St γ w γ' w'):∀{d:Δ} {x:Value},s0 w0 γ w d x→s0 w0 γ' w' d x
 | .k v,x,h=>h
 | .ow A t,x,⟨⟨m,C,z⟩,y⟩=>⟨⟨m,C,bJ z fun q hq=>by
    have:=E.kn t q (by rw[y,hq]);exact j.np q this.2.1 this.2.2⟩,j.ek _ _ y⟩
 | .rd A,x,⟨H,a,l⟩=>⟨H,fun q hq=>⟨eu (a q hq).1 j.sz,fun i u=>(j.nb i q u).elim ((a q hq).2 i) fun h=>by have:=(a q hq).1;omega⟩,l.mono (fun _ h=>h) fun q hq=>j.np q (a q hq).1 (a q hq).2⟩
 | .rz Z A,x,⟨H,a,l⟩=>⟨H,fun q hq=>⟨⟨eu (a q hq).1.1 j.sz,fun i u=>(j.nb i q u).elim ((a q hq).1.2 i) fun h=>by have:=(a q hq).1.1;omega⟩,(a q hq).2⟩,l.mono (fun _ h=>h) fun q hq=>j.np q (a q hq).1.1 (a q hq).1.2⟩
 | .p i o,x,⟨b,a,l⟩=>⟨b,j.eb _ _ a,l⟩
 | .sl i n c,x,⟨b,a,l⟩=>⟨b,j.eb _ _ a,l⟩
 | .f Φ,x,h=>Φ.up j h
 | .g _,_,h=>h.elim
 | .t _,_,h=>h.elim
theorem l0.up(c:Wi w0 γ w F)(a:St γ w γ' w'):∀{ds:List Δ} {xs:List Value},l0 w0 γ w ds xs→l0 w0 γ' w' ds xs
 |[],[],h=>h
 |_::_,_::_,h=>⟨s0.up c a h.1,l0.up c a h.2⟩
 |[],_::_,h=>h.elim
 |_::_,[],h=>h.elim
theorem s1.up(c:Wi w0 γ w F)(a:St γ w γ' w'):∀{d:Δ} {x:Value},s1 w0 γ w d x→s1 w0 γ' w' d x
 | .g _,_,⟨xs,e,h⟩=>⟨xs,e,l0.up c a h⟩
 | .k _,_,h=>s0.up (d:= .k _) c a h
 | .ow _ _,_,h=>s0.up (d:= .ow _ _) c a h
 | .rd _,_,h=>s0.up (d:= .rd _) c a h
 | .rz _ _,_,h=>s0.up (d:= .rz _ _) c a h
 | .p _ _,_,h=>s0.up (d:= .p _ _) c a h
 | .sl _ _ _,_,h=>s0.up (d:= .sl _ _ _) c a h
 | .f _,_,h=>s0.up (d:= .f _) c a h
 | .t _,_,h=>h.elim
theorem l1.up(c:Wi w0 γ w F)(a:St γ w γ' w'):∀{ds:List Δ} {xs:List Value},l1 w0 γ w ds xs→l1 w0 γ' w' ds xs
 |[],[],h=>h
 |_::_,_::_,h=>⟨s1.up c a h.1,l1.up c a h.2⟩
 |[],_::_,h=>h.elim
 |_::_,[],h=>h.elim
theorem s2.up(c:Wi w0 γ w F)(a:St γ w γ' w'):∀{d:Δ} {x:Value},s2 w0 γ w d x→s2 w0 γ' w' d x
 | .t _,_,⟨xs,e,h⟩=>⟨xs,e,l1.up c a h⟩
 | .g _,_,h=>s1.up (d:= .g _) c a h
 | .k _,_,h=>s0.up (d:= .k _) c a h
 | .ow _ _,_,h=>s0.up (d:= .ow _ _) c a h
 | .rd _,_,h=>s0.up (d:= .rd _) c a h
 | .rz _ _,_,h=>s0.up (d:= .rz _ _) c a h
 | .p _ _,_,h=>s0.up (d:= .p _ _) c a h
 | .sl _ _ _,_,h=>s0.up (d:= .sl _ _ _) c a h
 | .f _,_,h=>s0.up (d:= .f _) c a h
theorem bx.up(f:Wi w0 γ w F)(a:St γ w γ' w'){i:Nat}{b:TypeId×List Δ}(h:bx w0 γ w i b)(hb:∀q,γ.β i=some q→w'.heap[q]? =w.heap[q]?):bx w0 γ' w' i b:=by
 obtain⟨q,xs,c,j,g⟩:=h;exact⟨q,xs,a.eb _ _ c,(hb q c).trans j,l0.up f a g⟩
theorem Wi.sub{G:Nat→Prop}(h:Wi w0 γ w F)(c:∀i,G i→F i):Wi w0 γ w G:=⟨h.j,h.bel,h.bn,h.bi,h.kn,h.ki,fun i a=>h.fr i (c i a)⟩
theorem Wi.Tu(h:Wi w0 γ w F)(hb:Below w0.heap.size w w'):Wi w0 γ w' F:=
 ⟨h.j,⟨hb.os.trans h.bel.os,hb.tape.trans h.bel.tape,hb.output.trans h.bel.output,bK h.bel.size hb.size,fun q hq=>(hb.block q hq).trans (h.bel.block q hq)⟩,fun i b a=>⟨(h.bn i b a).1,eu (h.bn i b a).2 hb.size⟩,h.bi,fun t q ht=>⟨(h.kn t q ht).1,eu (h.kn t q ht).2.1 hb.size,(h.kn t q ht).2.2⟩,h.ki,h.fr⟩
theorem below_le(h:Wi w0 γ w F)(hb:Below w.heap.size w w'):Below w0.heap.size w w':=⟨hb.os,hb.tape,hb.output,hb.size,fun q hq=>hb.block q (eu hq h.bel.size)⟩
def lk{α:Type}:List (Nat×α)→Nat→Option α
 |[],_=>none
 |(i,x)::r,t=>bif Nat.beq i t then some x else lk r t
theorem dK{α:Type}{i t:Nat}{x y:α}{r:List (Nat×α)}(h:lk ((i,x)::r) t=some y):(i=t∧x=y)∨(i≠t∧lk r t=some y):=by
 unfold lk at h;by_cases e:i=t
 ·subst e;rw[Nat.beq_refl]at h;exact .inl ⟨rfl,dS h⟩
 ·rw[show Nat.beq i t=false from by rw[Bool.eq_false_iff];intro a;exact e (Nat.eq_of_beq_eq_true a)]at h;exact .inr ⟨e,h⟩
def Gh.box(γ:Gh)(i b:Nat):Gh:=⟨fun j=>bif Nat.beq j i then some b else γ.β j,γ.κ⟩
variable{j:Nat}
theorem wM{i:Nat}(h:i≠j):Nat.beq i j=false:=by rw[Bool.eq_false_iff];intro a;exact h (Nat.eq_of_beq_eq_true a)
theorem Cj(γ:Gh)(i b:Nat):(γ.box i b).β i=some b:=by show(bif Nat.beq i i then some b else γ.β i)=some b;rw[Nat.beq_refl];rfl
theorem QD(γ:Gh){i:Nat}(b:Nat)(h:j≠i):(γ.box i b).β j=γ.β j:=by show(bif Nat.beq j i then _ else _)=_;rw[wM h];rfl
theorem yt{γ:Gh}{i b c:Nat}(h:(γ.box i b).β j=some c):(j=i∧c=b)∨(j≠i∧γ.β j=some c):=by
 by_cases e:j=i
 ·subst e;rw[Cj]at h;exact .inl ⟨rfl,(dS h).symm⟩
 ·rw[QD γ b e]at h;exact .inr ⟨e,h⟩
theorem Le{i:Nat}(c:Wi w0 γ w F)(y:F i)(o:Obj):St γ w (γ.box i w.heap.size) (w.alloc o)∧Below w.heap.size w (w.alloc o)∧Wi w0 (γ.box i w.heap.size) (w.alloc o) (fun k=>F k∧k≠i):=by
 have hb:=zZ w o;have u:=(c.fr i y).1;have a:=c.Tu (below_le c hb);have m:(w.alloc o).heap.size=w.heap.size+1:=World.size_alloc _ _;refine⟨⟨hb.size,fun q h _=>hb.block q h,fun j b h=>?_,fun _ _ h=>h,fun j b h=>?_⟩,hb,a.j,a.bel,fun j b h=>?_,fun j k b l g=>?_,fun t q h=>⟨(a.kn t q h).1,(a.kn t q h).2.1,fun j f=>?_⟩,a.ki,fun j f=>⟨?_,(c.fr j f.1).2⟩⟩
 ·rw[QD γ _ (fun e=>by subst e;rw[u]at h;cases h)];exact h
 ·rcases yt h with ⟨_,e⟩|⟨_,h⟩
  ·exact .inr om
  ·exact .inl h
 ·rcases yt h with ⟨_,e⟩|⟨_,h⟩
  ·have:=c.bel.size;omega
  ·exact a.bn j b h
 ·rcases yt l with ⟨e1,C⟩|⟨_,l⟩<;>rcases yt g with ⟨A,z⟩|⟨_,g⟩
  ·omega
  ·have:=(c.bn k b g).2;omega
  ·have:=(c.bn j b l).2;omega
  ·exact c.bi j k b l g
 ·rcases yt f with ⟨_,e⟩|⟨_,f⟩
  ·have:=(c.kn t q h).2.1;omega
  ·exact(c.kn t q h).2.2 j f
 ·rw[QD γ _ f.2];exact(c.fr j f.1).1
end
section
open Go Go.RowKit Go.Proofs Ab
abbrev En:=List (Nat×Δ)
abbrev Bs:=List (Nat×TypeId×List Δ)
structure PS(w0:World)(N c:Nat)(E:En)(Bx:Bs)(γ:Gh)(a:Act)(w:World):Prop where
 W:Wi w0 γ w (fun i=>c≤i)
 sz:a.tmps.size=N
 df:a.defers=[]
 env:∀t d,lk E t=some d→s2 w0 γ w d (a.tmps.getD t undef)
 box:∀i b,lk Bx i=some b→bx w0 γ w i b
structure Ok(P:Program)(w0:World)(N:Nat)(o:Oper)(i:Nat)(R:Nat→Option Δ)(Bx:Bs)(d:Δ)(nb:Option (TypeId×List Δ)):Prop where
 ok:∀(Q:Exit→Act→World→Prop) (γ:Gh) (a:Act) (w:World) (F:Nat→Prop) (K:Act→World→Prop),a.tmps.size=N→Wi w0 γ w F→F i→(∀t d,R t=some d→s2 w0 γ w d (a.tmps.getD t undef))→(∀j b,lk Bx j=some b→bx w0 γ w j b)→
  (∀γ' v w',St γ w γ' w'→Below w.heap.size w w'→Wi w0 γ' w' (fun k=>F k∧k≠i)→s2 w0 γ' w' d v→(∀b,nb=some b→bx w0 γ' w' i b)→K (a.put o.dst v) w')→o.wp P a w K Q
def lX(R:Nat→Option Δ)(x:Operand)(d:Δ):Prop:=match x with| .tmp s=>R s=some d| .const v=>d= .k v|_=>False
variable {P:Program} {w0:World} {N i:Nat} {R:Nat→Option Δ} {Bx:Bs}
variable{γ:Gh}{x y:Operand}{dst:Option Tmp}{t ty tx:TypeId}{p:String}{gd:Option (Nat×Bool)}{j k:Nat}{u:Bool}{r:Value}
theorem lX.ev{w:World}{a:Act}{d:Δ}(h:lX R x d)(c:∀t d,R t=some d→s2 w0 γ w d (a.tmps.getD t undef)):s2 w0 γ w d (a.eval x):=by
 unfold lX at h;split at h
 ·rw[bU];exact c _ _ h
 ·subst h;exact rfl
 ·exact h.elim
theorem wV{o:Oper}{d:Δ}(h:∀(γ:Gh) (w:World) (a:Act),(∀t d,R t=some d→s2 w0 γ w d (a.tmps.getD t undef))→(∀j b,lk Bx j=some b→bx w0 γ w j b)→∃v,(execOp a.eval o).run P w= .ok (.value v) w∧s2 w0 γ w d v):Ok P w0 N o i R Bx d none:=⟨fun Q γ a w F K hz c u f g hK=>by
 obtain⟨v,m,l⟩:=h γ w a f g;unfold Oper.wp;rw[m];exact hK γ v w (.rf _ _) (dQ w) (c.sub fun _ h=>h.1) l fun b hb=>by cases hb⟩
variable{e:Array Edge}
theorem nV{d:Δ}(h:lX R x d):Ok P w0 N ⟨dst,.move x,t,p,e,gd⟩ i R Bx d none:=
 wV fun γ w a c _=>⟨_,by simp[execOp],h.ev c⟩
theorem JJ{d:Δ}(h:lX R x d):Ok P w0 N ⟨dst,.assign x,t,p,e,gd⟩ i R Bx d none:=
 wV fun γ w a c _=>⟨_,by simp[execOp],h.ev c⟩
def fofs(P:Program)(t:TypeId)(f:Nat):Option Nat:=match P.underlying t with
 |some (.struct fs)=>match fs[f]? with
  |some fd=>match P.info? fd.type with
   |some ti=>bif Nat.beq ti.size 0 then none else some fd.offset
   |none=>none
  |none=>none
 |_=>none
theorem Tv{f:Nat}{off:Nat}(h:lX R x (.p j k))(c:fofs P ty f=some off):Ok P w0 N ⟨dst,.fieldAddr ty x f,t,p,e,gd⟩ i R Bx (.p j (k+off)) none:=
 wV fun γ w a z _=>by
  obtain⟨b,C,A⟩:=h.ev z;unfold fofs at c;split at c
  ·rename_i E y;split at c
   ·rename_i fd m;split at c
    ·rename_i u l;cases hz:Nat.beq u.size 0 with
     |true=>rw[hz]at c;cases c
     |false=>
      rw[hz]at c;have g:¬u.size=0:=fun e=>by rw[e]at hz;cases hz
      obtain rfl:=dS c;exact⟨.pointer (some ⟨b,k+fd.offset,none⟩),by simp[execOp,A,Instr.fieldAt,run_underlying y,m,Instr.sureAddr,fieldPlace,sizeOf,typeInfo,l,g,Addr.add_lit],b,C,rfl⟩
    ·cases c
   ·cases c
  ·cases c
theorem l0.get{w:World}:∀{ds:List Δ} {xs:List Value} {k:Nat} {d:Δ},l0 w0 γ w ds xs→ds[k]? =some d→∃x,xs[k]? =some x∧s0 w0 γ w d x
 |d::ds,x::xs,0,e,h,a=>by simp at a;subst a;exact⟨x,rfl,h.1⟩
 |d::ds,x::xs,k+1,e,h,a=>by simpa using l0.get h.2 (by simpa using a)
 |[],[],_,_,_,a=>by simp at a
 |[],_::_,_,_,h,_=>h.elim
 |_::_,[],_,_,h,_=>h.elim
theorem l0.len{w:World}:∀{ds:List Δ} {xs:List Value},l0 w0 γ w ds xs→xs.length=ds.length
 |[],[],_=>rfl
 |_::_,_::_,h=>by simp[l0.len h.2]
 |[],_::_,h=>h.elim
 |_::_,[],h=>h.elim
theorem l0.cut{w:World}:∀{ds:List Δ} {xs:List Value} (k n:Nat),l0 w0 γ w ds xs→l0 w0 γ w ((ds.drop k).take n) ((xs.drop k).take n)
 |[],[],k,n,_=>by simp[l0]
 |_::_,_::_,k+1,n,h=>by simpa using l0.cut k n h.2
 |_::_,_::_,0,0,_=>trivial
 |d::ds,x::xs,0,n+1,h=>⟨h.1,by simpa using l0.cut 0 n h.2⟩
 |[],_::_,_,_,h=>h.elim
 |_::_,[],_,_,h=>h.elim
theorem vY{w:World}{q:Nat}{xs:List Value}(h:w.heap[q]? =some (.cells xs.toArray t (0,0))){x:Value}(a:xs[k]? =some x):w.cell? ⟨q,k,none⟩=some x:=cell_of_row w q k xs.toArray t (0,0) h|>.trans (by simpa using a)
variable{ds:List Δ}
theorem Y1{n:Nat}{bt:TypeId}(h:lX R x (.p j k))(hb:lk Bx j=some (bt,ds))(C:(P.info? ty).map (·.size)=some n)(c:lN P ty=true)(O:k+n≤ds.length):Ok P w0 N ⟨dst,.load ty x,t,p,e,gd⟩ i R Bx (.g ((ds.drop k).take n)) none:=
 wV fun γ w a F G=>by
  obtain⟨b,L,J⟩:=h.ev F;obtain⟨q,xs,I,H,z⟩:=G j _ hb;obtain rfl:b=q:=dS (L.symm.trans I);have hl:xs.length=ds.length:=z.len;obtain⟨M,y,A⟩:=jT.1 C;obtain⟨l,E⟩:∃l,P.underlying ty=some l:=by
   unfold lN at c;cases f:P.underlying ty with
   |some l=>exact⟨l,rfl⟩
   |none=>rw[f]at c;cases c
  have:=(vX (P:=P) (w:=w) ty b k n ((xs.drop k).take n) (by simp;omega) (fun m u f=>vY H (by
   rw[ou]at f;split at f
   ·rwa[uB]at f
   ·cases f)) y A E).1 c
  exact⟨_,by simp[execOp,J,this],_,rfl,z.cut k n⟩
theorem Y2{bt:TypeId}{d:Δ}(h:lX R x (.p j k))(hb:lk Bx j=some (bt,ds))(g:lN P ty=false)(m:(P.underlying ty).isSome=true)(hd:ds[k]? =some d):Ok P w0 N ⟨dst,.load ty x,t,p,e,gd⟩ i R Bx d none:=
 wV fun γ w a A C=>by
  obtain⟨b,I,H⟩:=h.ev A;obtain⟨q,xs,G,F,E⟩:=C j _ hb;obtain rfl:b=q:=dS (I.symm.trans G);obtain⟨u,y,l⟩:=E.get hd;obtain⟨J,c⟩:=yH.1 m;have z:=vY F y;have f:(isAgg ty).run P w= .ok false w:=by
   rw[←g];simp only[isAgg,lN,Sem.run_bind,run_underlying c,Result.andThen_ok,c];cases J<;>rfl
  refine⟨u,by simp[execOp,H,Instr.loadAt,Instr.sureAddr,loadVar,f,z],?_⟩;cases d<;>first|exact l|exact l.elim
def biV(op:BinOp)(k:IntKind)(x y:Int):Value:=match op with
 | .add=> .int k (k.wrap (x+y))
 | .sub=> .int k (k.wrap (x-y))
 | .eql=> .bool (decide (x=y))
 | .neq=> .bool (decide (¬x=y))
 | .lss=> .bool (decide (x<y))
 | .leq=> .bool (decide (x≤y))
 | .gtr=> .bool (decide (y<x))
 | .geq=> .bool (decide (y≤x))
 |_=>undef
def biO(op:BinOp):Bool:=match op with| .add| .sub| .eql| .neq| .lss| .leq| .gtr| .geq=>true|_=>false
theorem xw{op:BinOp}{k:IntKind}{u v:Int}(g:lX R x (.k (.int k u)))(f:lX R y (.k (.int k v)))(l:biO op=true)(j:biV op k u v=r):Ok P w0 N ⟨dst,.binOp op tx x y ty,t,p,e,gd⟩ i R Bx (.k r) none:=
 wV fun γ w a c _=>by
  have e1:a.eval x= .int k u:=g.ev c;have m:a.eval y= .int k v:=f.ev c;have:(binOp op tx (.int k u) (.int k v)).run P w= .ok r w:=by
   subst j;cases op<;>first|cases l|skip
   all_goals first
    |(simp[binOp,biV,Op.intArith,Op.intCmp];done)
    |(simp[binOp,biV,Op.intArith,Op.intCmp,bne];done)
    |(simp only[biV,binOp_eql,binOp_neq,Sem.run_pure,show(u==v)=decide (u=v)from Bool.eq_iff_iff.2 sy,bne,decide_not])
  exact⟨r,by simp[execOp,e1,m,eqGuard_at_int,this],rfl⟩
theorem Y3{k:IntKind}{u:Int}(c:lX R x (.k (.int k u)))(f:Value.int k (k.wrap (0-u))=r):Ok P w0 N ⟨dst,.unOp .neg tx x,t,p,e,gd⟩ i R Bx (.k r) none:=
 wV fun γ w a g _=>by
  have e1:a.eval x= .int k u:=c.ev g;exact⟨r,by subst f;simp[execOp,e1,Op.unary,Op.intArith],rfl⟩
theorem DX(c:lX R x (.k (.bool u))):Ok P w0 N ⟨dst,.unOp .not tx x,t,p,e,gd⟩ i R Bx (.k (.bool (!u))) none:=
 wV fun γ w a f _=>by
  have e1:a.eval x= .bool u:=c.ev f;exact⟨.bool (!u),by simp[execOp,e1,Op.unary],rfl⟩
theorem ok_sa{u v:ByteArray}(j:lX R x (.k (.string u)))(g:lX R y (.k (.string v)))(l:Nat.ble (u.size+v.size) 100000=true):Ok P w0 N ⟨dst,.binOp .add tx x y ty,t,p,e,gd⟩ i R Bx (.k (.string (u++v))) none:=
 wV fun γ w a f _=>by
  have e1:a.eval x= .string u:=j.ev f;have m:a.eval y= .string v:=g.ev f;have h:=qY l;refine⟨.string (u++v),?_,rfl⟩;have c:¬((9223372036854775807:Int)<(u.size+v.size:Nat)):=om;simp only[execOp,e1,m,eqGuard_at_string,binOp,Op.stringOp,Sem.run_bind,Sem.run_pure,Result.andThen_ok,IntKind.max_i64,gt_iff_lt];rw[ah c];simp
theorem ok_se{u v:ByteArray}{b:Bool}(g:lX R x (.k (.string u)))(f:lX R y (.k (.string v)))(hb:(u.toList==v.toList)=b):Ok P w0 N ⟨dst,.binOp .eql tx x y ty,t,p,e,gd⟩ i R Bx (.k (.bool b)) none:=
 wV fun γ w a c _=>by
  have e1:a.eval x= .string u:=g.ev c;have j:a.eval y= .string v:=f.ev c;exact⟨.bool b,by subst hb;simp[execOp,e1,j,eqGuard_at_string,binOp,Op.stringOp],rfl⟩
theorem ok_be{v:Bool}(g:lX R x (.k (.bool u)))(f:lX R y (.k (.bool v)))(ht:P.underlying tx=some .bool):Ok P w0 N ⟨dst,.binOp .eql tx x y ty,t,p,e,gd⟩ i R Bx (.k (.bool (u==v))) none:=
 wV fun γ w a c _=>by
  have e1:a.eval x= .bool u:=g.ev c;have j:a.eval y= .bool v:=f.ev c;exact⟨.bool (u==v),by simp only[execOp,e1,j,eqGuard_at_bool,Sem.run_bind,Sem.run_pure,Result.andThen_ok,run_eql_bool w tx u v ht],rfl⟩
theorem ok_bn{v:Bool}(g:lX R x (.k (.bool u)))(f:lX R y (.k (.bool v)))(ht:P.underlying tx=some .bool):Ok P w0 N ⟨dst,.binOp .neq tx x y ty,t,p,e,gd⟩ i R Bx (.k (.bool (u != v))) none:=
 wV fun γ w a c _=>by
  have e1:a.eval x= .bool u:=g.ev c;have j:a.eval y= .bool v:=f.ev c;exact⟨.bool (u != v),by simp only[execOp,e1,j,eqGuard_at_bool,Sem.run_bind,Sem.run_pure,Result.andThen_ok,run_neq_bool w tx u v ht];rfl,rfl⟩
theorem l1.get{w:World}:∀{ds:List Δ} {xs:List Value} {k:Nat} {d:Δ},l1 w0 γ w ds xs→ds[k]? =some d→∃x,xs[k]? =some x∧s1 w0 γ w d x
 |d::ds,x::xs,0,e,h,a=>by simp at a;subst a;exact⟨x,rfl,h.1⟩
 |d::ds,x::xs,k+1,e,h,a=>by simpa using l1.get h.2 (by simpa using a)
 |[],[],_,_,_,a=>by simp at a
 |[],_::_,_,_,h,_=>h.elim
 |_::_,[],_,_,h,_=>h.elim
theorem s1.s2{w:World}{d:Δ}{x:Value}(h:s1 w0 γ w d x):s2 w0 γ w d x:=by cases d<;>first|exact h|exact h.elim
theorem s0.s1{w:World}{d:Δ}{x:Value}(h:s0 w0 γ w d x):s1 w0 γ w d x:=by cases d<;>first|exact h|exact h.elim
theorem ok_ex{m:Nat}{d:Δ}(h:lX R x (.t ds))(hd:ds[m]? =some d):Ok P w0 N ⟨dst,.extract x m,t,p,e,gd⟩ i R Bx d none:=
 wV fun γ w a g _=>by
  obtain⟨xs,l,j⟩:=h.ev g;obtain⟨u,c,f⟩:=j.get hd;have hl:m<xs.length:=(iR.1 c).1;have e0:xs[m]=u:=(iR.1 c).2;exact⟨u,by simp[execOp,l,Instr.extract,hl,e0],f.s2⟩
theorem ok_bx(h:lX R x (.g ds)):Ok P w0 N ⟨dst,.box ty x,t,p,e,gd⟩ i R Bx (.p i 0) (some (ty,ds)):=⟨fun Q γ a w F K hz l u m A hK=>by
 obtain⟨xs,z,y⟩:=h.ev m;obtain⟨j,hb,f⟩:=Le l u (.cells xs.toArray ty);unfold Oper.wp;have:(execOp a.eval (⟨dst,.box ty x,t,p,e,gd⟩:Oper)).run P w= .ok (.value (.pointer (some ⟨w.heap.size,0,none⟩))) (w.alloc (.cells xs.toArray ty)):=by
  simp[execOp,z,Instr.box,newVar,newRow,Value.cells]
 rw[this];exact hK _ _ _ j hb f ⟨_,Cj _ _ _,rfl⟩ fun b c=>by
  cases c;exact⟨_,xs,Cj _ _ _,heap_alloc_new w _,l0.up l j y⟩⟩
theorem l0_k{γ:Gh}{w:World}:∀(xs:List Value),l0 w0 γ w (xs.map .k) xs
 |[]=>trivial
 |_::r=>⟨rfl,l0_k r⟩
theorem JK{z:Value}(hz:((P.info? ty).bind (·.zero))=some z):Ok P w0 N ⟨dst,.alloc ty,t,p,e,gd⟩ i R Bx (.p i 0) (some (ty,z.cells.toList.map .k)):=⟨fun Q γ a w F K _ m u A C hK=>by
 obtain⟨y,l,c⟩:=Option.bind_eq_some_iff.1 hz;obtain⟨j,hb,g⟩:=Le m u (.cells z.cells ty);unfold Oper.wp;have:(execOp a.eval (⟨dst,.alloc ty,t,p,e,gd⟩:Oper)).run P w= .ok (.value (.pointer (some ⟨w.heap.size,0,none⟩))) (w.alloc (.cells z.cells ty)):=by
  simp[execOp,Instr.alloc,zeroValue,typeInfo,l,c,newVar,newRow]
 rw[this];exact hK _ _ _ j hb g ⟨_,Cj _ _ _,rfl⟩ fun b f=>by
  cases f;exact⟨_,z.cells.toList,Cj _ _ _,by rw[Array.toArray_toList];exact heap_alloc_new w _,l0_k _⟩⟩
end
section
open Go Go.RowKit Go.Proofs Ab
def Δ.w:Δ→Bool
 | .ow _ _| .rd _| .rz _ _=>true
 | .k (.slice _ _ _)=>true
 |_=>false
variable {w0 w:World} {γ:Gh} {N i:Nat} {R:Nat→Option Δ} {Bx:Bs}
variable{x:Value}{F:Nat→Prop}{w1:World}{κ:Nat→Option (Option Nat)}{dst:Option Tmp}{f:FuncId}{args:Array Operand}{A7:Array TypeId}{t:TypeId}{p:String}{gd:Option (Nat×Bool)}
theorem s0.L_{d:Δ}(h:s0 w0 γ w d x)(f:d.w=true):∃a n c,x= .slice a n c:=by
 unfold Δ.w at f;split at f
 ·obtain⟨⟨m,_,j⟩,_⟩:=h;obtain⟨a,c,e⟩:=iE j;exact⟨a,m,c,e⟩
 ·obtain⟨H,_,g⟩:=h;exact gV g
 ·obtain⟨H,_,g⟩:=h;exact gV g
 ·exact⟨_,_,_,h⟩
 ·cases f
theorem int_shp{s:Bool}{d:Δ}(h:s2 w0 γ w (.g [.k (.bool s),d]) x)(f:d.w=true):∃a n c,x= .agg #[.bool s,.slice a n c]∧s0 w0 γ w d (.slice a n c):=by
 obtain⟨xs,e,h⟩:=h;match xs,h with
 |[u,v],h=>
  obtain⟨a,n,c,rfl⟩:=h.2.1.L_ f;have:=h.1;subst this;exact⟨a,n,c,e,h.2.1⟩
theorem Y4{d:Δ}(h:s2 w0 γ w d x)(a:d.w=true):s0 w0 γ w d x:=by
 unfold Δ.w at a;split at a<;>first|exact h|cases a
section
variable {dst:Option Tmp} {x y z:Operand} {t:TypeId} {p:String} {e:Array Edge} {gd:Option (Nat×Bool)} {s b:Bool} {n:Int} {d d1 d2:Δ}
theorem JL{ty:TypeId}{ps:Array (Nat×Operand)}(h:∀(γ:Gh) (w:World) (a:Act),(∀t d,R t=some d→s2 w0 γ w d (a.tmps.getD t undef))→∃cs,Tryz.prog.built ty (ps.map fun(i,x)=>(i,a.eval x)).toList=some cs∧s2 w0 γ w d (.agg cs)):Ok Tryz.prog w0 N ⟨dst,.build ty ps,t,p,e,gd⟩ i R Bx d none:=
 wV fun γ w a c _=>by
  obtain⟨cs,g,f⟩:=h γ w a c;exact⟨.agg cs,by simp only[execOp,Sem.run_bind,run_build w ty _ cs g,Result.andThen_ok,Sem.run_pure],f⟩
theorem ok_bq(m:lX R x (.g [.k (.bool s),d1]))(h1:d1.w=true)(l:lX R y d2)(h2:d2.w=true):Ok Tryz.prog w0 N ⟨dst,.build 27 #[(0,x),(1,y)],t,p,e,gd⟩ i R Bx (.g [.k (.bool s),d1,d2]) none:=
 JL fun γ w a c=>by
  obtain⟨a1,n1,c1,e1,q1⟩:=int_shp (m.ev c) h1;have q2:=Y4 (l.ev c) h2;obtain⟨j,n2,c2,f⟩:=q2.L_ h2;refine⟨#[.bool s,.slice a1 n1 c1,.slice j n2 c2],?_,[.bool s,.slice a1 n1 c1,.slice j n2 c2],rfl,rfl,q1,f▸q2,trivial⟩;simp only[List.map_toArray,dI,fJ,e1,f];kernel_rfl
theorem ok_bi2(m:lX R x (.k (.bool s)))(l:lX R y d2)(h2:d2.w=true):Ok Tryz.prog w0 N ⟨dst,.build 25 #[(0,x),(1,y)],t,p,e,gd⟩ i R Bx (.g [.k (.bool s),d2]) none:=
 JL fun γ w a c=>by
  have e1:a.eval x= .bool s:=m.ev c;have q2:=Y4 (l.ev c) h2;obtain⟨j,n2,c2,f⟩:=q2.L_ h2;refine⟨#[.bool s,.slice j n2 c2],?_,[.bool s,.slice j n2 c2],rfl,rfl,f▸q2,trivial⟩;simp only[List.map_toArray,dI,fJ,e1,f];kernel_rfl
end
def g0:Gh:=⟨fun _=>none,fun _=>none⟩
def gO(w:World)(κ:Nat→Option (Option Nat)):Gh:=⟨fun i=>if i<w.heap.size then some i else none,κ⟩
def Ans(w:World)(d:Δ)(e:Ending)(w':World):Prop:=∃κ v,e= .returned v∧Below w.heap.size w w'∧(∀t q,κ t=some (some q)→w.heap.size≤q∧q<w'.heap.size)∧(∀t u q,κ t=some (some q)→κ u=some (some q)→t=u)∧s2 w (gO w κ) w' d v
structure Fn(f:FuncId)(ds:List Δ)(d:Δ):Prop where
 fn:∀w vs,Jw w→l1 w g0 w ds vs→Calls Tryz.prog f vs.toArray w (Ans w d)
def Δ.wk0:Δ→Δ
 | .ow A _=> .rd A
 | .rz _ A=> .rd A
 |d=>d
def Δ.wk:Δ→Δ
 | .g ds=> .g (ds.map Δ.wk0)
 |d=>d.wk0
def Δ.a0:Δ→Bool
 | .k _| .ow _ _| .rd _| .rz _ _=>true
 |_=>false
def Δ.a1:Δ→Bool
 | .g ds=>ds.all Δ.a0
 |d=>d.a0
theorem s0.wk(j:Wi w0 γ w F):∀{d:Δ} {x:Value},s0 w0 γ w d x→d.a0=true→s0 w g0 w d.wk0 x
 | .k _,_,h,_=>h
 | .ow _ _,_,⟨h,_⟩,_=>⟨_,fun q hq=>⟨hq,fun _ h=>by cases h⟩,h.rep⟩
 | .rd _,_,⟨H,c,a⟩,_=>⟨H,fun q hq=>⟨(c q hq).1,fun _ h=>by cases h⟩,a⟩
 | .rz _ _,_,⟨H,c,a⟩,_=>⟨H,fun q hq=>⟨(c q hq).1.1,fun _ h=>by cases h⟩,a⟩
 | .p _ _,_,_,h=>by cases h
 | .sl _ _ _,_,_,h=>by cases h
 | .f _,_,_,h=>by cases h
 | .g _,_,h,_=>h.elim
 | .t _,_,h,_=>h.elim
theorem l0.wk(c:Wi w0 γ w F):∀{ds:List Δ} {xs:List Value},l0 w0 γ w ds xs→ds.all Δ.a0=true→l0 w g0 w (ds.map Δ.wk0) xs
 |[],[],_,_=>trivial
 |d::ds,x::xs,h,a=>by
  simp only[iI,dA]at a;exact⟨s0.wk c h.1 a.1,l0.wk c h.2 a.2⟩
 |[],_::_,h,_=>h.elim
 |_::_,[],h,_=>h.elim
theorem s2.wk(c:Wi w0 γ w F):∀{d:Δ} {x:Value},s2 w0 γ w d x→d.a1=true→s1 w g0 w d.wk x
 | .g _,_,⟨xs,e,h⟩,a=>⟨xs,e,l0.wk c h a⟩
 | .k _,_,h,_=>h
 | .ow _ _,_,h,a=>s0.wk c (d:= .ow _ _) h a
 | .rd _,_,h,a=>s0.wk c (d:= .rd _) h a
 | .rz _ _,_,h,a=>s0.wk c (d:= .rz _ _) h a
 | .p _ _,_,_,h=>by cases h
 | .sl _ _ _,_,_,h=>by cases h
 | .f _,_,_,h=>by cases h
 | .t _,_,_,h=>by cases h
def Δ.rn0(i:Nat):Δ→Δ
 | .ow A u=> .ow A (4*i+u)
 |d=>d
def Δ.rn1(i:Nat):Δ→Δ
 | .g ds=> .g (ds.map (Δ.rn0 i))
 |d=>d.rn0 i
def Δ.rn(i:Nat):Δ→Δ
 | .t ds=> .t (ds.map (Δ.rn1 i))
 |d=>d.rn1 i
def Δ.r0:Δ→Bool
 | .k _| .rd _=>true
 | .ow _ u=>decide (u<4)
 |_=>false
def Δ.r1:Δ→Bool
 | .g ds=>ds.all Δ.r0
 |d=>d.r0
def Δ.r2:Δ→Bool
 | .t ds=>ds.all Δ.r1
 |d=>d.r1
def Gh.cal(γ:Gh)(i:Nat)(κ:Nat→Option (Option Nat)):Gh:=⟨γ.β,fun t=>if 4*i≤t∧t<4*i+4 then κ (t-4*i)else γ.κ t⟩
theorem s0.rn(l:w0.heap.size≤w.heap.size)(hb:∀i b,γ.β i=some b→b<w.heap.size):∀{d:Δ} {x:Value},s0 w (gO w κ) w1 d x→d.r0=true→s0 w0 (γ.cal i κ) w1 (d.rn0 i) x
 | .k _,_,h,_=>h
 | .ow A t,_,⟨h,m⟩,ht=>⟨h.base l,by
    have c:t<4:=of_decide_eq_true ht;show(if 4*i≤4*i+t∧4*i+t<4*i+4 then κ (4*i+t-4*i)else γ.κ _)=_;rw[au ⟨om,om⟩,show 4*i+t-4*i=t from om];exact m⟩
 | .rd _,_,⟨H,a,y⟩,_=>⟨H,fun q hq=>⟨(a q hq).1,fun j u=>(a q hq).2 q (by
    show(if q<w.heap.size then some q else none)=some q;rw[au (hb j q u)])⟩,y⟩
 | .p _ _,_,_,h=>by cases h
 | .rz _ _,_,_,h=>by cases h
 | .sl _ _ _,_,_,h=>by cases h
 | .f _,_,_,h=>by cases h
 | .g _,_,h,_=>h.elim
 | .t _,_,h,_=>h.elim
theorem l0.rn(c:w0.heap.size≤w.heap.size)(hb:∀i b,γ.β i=some b→b<w.heap.size):∀{ds:List Δ} {xs:List Value},l0 w (gO w κ) w1 ds xs→ds.all Δ.r0=true→l0 w0 (γ.cal i κ) w1 (ds.map (Δ.rn0 i)) xs
 |[],[],_,_=>trivial
 |d::ds,x::xs,h,a=>by
  simp only[iI,dA]at a;exact⟨s0.rn c hb h.1 a.1,l0.rn c hb h.2 a.2⟩
 |[],_::_,h,_=>h.elim
 |_::_,[],h,_=>h.elim
theorem s1.rn(c:w0.heap.size≤w.heap.size)(hb:∀i b,γ.β i=some b→b<w.heap.size):∀{d:Δ} {x:Value},s1 w (gO w κ) w1 d x→d.r1=true→s1 w0 (γ.cal i κ) w1 (d.rn1 i) x
 | .g _,_,⟨xs,e,h⟩,a=>⟨xs,e,l0.rn c hb h a⟩
 | .k _,_,h,_=>h
 | .ow _ _,_,h,a=>s0.rn (d:= .ow _ _) c hb h a
 | .rd _,_,h,a=>s0.rn (d:= .rd _) c hb h a
 | .p _ _,_,_,h=>by cases h
 | .rz _ _,_,_,h=>by cases h
 | .sl _ _ _,_,_,h=>by cases h
 | .f _,_,_,h=>by cases h
 | .t _,_,_,h=>by cases h
theorem l1.rn(c:w0.heap.size≤w.heap.size)(hb:∀i b,γ.β i=some b→b<w.heap.size):∀{ds:List Δ} {xs:List Value},l1 w (gO w κ) w1 ds xs→ds.all Δ.r1=true→l1 w0 (γ.cal i κ) w1 (ds.map (Δ.rn1 i)) xs
 |[],[],_,_=>trivial
 |d::ds,x::xs,h,a=>by
  simp only[iI,dA]at a;exact⟨s1.rn c hb h.1 a.1,l1.rn c hb h.2 a.2⟩
 |[],_::_,h,_=>h.elim
 |_::_,[],h,_=>h.elim
theorem s2.rn(c:w0.heap.size≤w.heap.size)(hb:∀i b,γ.β i=some b→b<w.heap.size):∀{d:Δ} {x:Value},s2 w (gO w κ) w1 d x→d.r2=true→s2 w0 (γ.cal i κ) w1 (d.rn i) x
 | .t _,_,⟨xs,e,h⟩,a=>⟨xs,e,l1.rn c hb h a⟩
 | .g _,_,h,a=>s1.rn (d:= .g _) c hb h a
 | .k _,_,h,_=>h
 | .ow _ _,_,h,a=>s0.rn (d:= .ow _ _) c hb h a
 | .rd _,_,h,a=>s0.rn (d:= .rd _) c hb h a
 | .p _ _,_,_,h=>by cases h
 | .rz _ _,_,_,h=>by cases h
 | .sl _ _ _,_,_,h=>by cases h
 | .f _,_,_,h=>by cases h
def Jb(P:Program)(f:FuncId):Bool:=match P.funcs[f]? with|some fn=>!(fn.name== "runtime.NumGoroutine")&&fn.body.isSome|none=>false
def rd1(R:Nat→Option Δ):Operand→Option Δ
 | .tmp s=>R s
 | .const v=>some (.k v)
 |_=>none
def Gt(R:Nat→Option Δ):List Operand→Option (List Δ)
 |[]=>some []
 |x::xs=>match rd1 R x,Gt R xs with
  |some d,some ds=>some (d::ds)
  |_,_=>none
theorem rd1.lX{x:Operand}{d:Δ}(h:rd1 R x=some d):lX R x d:=by
 unfold rd1 at h;split at h
 ·exact h
 ·exact(dS h).symm
 ·cases h
theorem Gt.ev{a:Act}(f:Wi w0 γ w F)(g:∀t d,R t=some d→s2 w0 γ w d (a.tmps.getD t undef)):∀{xs:List Operand} {ds:List Δ},Gt R xs=some ds→ds.all Δ.a1=true→l1 w g0 w (ds.map Δ.wk) (xs.map a.eval)
 |[],ds,h,_=>by cases h;trivial
 |x::xs,ds,h,c=>by
  unfold Gt at h;split at h
  ·rename_i d m l j;cases h;simp only[iI,dA]at c;exact⟨s2.wk f ((rd1.lX l).ev g) c.1,Gt.ev f g j c.2⟩
  ·cases h
variable{e:Array Edge}
theorem ok_cR{d:Δ}(l:Jb Tryz.prog f=true)(O:∀(γ:Gh) (a:Act) (w:World) (F:Nat→Prop),Wi w0 γ w F→(∀t d,R t=some d→s2 w0 γ w d (a.tmps.getD t undef))→Calls Tryz.prog f (args.toList.map a.eval).toArray w (Ans w d))(hd:d.r2=true):Ok Tryz.prog w0 N ⟨dst,.call ⟨.value (.func f),args,A7⟩,t,p,e,gd⟩ i R Bx (d.rn i) none:=⟨fun Q γ a w F K hz c C M P hK=>by
 have L:=O γ a w _ c M;have hrun:(execOp a.eval (⟨dst,.call ⟨.value (.func f),args,A7⟩,t,p,e,gd⟩:Oper)).run Tryz.prog w= .ok (.enter f (args.toList.map a.eval).toArray) w:=by
  unfold Jb at l;split at l
  ·rename_i fn A;simp only[dA,Bool.not_eq_true']at l;have I:fn.name≠ "runtime.NumGoroutine" :=by simpa using l.1
   have hb:¬(fn.body=none):=by intro e;rw[e]at l;cases l.2
   have yJ:(args.toList.map a.eval).toArray=args.map a.eval:=by apply Array.ext';simp
   rw[yJ];simp[execOp,resolve,Deferred.ofValue,invoke,callFunc,A,I,hb,show a.eval (.func f)= .func (.func f) #[] #[]from rfl]
  ·cases l
 unfold Oper.wp;rw[hrun,Oper.upon_enter];refine L.mono ?_;rintro e w' ⟨κ,v,rfl,hb,k1,k2,E⟩;have G:=c.bel.size;have g:=c.Tu (below_le c hb);have fr:=(c.fr i C).2;refine hK (γ.cal i κ) v w' ⟨hb.size,fun q h _=>hb.block q h,fun _ _ h=>h,fun t x h=>?_,fun _ _ h=> .inl h⟩ hb ⟨g.j,g.bel,g.bn,g.bi,fun t q h=>?_,fun t u q y m=>?_,fun j z=>⟨(c.fr j z.1).1,fun r H=>?_⟩⟩ (s2.rn G (fun j b h=>(c.bn j b h).2) E hd) fun b h=>by cases h
 ·show(if 4*i≤t∧t<4*i+4 then κ (t-4*i)else γ.κ t)=_;rw[ah fun J=>by
   have:=fr (t-4*i) om;rw[show 4*i+(t-4*i)=t from om,h]at this;cases this]
  exact h
 ·replace h:(if 4*i≤t∧t<4*i+4 then κ (t-4*i)else γ.κ t)=some (some q):=h;split at h
  ·have:=k1 _ _ h;exact⟨om,this.2,fun j z=>by have:=(c.bn j q z).2;omega⟩
  ·exact g.kn t q h
 ·replace y:(if 4*i≤t∧t<4*i+4 then κ (t-4*i)else γ.κ t)=some (some q):=y;replace m:(if 4*i≤u∧u<4*i+4 then κ (u-4*i)else γ.κ u)=some (some q):=m;split at y<;>split at m
  ·have:=k2 _ _ _ y m;omega
  ·have:=(k1 _ _ y).1;have:=(c.kn u q m).2.1;omega
  ·have:=(k1 _ _ m).1;have:=(c.kn t q y).2.1;omega
  ·exact c.ki t u q y m
 ·show(if 4*i≤4*j+r∧4*j+r<4*i+4 then κ (4*j+r-4*i)else γ.κ _)=none;rw[ah fun J=>z.2 om];exact(c.fr j z.1).2 r H⟩
theorem ok_ca{ds:List Δ}{d:Δ}(l:Jb Tryz.prog f=true)(g:Gt R args.toList=some ds)(m:ds.all Δ.a1=true)(y:Fn f (ds.map Δ.wk) d)(hd:d.r2=true):Ok Tryz.prog w0 N ⟨dst,.call ⟨.value (.func f),args,A7⟩,t,p,e,gd⟩ i R Bx (d.rn i) none:=ok_cR l (fun γ a w F c u=>y.fn w _ (c.j.up c.bel) (Gt.ev c u g m)) hd
end
