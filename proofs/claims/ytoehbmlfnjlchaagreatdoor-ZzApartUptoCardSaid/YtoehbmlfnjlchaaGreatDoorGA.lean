import Derived.Laws.ComplexArith
import Derived.WalkKit
import Derived.Orders
import Derived.WalkSpells
import Derived.Lib.SliceRun
set_option linter.all false
namespace Go.Proofs.YtoehbmlfnjlchaaGreatDoor
theorem an{a b:Prop}(x:a)(y:b):a∧b:=⟨x,y⟩
theorem om{p:Prop}(h:p:=by omega):p:=h
theorem dc{p:Prop}(h:p:=by decide):p:=h
theorem sy{p:Prop}(h:p:=by simp):p:=h
end Go.Proofs.YtoehbmlfnjlchaaGreatDoor
namespace Go.Proofs.YtoehbmlfnjlchaaGreatDoor.Ab
open Go Ieee
def wV(s:Bool)(m:Nat):Int:=if s then -(m:Int)else(m:Int)
def FV(s:Bool)(m:Nat)(e n:Int):Prop:=wV s m*2^e.toNat=n*2^(-e).toNat
def FI(w:Nat)(n:Int):Prop:=∃s m e,double.read w= .number s m e∧FV s m e n
theorem two_pos(k:Nat):(0:Int)<2^k:=Int.pow_pos dc
theorem pc{a b:Int}{k:Nat}(h:a*2^k=b*2^k):a=b:=Int.eq_of_mul_eq_mul_right (Int.ne_of_gt (two_pos k)) h
theorem Ak(s:Bool)(m k:Nat):signed s m k=wV s m*2^k:=by
 unfold signed wV;rw[Nat.shiftLeft_eq];cases s<;>simp[Int.natCast_mul,Int.natCast_pow,Int.neg_mul]
theorem TK(s:Bool)(m:Nat):(wV s m).natAbs=m:=by unfold wV;cases s<;>simp
theorem TL(s t:Bool)(m n:Nat):wV (s ^^ t) (m*n)=wV s m*wV t n:=by
 unfold wV;cases s<;>cases t<;>simp[Int.natCast_mul,Int.neg_mul,Int.mul_neg]
theorem Dx{s:Bool}{m:Nat}{i a base:Int}(h:FV s m i a)(hb:base≤i):signed s m (i-base).toNat*2^base.toNat=a*2^(-base).toNat:=by
 unfold FV at h;rw[Ak];generalize wV s m=x at*
 rcases Int.le_total 0 base with h1|h1
 ·rw[show(-i).toNat=0 from om,Int.pow_zero,Int.mul_one]at h;rw[show(-base).toNat=0 from om,Int.pow_zero,Int.mul_one,Int.mul_assoc,←Int.pow_add,show(i-base).toNat+base.toNat=i.toNat from om,h]
 ·rw[show base.toNat=0 from om,Int.pow_zero,Int.mul_one];rcases Int.le_total 0 i with h2|h2
  ·rw[show(-i).toNat=0 from om,Int.pow_zero,Int.mul_one]at h;rw[show(i-base).toNat=i.toNat+(-base).toNat from om,Int.pow_add,←Int.mul_assoc,h]
  ·rw[show i.toNat=0 from om,Int.pow_zero,Int.mul_one]at h;rw[h,Int.mul_assoc,←Int.pow_add,show(-i).toNat+(i-base).toNat=(-base).toNat from om]
theorem MR{s t:Bool}{m n:Nat}{i j a b:Int}(h:FV s m i a)(k:FV t n j b):
 ∃u q e,(Datum.number s m i).sum (.number t n j)=some (.number u q e)∧FV u q e (a+b):=by
 refine⟨_,_,_,rfl,?_⟩
 have h1:=Dx h (Int.min_le_left i j)
 have h2:=Dx k (Int.min_le_right i j)
 generalize min i j=base at*
 generalize signed s m (i-base).toNat=x at*
 generalize signed t n (j-base).toNat=y at*
 unfold FV
 have e:wV (if x+y=0 then s&&t else decide (x+y<0)) (x+y).natAbs=x+y:=by
  by_cases h3:x+y=0
  ·rw[if_pos h3,h3];unfold wV;split<;>rfl
  ·rw[if_neg h3];unfold wV;by_cases h4:x+y<0
   ·rw[if_pos (decide_eq_true h4)];omega
   ·rw[if_neg (by simpa using h4)];omega
 rw[e,Int.add_mul,Int.add_mul,h1,h2]
theorem TM{s t:Bool}{m n:Nat}{i j a b:Int}(h:FV s m i a)(k:FV t n j b):FV (s ^^ t) (m*n) (i+j) (a*b):=by
 unfold FV at*
 rw[TL];generalize wV s m=x at*
 generalize wV t n=y at*
 have e:(x*y*2^(i+j).toNat)*2^(i.toNat+j.toNat-(i+j).toNat)=(a*b*2^(-(i+j)).toNat)*2^(i.toNat+j.toNat-(i+j).toNat):=by
  rw[Int.mul_assoc (x*y),Int.mul_assoc (a*b),←Int.pow_add,←Int.pow_add,show(i+j).toNat+(i.toNat+j.toNat-(i+j).toNat)=i.toNat+j.toNat from om,show(-(i+j)).toNat+(i.toNat+j.toNat-(i+j).toNat)=(-i).toNat+(-j).toNat from om,Int.pow_add,Int.pow_add];calc x*y*(2^i.toNat*2^j.toNat)=(x*2^i.toNat)*(y*2^j.toNat):=by ac_rfl
   _=(a*2^(-i).toNat)*(b*2^(-j).toNat):=by rw[h,k]
   _=a*b*(2^(-i).toNat*2^(-j).toNat):=by ac_rfl
 exact pc e
theorem MS{s:Bool}{m:Nat}{e n:Int}(h:FV s m e n):FV (!s) m e (-n):=by
 unfold FV at*
 rw[show wV (!s) m= -(wV s m)from by unfold wV;cases s<;>simp,Int.neg_mul,Int.neg_mul,h]
theorem MV{s:Bool}{m:Nat}{e n:Int}(h:FV s m e n):m*2^e.toNat=n.natAbs*2^(-e).toNat:=by
 have:=congrArg Int.natAbs h;rwa[Int.natAbs_mul,Int.natAbs_mul,TK,Int.natAbs_pow,Int.natAbs_pow]at this
theorem WR{s:Bool}{m:Nat}{e n:Int}(h:m*2^e.toNat=n.natAbs*2^(-e).toNat)(hs:n=wV s n.natAbs):FV s m e n:=by
 unfold FV;rw[hs];have h2:((m*2^e.toNat:Nat):Int)=((n.natAbs*2^(-e).toNat:Nat):Int):=by rw[h]
 rw[Int.natCast_mul,Int.natCast_mul,Int.natCast_pow,Int.natCast_pow]at h2;unfold wV;cases s
 ·exact h2
 ·show -(m:Int)*2^e.toNat= -(n.natAbs:Int)*2^(-e).toNat;rw[Int.neg_mul,Int.neg_mul];exact congrArg Neg.neg h2
theorem Iy{s:Bool}{m:Nat}{e n:Int}(h:FV s m e n):n=wV s n.natAbs:=by
 have hp:=two_pos e.toNat;have hq:=two_pos (-e).toNat;unfold FV wV at*
 cases s
 ·have:0≤n*2^(-e).toNat:=by rw[←h];exact Int.mul_nonneg (Int.natCast_nonneg m) (Int.le_of_lt hp)
  have:0≤n:=by
   rcases Int.lt_or_le n 0 with h1|h1
   ·have:=Int.mul_neg_of_neg_of_pos h1 hq;omega
   ·exact h1
  simp;omega
 ·have:n*2^(-e).toNat≤0:=by rw[←h];simp[Int.neg_mul];exact Int.mul_nonneg (Int.natCast_nonneg m) (Int.le_of_lt hp)
  have:n≤0:=by
   rcases Int.lt_or_le 0 n with h1|h1
   ·have:=Int.mul_pos h1 hq;omega
   ·exact h1
  simp;omega
theorem vg{way:Toward}{s:Bool}{q d:Nat}(h:q≠0):way.cut s (q*2^d) d=q:=by
 have hl:d≤(q*2^d).log2+2:=by
  have h1:2^d≤q*2^d:=Nat.le_mul_of_pos_left _ (Nat.pos_of_ne_zero h);have h2:q*2^d≠0:=by have:=Nat.two_pow_pos d;omega
  have:=(Nat.le_log2 h2).2 h1;omega
 unfold Toward.cut;rw[Nat.min_eq_left hl,Nat.shiftLeft_eq,Nat.one_mul];have hp:=Nat.two_pow_pos d;simp only[Nat.mul_div_cancel _ hp,Nat.mul_mod_left];cases way<;>simp
theorem oW{s:Bool}{m:Nat}{e n:Int}(h:FV s m e n)(hn:n.natAbs<2^53):FI (double.nearest s m e) n:=by
 have ha:=MV h;have hs:=Iy h;unfold Format.nearest;by_cases h0:m=0
 ·rw[if_pos h0];subst h0;have n0:n=0:=by
   have:n.natAbs*2^(-e).toNat=0:=by rw[←ha];simp
   have hp:=Nat.two_pow_pos (-e).toNat;rcases Nat.mul_eq_zero.1 this with h1|h1
   ·omega
   ·omega
  subst n0;refine⟨s,0,double.leastPlace,?_,?_⟩
  ·cases s<;>decide+kernel
  ·unfold FV wV;cases s<;>simp
 ·rw[if_neg h0];have hm0:0<m:=Nat.pos_of_ne_zero h0;have hpe:=Nat.two_pow_pos e.toNat;have hpf:=Nat.two_pow_pos (-e).toNat;have hN:0<n.natAbs:=by
   rcases Nat.eq_zero_or_pos n.natAbs with h1|h1
   ·rw[h1,Nat.zero_mul]at ha;have:=Nat.mul_pos hm0 hpe;omega
   ·exact h1
  have l1:2^m.log2≤m:=Nat.log2_self_le h0;have l2:m<2^(m.log2+1):=(Nat.log2_lt h0).1 (Nat.lt_succ_self _);obtain⟨L,hL⟩:∃L,L=m.log2:=⟨_,rfl⟩;rw[←hL]at l1 l2 ⊢;have k1:L+e.toNat<53+(-e).toNat:=by
   have h1:2^(L+e.toNat)<2^(53+(-e).toNat):=by
    rw[Nat.pow_add,Nat.pow_add];calc 2^L*2^e.toNat≤m*2^e.toNat:=Nat.mul_le_mul_right _ l1
     _=n.natAbs*2^(-e).toNat:=ha
     _<2^53*2^(-e).toNat:=(Nat.mul_lt_mul_right hpf).2 hn
   exact(Nat.pow_lt_pow_iff_right dc).1 h1
  have k2:(-e).toNat<L+1+e.toNat:=by
   have h1:2^(-e).toNat<2^(L+1+e.toNat):=by
    rw[Nat.pow_add 2 (L+1)];calc 2^(-e).toNat≤n.natAbs*2^(-e).toNat:=Nat.le_mul_of_pos_left _ hN
     _=m*2^e.toNat:=ha.symm
     _<2^(L+1)*2^e.toNat:=(Nat.mul_lt_mul_right hpe).2 l2
   exact(Nat.pow_lt_pow_iff_right dc).1 h1
  have hlp:double.leastPlace= -1074:=dc;have hfb:(double.fractionBits:Int)=52:=rfl;have hbi:double.binade=4503599627370496:=by decide+kernel
  have hin:double.infRung=9218868437227405312:=by decide+kernel
  have hsw:double.signWeight=9223372036854775808:=by decide+kernel
  obtain⟨last,hla⟩:∃last:Int,last=e+L-52:=⟨_,rfl⟩;have hmax:max (e+(L:Int)-(double.fractionBits:Int)) double.leastPlace=last:=by rw[hlp,hfb];omega
  dsimp only;rw[hmax];have hk:Toward.even.cut s (m<<<(e-last).toNat) (last-e).toNat=n.natAbs*2^(-last).toNat:=by
   rw[Nat.shiftLeft_eq];rcases Int.le_total last e with h1|h1
   ·rw[show(last-e).toNat=0 from om];have e1:m*2^(e-last).toNat=n.natAbs*2^(-last).toNat:=by
     rcases Int.le_total 0 e with h2|h2
     ·rw[show(-e).toNat=0 from om,Nat.pow_zero,Nat.mul_one]at ha;rw[show(e-last).toNat=e.toNat+(-last).toNat from om,Nat.pow_add,←Nat.mul_assoc,ha]
     ·rw[show e.toNat=0 from om,Nat.pow_zero,Nat.mul_one]at ha;rw[ha,Nat.mul_assoc,←Nat.pow_add,show(-e).toNat+(e-last).toNat=(-last).toNat from om]
    have:=vg (way:= .even) (s:=s) (q:=m*2^(e-last).toNat) (d:=0) (by have:=Nat.mul_pos hm0 (Nat.two_pow_pos (e-last).toNat);omega);rw[Nat.pow_zero,Nat.mul_one]at this;rw[this,e1]
   ·rw[show(e-last).toNat=0 from om,Nat.pow_zero,Nat.mul_one];rw[show e.toNat=0 from om,Nat.pow_zero,Nat.mul_one]at ha;rw[ha,show(-e).toNat=(-last).toNat+(last-e).toNat from om,Nat.pow_add,←Nat.mul_assoc];exact vg (by have:=Nat.mul_pos hN (Nat.two_pow_pos (-last).toNat);omega)
  rw[hk];obtain⟨K,hK⟩:∃K,K=n.natAbs*2^(-last).toNat:=⟨_,rfl⟩;rw[←hK];have hKL:K*2^L=m*2^52:=by
   refine Nat.eq_of_mul_eq_mul_right hpf ?_;rw[hK];calc n.natAbs*2^(-last).toNat*2^L*2^(-e).toNat=(n.natAbs*2^(-e).toNat)*(2^(-last).toNat*2^L):=by ac_rfl
    _=m*2^e.toNat*(2^(-last).toNat*2^L):=by rw[ha]
    _=m*2^(e.toNat+((-last).toNat+L)):=by rw[Nat.pow_add,Nat.pow_add,Nat.mul_assoc]
    _=m*2^(52+(-e).toNat):=by rw[show e.toNat+((-last).toNat+L)=52+(-e).toNat from om]
    _=m*2^52*2^(-e).toNat:=by rw[Nat.pow_add,Nat.mul_assoc]
  have hpL:=Nat.two_pow_pos L;have b1:4503599627370496≤K:=by
   have h1:4503599627370496*2^L≤K*2^L:=by rw[hKL,Nat.mul_comm];exact Nat.mul_le_mul_right _ l1
   exact Nat.le_of_mul_le_mul_right h1 hpL
  have b2:K<9007199254740992:=by
   have h1:K*2^L<9007199254740992*2^L:=by
    rw[hKL,show(9007199254740992:Nat)=2*2^52 from rfl,Nat.mul_right_comm];refine(Nat.mul_lt_mul_right dc).2 ?_;rw[←Nat.pow_succ'];exact l2
   exact Nat.lt_of_mul_lt_mul_right h1
  have hlast:last≤0∧ -52≤last:=om;obtain⟨Q,hQ⟩:∃Q,Q=(last-double.leastPlace).toNat:=⟨_,rfl⟩;have hQv:(Q:Int)=last+1074:=by rw[hQ,hlp];omega
  rw[←hQ,hbi,hin];obtain⟨R,hR⟩:∃R,R=Q*4503599627370496+K:=⟨_,rfl⟩;rw[←hR,Nat.min_eq_left om];refine⟨s,K,last,?_,WR ?_ hs⟩
  ·have hrd:∀w:Nat,(w/9223372036854775808%2==1)=s→w%9223372036854775808=R→double.read w= .number s K last:=by
    intro w g1 g2;unfold Format.read;dsimp only;rw[hsw,hbi,hin,hlp,g1,g2,if_neg om,if_pos om,show 4503599627370496+R%4503599627370496=K from om,show R/4503599627370496=Q+1 from om,Nat.add_sub_cancel,show(-1074:Int)+(Q:Int)=last from om]
   unfold Format.word;rw[hsw];cases s
   ·refine hrd _ ?_ ?_
    ·rw[if_neg dc,Nat.div_eq_of_lt om];rfl
    ·rw[if_neg dc,Nat.mod_eq_of_lt om]
   ·refine hrd _ ?_ ?_
    ·rw[if_pos rfl,show(9223372036854775808+R)/9223372036854775808=1 from om];rfl
    ·rw[if_pos rfl];omega
  ·rw[show last.toNat=0 from om,Nat.pow_zero,Nat.mul_one,hK]
def jW(w:Nat):Nat:=w ^^^ 2^63
theorem MW(w:Nat):double.read (jW w)=(double.read w).opposite:=by
 unfold Format.read;dsimp only;have hsw:double.signWeight=2^63:=by decide+kernel
 have e1:jW w%2^63=w%2^63:=by
  unfold jW;rw[Nat.xor_mod_two_pow,Nat.mod_self,Nat.xor_zero]
 have e2:(jW w/2^63%2==1)=!(w/2^63%2==1):=by
  unfold jW;rw[Nat.xor_div_two_pow,Nat.div_self dc];have:=Nat.xor_mod_two_pow (a:=w/2^63) (b:=1) (n:=1);rw[Nat.pow_one]at this;rw[this];rcases Nat.mod_two_eq_zero_or_one (w/2^63)with h|h<;>rw[h]<;>decide
 rw[hsw,e1,e2];split
 ·rfl
 ·split
  ·rfl
  ·split<;>rfl
theorem XZ{w:Nat}{n:Int}(h:FI w n):FI (jW w) (-n):=by
 obtain⟨s,m,e,h1,h2⟩:=h;exact⟨!s,m,e,by rw[MW,h1];rfl,MS h2⟩
theorem FH{x y:Nat}{a b:Int}(h:FI x a)(k:FI y b)(hb:(a+b).natAbs<2^53):∃r,floatBits .add .f64 x y=some r∧FI r (a+b):=by
 obtain⟨s,m,e,h1,h2⟩:=h;obtain⟨t,n,f,k1,k2⟩:=k;obtain⟨u,q,g,g1,g2⟩:=MR h2 k2;refine⟨double.nearest u q g,?_,oW g2 hb⟩;show((double.read x).sum (double.read y)).map double.write=_;rw[h1,k1,g1];rfl
theorem FK{x y:Nat}{a b:Int}(h:FI x a)(k:FI y b)(hb:(a-b).natAbs<2^53):∃r,floatBits .sub .f64 x y=some r∧FI r (a-b):=by
 obtain⟨s,m,e,h1,h2⟩:=h;obtain⟨t,n,f,k1,k2⟩:=k;obtain⟨u,q,g,g1,g2⟩:=MR h2 (MS k2);rw[←Int.sub_eq_add_neg]at g2;refine⟨double.nearest u q g,?_,oW g2 hb⟩;show((double.read x).sum (double.read y).opposite).map double.write=_;rw[h1,k1];show((Datum.number s m e).sum (.number (!t) n f)).map double.write=_;rw[g1];rfl
theorem BL{x y:Nat}{a b:Int}(h:FI x a)(k:FI y b)(hb:(a*b).natAbs<2^53):∃r,floatBits .mul .f64 x y=some r∧FI r (a*b):=by
 obtain⟨s,m,e,h1,h2⟩:=h;obtain⟨t,n,f,k1,k2⟩:=k;refine⟨double.nearest (s ^^ t) (m*n) (e+f),?_,oW (TM h2 k2) hb⟩;show((double.read x).product (double.read y)).map double.write=_;rw[h1,k1];rfl
theorem MX{n:Int}(hn:n.natAbs<2^53):FI (floatOfInt .f64 n) n:=by
 refine oW (s:=decide (n<0)) (m:=n.natAbs) (e:=0) ?_ hn;refine WR sy ?_;unfold wV;by_cases h:n<0
 ·rw[if_pos (decide_eq_true h)];omega
 ·rw[if_neg (by simpa using h)];omega
theorem MZ{w:Nat}{n:Int}(h:FI w n):(FloatKind.f64.decode w).toInt .zero=some n:=by
 obtain⟨s,m,e,h1,h2⟩:=h;show(double.read w).toInt .zero=_;rw[h1];have ha:=MV h2;have hs:=Iy h2;show some (signed s (Toward.zero.cut s (m<<<e.toNat) (-e).toNat) 0)=_;have hc:Toward.zero.cut s (m<<<e.toNat) (-e).toNat=n.natAbs:=by
  rw[Nat.shiftLeft_eq,ha];by_cases h0:n.natAbs=0
  ·rw[h0,Nat.zero_mul];unfold Toward.cut;simp
  ·exact vg h0
 rw[hc,Ak,Int.pow_zero,Int.mul_one,←hs]
theorem TN{x y u v:Nat}{a b c d:Int}(h1:FI x a)(h2:FI y b)(h3:FI u c)(h4:FI v d)(b1:(a+c).natAbs<2^53)(b2:(b+d).natAbs<2^53):
 ∃r i,cSumBits .add .f64 x y u v=some (r,i)∧FI r (a+c)∧FI i (b+d):=by
 obtain⟨r,e1,f1⟩:=FH h1 h3 b1
 obtain⟨i,e2,f2⟩:=FH h2 h4 b2
 exact⟨r,i,by simp[cSumBits,e1,e2],f1,f2⟩
theorem TP{x y u v:Nat}{a b c d:Int}(h1:FI x a)(h2:FI y b)(h3:FI u c)(h4:FI v d)(b1:(a-c).natAbs<2^53)(b2:(b-d).natAbs<2^53):
 ∃r i,cSumBits .sub .f64 x y u v=some (r,i)∧FI r (a-c)∧FI i (b-d):=by
 obtain⟨r,e1,f1⟩:=FK h1 h3 b1
 obtain⟨i,e2,f2⟩:=FK h2 h4 b2
 exact⟨r,i,by simp[cSumBits,e1,e2],f1,f2⟩
theorem TQ{x y u v:Nat}{a b c d:Int}(h1:FI x a)(h2:FI y b)(h3:FI u c)(h4:FI v d)(b1:(a*c).natAbs+(b*d).natAbs<2^53)(b2:(a*d).natAbs+(b*c).natAbs<2^53):
 ∃r i,cMulBits x y u v=some (r,i)∧FI r (a*c-b*d)∧FI i (a*d+b*c):=by
 obtain⟨p1,e1,f1⟩:=BL h1 h3 om
 obtain⟨p2,e2,f2⟩:=BL h2 h4 om
 obtain⟨r,e3,f3⟩:=FK f1 f2 om
 obtain⟨p3,e4,f4⟩:=BL h1 h4 om
 obtain⟨p4,e5,f5⟩:=BL h2 h3 om
 obtain⟨i,e6,f6⟩:=FH f4 f5 om
 exact⟨r,i,by simp[cMulBits,e1,e2,e3,e4,e5,e6],f3,f6⟩
theorem M_:FI 0 0:=⟨false,0,double.leastPlace,by decide+kernel,by unfold FV wV;simp⟩
theorem X0:FI 4607182418800017408 1:=⟨false,4503599627370496,-52,by decide+kernel,by unfold FV wV;decide+kernel⟩
end Go.Proofs.YtoehbmlfnjlchaaGreatDoor.Ab
namespace Go.Proofs.YtoehbmlfnjlchaaGreatDoor.Ab
open Go Go.RowKit
inductive V where
 |i (k:IntKind) (n:Int)
 |b (x:Bool)
 |s (l:List UInt8)
 |l (sz:Nat) (cs:List V)
 |o (e sz:Nat) (cs:List V)
 |g (cs:List V)
 |t (vs:List V)
 |ip (cs:List V) (k:Nat)
 |ow (sz id n:Nat)
 |sl (sz id off n:Nat)
 |pt (id off:Nat)
 |nl
 |c (v:Value)
 |un
 |any
 |fr (x:V)
 |f (n:Int)
 |z (re im:Int)
 |mu (x:V) (cs:List V)
 |tw (sz id n:Nat) (rs:List V)
 |to (e sz:Nat) (cs rs:List V)
 |fc (f:Nat) (cs:List V)
 |kn (v:Value) (x:V)
 deriving Inhabited
def V.cell:V→Bool
 | .i _ _| .b _| .s _| .l _ _=>true
 | .c v=>v.oneCell'
 | .kn v _=>v.oneCell'
 |_=>false
def V.gm:V→Bool
 | .i _ _| .b _| .s _| .c _| .un| .any| .nl| .f _| .z _ _=>false
 | .o _ _ cs=>cs.any fun x=>match x with| .i _ _| .b _| .s _=>false|_=>true
 | .g cs=>cs.any fun x=>match x with| .i _ _| .b _| .s _=>false|_=>true
 | .t cs=>cs.any fun x=>match x with| .i _ _| .b _| .s _=>false|_=>true
 |_=>true
def blk:Value→Option Nat
 | .slice (some a) _ _=>some a.block
 | .pointer (some a)=>some a.block
 |_=>none
inductive aO(w:World)(H:Nat→Prop):Value→V→Prop
 |i (k:IntKind) (n:Int):aO w H (.int k n) (.i k n)
 |b (x:Bool):aO w H (.bool x) (.b x)
 |s (l:List UInt8):aO w H (.string ⟨l.toArray⟩) (.s l)
 |l (a:Option Addr) (n cap sz:Nat) (cs:List V) (f:Nat→Value) (b o:Nat) (hsz:0<sz) (hn:cs.length=n*sz) (hm:n≤maxLen) (hcp:n≤cap)
   (ha:cs=[]∨(a=some ⟨b,o,none⟩∧H b)) (hc:∀j,j<cs.length→w.cell? ⟨b,o+j,none⟩=some (f j)) (hr:∀(j:Nat) (x:V),cs[j]? =some x→aO w H (f j) x):
   aO w H (.slice a n cap) (.l sz cs)
 |g (vs:List Value) (cs:List V) (hn:vs.length=cs.length) (hr:∀(j:Nat) (v:Value) (x:V),vs[j]? =some v→cs[j]? =some x→aO w H v x):aO w H (.agg vs.toArray) (.g cs)
 |t (vs:List Value) (cs:List V) (hn:vs.length=cs.length) (hr:∀(j:Nat) (v:Value) (x:V),vs[j]? =some v→cs[j]? =some x→aO w H v x):aO w H (.tuple vs.toArray) (.t cs)
 |ip (cs:List V) (k:Nat) (f:Nat→Value) (b o:Nat) (hb:H b) (hc:∀j,j<cs.length→w.cell? ⟨b,o+j,none⟩=some (f j)) (hr:∀(j:Nat) (x:V),cs[j]? =some x→aO w H (f j) x):
   aO w H (.pointer (some ⟨b,o+k,none⟩)) (.ip cs k)
 |nl:aO w H (.slice none 0 0) .nl
 |c (v:Value):aO w H v (.c v)
 |un:aO w H undef .un
 |any (v:Value):aO w H v .any
 |f (q:Nat) (n:Int) (h:FI q n):aO w H (.float .f64 q) (.f n)
 |z (p q:Nat) (a b:Int) (h:FI p a) (k:FI q b):aO w H (.complex .f64 p q) (.z a b)
 |fc (fn:Nat) (cs:List V) (f:Nat→Value) (b:Nat) (hb:H b) (hc:∀j,j<cs.length→w.cell? ⟨b,0+j,none⟩=some (f j)) (hr:∀(j:Nat) (x:V),cs[j]? =some x→aO w H (f j) x):
   aO w H (.func (.func fn) #[] #[.pointer (some ⟨b,0,none⟩)]) (.fc fn cs)
 |kn (v:Value) (x:V) (h:aO w H v x):aO w H v (.kn v x)
inductive Rep(w:World)(H:Nat→Prop)(ov:Nat→Option Value):Value→V→Prop
 |base {v:Value} {x:V} (h:aO w H v x):Rep w H ov v x
 |ow (sz id n cap:Nat) (a:Option Addr) (hm:n≤maxLen) (hcp:n≤cap) (ha:n=0∨∃b,a=some ⟨b,0,none⟩) (ho:ov id=some (.slice a n cap)):Rep w H ov (.slice a n cap) (.ow sz id n)
 |sl (a:Option Addr) (sz id off n cap:Nat) (v:Value) (hm:n≤maxLen) (hcp:n≤cap) (ho:ov id=some v) (ha:n=0∨∃b,blk v=some b∧a=some ⟨b,off,none⟩) (hz:off=0→0<sz→∃m,v= .slice a m cap):Rep w H ov (.slice a n cap) (.sl sz id off n)
 |pt (id off b:Nat) (v:Value) (ho:ov id=some v) (hb:blk v=some b):Rep w H ov (.pointer (some ⟨b,off,none⟩)) (.pt id off)
 |tw (sz id n cap:Nat) (a:Option Addr) (vs:List Value) (rs:List V) (hm:n≤maxLen) (hcp:n≤cap) (ha:n=0∨∃b,a=some ⟨b,0,none⟩) (ho:ov id=some (.slice a n cap)) (hr:vs.length=rs.length∧∀(j:Nat) (v:Value) (x:V),vs[j]? =some v→rs[j]? =some x→aO w H v x):
   Rep w H ov (.tuple (.slice a n cap::vs).toArray) (.tw sz id n rs)
structure Ext(w:World)(H:Nat→Prop)(ov:Nat→Option Value)(w':World)(H':Nat→Prop)(dh:Nat→Option Value):Prop where
 hH:∀b,H b→H' b
 hw:∀b,H b→w'.heap[b]? =w.heap[b]?
 ho:∀i v,ov i=some v→dh i=some v
theorem Ext.refl(w:World)(H:Nat→Prop)(ov:Nat→Option Value):Ext w H ov w H ov:=⟨fun _ h=>h,fun _ _=>rfl,fun _ _ h=>h⟩
theorem Ext.trans{w w1 w2:World}{H H1 H2:Nat→Prop}{ov X3 X4:Nat→Option Value}(h:Ext w H ov w1 H1 X3)(k:Ext w1 H1 X3 w2 H2 X4):Ext w H ov w2 H2 X4:=
 ⟨fun b hb=>k.hH b (h.hH b hb),fun b hb=>(k.hw b (h.hH b hb)).trans (h.hw b hb),fun i v hi=>k.ho i v (h.ho i v hi)⟩
theorem aO.mono{w w':World}{H H':Nat→Prop}(eH:∀b,H b→H' b)(ew:∀b,H b→w'.heap[b]? =w.heap[b]?){v:Value}{x:V}(h:aO w H v x):aO w' H' v x:=by
 induction h with
 |i k n=>exact .i k n
 |b x=>exact .b x
 |s l=>exact .s l
 |l a n cap sz cs f b o hsz hn hm hcp ha hc hr ih=>
  refine .l a n cap sz cs f b o hsz hn hm hcp (ha.imp id fun h=>⟨h.1,eH _ h.2⟩) (fun j hj=>?_) (fun j x hx=>ih j x hx);rcases ha with rfl|⟨rfl,hb⟩
  ·simp at hj
  ·exact(World.cell?_of_block (a:=⟨b,o+j,none⟩) (ew b hb)).trans (hc j hj)
 |g vs cs hn hr ih=>exact .g vs cs hn fun j v x h1 h2=>ih j v x h1 h2
 |t vs cs hn hr ih=>exact .t vs cs hn fun j v x h1 h2=>ih j v x h1 h2
 |ip cs k f b o hb hc hr ih=>
  exact .ip cs k f b o (eH _ hb) (fun j hj=>(World.cell?_of_block (a:=⟨b,o+j,none⟩) (ew b hb)).trans (hc j hj)) fun j x hx=>ih j x hx
 |nl=>exact .nl
 |c v=>exact .c v
 |un=>exact .un
 |any v=>exact .any v
 |f q n h=>exact .f q n h
 |z p q a b h k=>exact .z p q a b h k
 |fc fn cs f b hb hc hr ih=>
  exact .fc fn cs f b (eH _ hb) (fun j hj=>(World.cell?_of_block (a:=⟨b,0+j,none⟩) (ew b hb)).trans (hc j hj)) fun j x hx=>ih j x hx
 |kn v x h ih=>exact .kn v x ih
theorem Rep.mono{w w':World}{H H':Nat→Prop}{ov dh:Nat→Option Value}(e:Ext w H ov w' H' dh){v:Value}{x:V}(h:Rep w H ov v x):Rep w' H' dh v x:=by
 cases h with
 |base h=>exact .base (h.mono e.hH e.hw)
 |ow sz id n cap a hm hcp ha ho=>exact .ow sz id n cap a hm hcp ha (e.ho _ _ ho)
 |sl a sz id off n cap v hm hcp ho ha hz=>exact .sl a sz id off n cap v hm hcp (e.ho _ _ ho) ha hz
 |pt id off b v ho hb=>exact .pt id off b v (e.ho _ _ ho) hb
 |tw sz id n cap a vs rs hm hcp ha ho hr=>exact .tw sz id n cap a vs rs hm hcp ha (e.ho _ _ ho) ⟨hr.1,fun j v x h1 h2=>(hr.2 j v x h1 h2).mono e.hH e.hw⟩
section
variable {w:World} {H:Nat→Prop} {ov:Nat→Option Value}
theorem Rep.i(k:IntKind)(n:Int):Rep w H ov (.int k n) (.i k n):= .base (.i k n)
theorem Rep.b(x:Bool):Rep w H ov (.bool x) (.b x):= .base (.b x)
theorem Rep.s(l:List UInt8):Rep w H ov (.string ⟨l.toArray⟩) (.s l):= .base (.s l)
theorem Rep.nl:Rep w H ov (.slice none 0 0) .nl:= .base .nl
theorem Rep.any(v:Value):Rep w H ov v .any:= .base (.any v)
theorem Rep.un:Rep w H ov undef .un:= .base .un
theorem Rep.up{v:Value}{x:V}(h:aO w H v x):Rep w H ov v x:= .base h
theorem Rep.down{v:Value}{x:V}(h:Rep w H ov v x)(hx:x.cell=true):aO w H v x:=by
 cases h<;>first|assumption|(simp[V.cell]at hx)
end
theorem aO.oneCell{w:World}{H:Nat→Prop}{v:Value}{x:V}(h:aO w H v x)(hx:x.cell=true):v.oneCell'=true:=by
 cases h<;>first|rfl|(simp[V.cell]at hx;done)|exact hx
structure Ob where
 e:Nat
 sz:Nat
 cs:List V
 mu:Bool
 iy:Bool
 deriving Inhabited
def aA(w:World)(H:Nat→Prop)(xs:List Value)(cs:List V):Prop:=
 xs.length=cs.length∧∀(j:Nat) (v:Value) (x:V),xs[j]? =some v→cs[j]? =some x→aO w H v x
theorem aA.mono{w w':World}{H H':Nat→Prop}(eH:∀b,H b→H' b)(ew:∀b,H b→w'.heap[b]? =w.heap[b]?){xs:List Value}{cs:List V}(h:aA w H xs cs):aA w' H' xs cs:=
 ⟨h.1,fun j v x h1 h2=>(h.2 j v x h1 h2).mono eH ew⟩
structure HS where
 h:Nat→Prop
 e:Nat→Prop
 kp:List (Nat×Value)
def Ow(w0:World)(H0:HS)(b:Nat):Prop:=w0.heap.size≤b∨H0.e b
structure aY(w0:World)(e:Nat→Prop)(w:World):Prop where
 os:w.os=w0.os
 tape:w.tape=w0.tape
 output:w.output=w0.output
 size:w0.heap.size≤w.heap.size
 block:∀k,k<w0.heap.size→¬e k→w.heap[k]? =w0.heap[k]?
theorem aY.refl(w:World)(e:Nat→Prop):aY w e w:=⟨rfl,rfl,rfl,Nat.le_refl _,fun _ _ _=>rfl⟩
theorem aY.after{w0 w w':World}{e:Nat→Prop}(h:aY w0 e w)(k:Below w.heap.size w w'):aY w0 e w':=
 ⟨k.os.trans h.os,k.tape.trans h.tape,k.output.trans h.output,Nat.le_trans h.size k.size,fun i hi he=>(k.block i (Nat.lt_of_lt_of_le hi h.size)).trans (h.block i hi he)⟩
theorem aY.drew{w0 w:World}{e:Nat→Prop}(h:aY w0 e w):aY w0 e w.drew:=⟨h.os,h.tape,h.output,h.size,h.block⟩
theorem aY.chg{w0 w w':World}{H0:HS}(h:aY w0 H0.e w){b:Nat}(hb:Ow w0 H0 b)(ho:w'.os=w.os)(ht:w'.tape=w.tape)(hu:w'.output=w.output)(hs:w.heap.size≤w'.heap.size)(hk:∀k,k<w.heap.size→k≠b→w'.heap[k]? =w.heap[k]?):aY w0 H0.e w':=
 ⟨ho.trans h.os,ht.trans h.tape,hu.trans h.output,Nat.le_trans h.size hs,fun i hi he=>(hk i (Nat.lt_of_lt_of_le hi h.size) (fun e=>by
   subst e;rcases hb with hb|hb
   ·omega
   ·exact he hb)).trans (h.block i hi he)⟩
theorem aY.grown{w0 w w':World}{H0:HS}(h:aY w0 H0.e w){row:Option Nat}(hg:w.grownBy w' row)(hr:∀k,row=some k→Ow w0 H0 k):aY w0 H0.e w':=
 ⟨hg.os.trans h.os,hg.tape.trans h.tape,hg.output.trans h.output,Nat.le_trans h.size hg.size,fun i hi he=>(hg.block i (Nat.lt_of_lt_of_le hi h.size) (fun e=>by
   rcases hr i e.symm with hb|hb
   ·omega
   ·exact he hb)).trans (h.block i hi he)⟩
theorem aY.via{w0 w w':World}{H0:HS}{e:Nat→Prop}(h:aY w0 H0.e w)(k:aY w e w')(he:∀b,e b→Ow w0 H0 b):aY w0 H0.e w':=
 ⟨k.os.trans h.os,k.tape.trans h.tape,k.output.trans h.output,Nat.le_trans h.size k.size,fun i hi hn=>(k.block i (Nat.lt_of_lt_of_le hi h.size) (fun e=>by
   rcases he i e with hb|hb
   ·omega
   ·exact hn hb)).trans (h.block i hi hn)⟩
theorem aY.below{w0 w:World}{e:Nat→Prop}(h:aY w0 e w)(he:∀b,¬e b):Below w0.heap.size w0 w:=⟨h.os,h.tape,h.output,h.size,fun k hk=>h.block k hk (he k)⟩
def X5(e:Nat):Bool:=e==30
def keepT(t:Nat):Bool:=t==28
def isRef:V→Bool
 | .ow _ _ _| .sl _ _ _ _| .nl=>true
 |_=>false
def r_(o:Ob):Bool:=o.iy&&X5 o.e
theorem Na:(∀(e sz:Nat) (cs:List V) (mu:Bool),(r_ ⟨e,sz,cs,mu,false⟩=false)=True)∧(∀(e sz:Nat) (cs:List V) (mu:Bool),(r_ ⟨e,sz,cs,mu,true⟩=false)=((e=30)=False))∧(∀(e sz:Nat) (cs:List V) (mu:Bool),(r_ ⟨e,sz,cs,mu,true⟩=true)=(e=30)):=
 ⟨fun e sz cs mu=>eq_true rfl,fun e sz cs mu=>by unfold r_ X5;simp,fun e sz cs mu=>by unfold r_ X5;simp⟩
def TR:Option Ob→Prop
 |some o=>r_ o=false
 |none=>True
theorem X6{o:Ob}:TR (some o)=(r_ o=false):=rfl
theorem X7:TR none=True:=rfl
def kL(w:World)(H:Nat→Prop)(ov:Nat→Option Value)(xs:List Value)(cs:List V):Prop:=
 xs.length=cs.length∧∀(j:Nat) (v:Value) (x:V),xs[j]? =some v→cs[j]? =some x→Rep w H ov v x
theorem kL.mono{w w':World}{H H':Nat→Prop}{ov dh:Nat→Option Value}(e:Ext w H ov w' H' dh){xs:List Value}{cs:List V}(h:kL w H ov xs cs):kL w' H' dh xs cs:=
 ⟨h.1,fun j v x h1 h2=>(h.2 j v x h1 h2).mono e⟩
theorem aA.cs{w:World}{H:Nat→Prop}{ov:Nat→Option Value}{xs:List Value}{cs:List V}(h:aA w H xs cs):kL w H ov xs cs:=⟨h.1,fun j v x h1 h2=> .base (h.2 j v x h1 h2)⟩
theorem kL.all{w:World}{H:Nat→Prop}{ov:Nat→Option Value}{xs:List Value}{cs:List V}(h:kL w H ov xs cs)(hc:∀x,x∈cs→x.cell=true):aA w H xs cs:=
 ⟨h.1,fun j v x h1 h2=>(h.2 j v x h1 h2).down (hc x (List.mem_of_getElem? h2))⟩
structure dM(w:World)(H:Nat→Prop)(O:Nat→Prop)(ov:Nat→Option Value)(v:Value)(ob:Ob):Prop where
 um:∀x,x∈ob.cs→x.cell=true∨(r_ ob=true∧isRef x=true)
 ow:∀b,blk v=some b→O b
 fz:∀b,blk v=some b→(H b↔ob.mu=false)
 bd:(ob.iy=true∧((∃b cur,v= .pointer (some ⟨b,0,none⟩)∧0≤b∧w.heap[b]? =some (.cells cur ob.e (0,0))∧kL w H ov cur.toList ob.cs)∨
     (0<ob.sz∧∃n xs,w.ownsRow 0 ob.e ob.sz v n xs∧kL w H ov xs ob.cs∧n≤maxLen)))∨
  (ob.iy=false∧0<ob.sz∧∃n xs,w.ownsRow 0 ob.e ob.sz v n xs∧aA w H xs ob.cs∧n≤maxLen)
def tabs:Nat→Option (List V):=fun _=>none
def TJ(w:World)(H:Nat→Prop):Prop:=∀g cs,tabs g=some cs→H g∧∀(j:Nat) (x:V),cs[j]? =some x→∃v,w.cell? ⟨g,j,none⟩=some v∧aO w H v x
theorem TJ.mono{w w':World}{H H':Nat→Prop}(h:TJ w H)(eH:∀b,H b→H' b)(ew:∀b,H b→w'.heap[b]? =w.heap[b]?):TJ w' H':=fun g cs hg=>by
 obtain⟨h1,h2⟩:=h g cs hg;refine⟨eH g h1,fun j x hx=>?_⟩;obtain⟨v,h3,h4⟩:=h2 j x hx;exact⟨v,(World.cell?_of_block (a:=⟨g,j,none⟩) (ew g h1)).trans h3,h4.mono eH ew⟩
theorem TJ.rep{w:World}{H:Nat→Prop}(h:TJ w H){g:Nat}{cs:List V}(hg:tabs g=some cs):aO w H (.pointer (some ⟨g,0,none⟩)) (.ip cs 0):=by
 obtain⟨h1,h2⟩:=h g cs hg;refine .ip cs 0 (fun j=>(w.cell? ⟨g,0+j,none⟩).getD undef) g 0 h1 (fun j hj=>?_) (fun j x hx=>?_)
 ·obtain⟨v,h3,_⟩:=h2 j cs[j] (List.getElem?_eq_getElem hj);rw[Nat.zero_add,h3];rfl
 ·obtain⟨v,h3,h4⟩:=h2 j x hx;simp only[Nat.zero_add,h3,Option.getD_some];exact h4
structure Mem(w0:World)(H0:HS)(w:World)(H:Nat→Prop)(ov:Nat→Option Value)(ob:Nat→Option Ob):Prop where
 bel:aY w0 H0.e w
 tj:TJ w H
 pV:∀b,H b→b<w.heap.size
 low:∀b,H b→b<w0.heap.size→H0.h b∨H0.e b
 obj:∀id o,ob id=some o→∃v,ov id=some v∧dM w H (Ow w0 H0) ov v o
 sep:∀i j oi oj vi vj b,i≠j→ob i=some oi→ob j=some oj→ov i=some vi→ov j=some vj→blk vi=some b→blk vj≠some b
theorem dM.cl{w:World}{H:Nat→Prop}{O:Nat→Prop}{ov:Nat→Option Value}{v:Value}{ob:Ob}(h:dM w H O ov v ob)(hr:r_ ob=false):∀x,x∈ob.cs→x.cell=true:=fun x hx=>by
 rcases h.um x hx with h1|⟨h1,_⟩
 ·exact h1
 ·rw[hr]at h1;cases h1
theorem dM.any{w:World}{H:Nat→Prop}{O:Nat→Prop}{ov:Nat→Option Value}{v:Value}{ob:Ob}(h:dM w H O ov v ob)(hr:r_ ob=false)(dh:Nat→Option Value):dM w H O dh v ob:=by
 refine⟨h.um,h.ow,h.fz,h.bd.imp (fun⟨hv,hx⟩=>⟨hv,hx.imp (fun⟨b,cur,e,hB,hh,hra⟩=>⟨b,cur,e,hB,hh,(hra.all (h.cl hr)).cs⟩) fun⟨hsz,n,xs,hown,hra,hm⟩=>⟨hsz,n,xs,hown,(hra.all (h.cl hr)).cs,hm⟩⟩) id⟩
theorem lN{ob:Ob}(h:ob.iy=false):r_ ob=false:=by unfold r_;rw[h];rfl
theorem dM.cell{w:World}{H:Nat→Prop}{O:Nat→Prop}{ov:Nat→Option Value}{v:Value}{ob:Ob}(h:dM w H O ov v ob){j:Nat}{x:V}(hx:ob.cs[j]? =some x):
 ∃b u,blk v=some b∧w.cell? ⟨b,j,none⟩=some u∧w.frozen? ⟨b,j,none⟩=false∧Rep w H ov u x∧O b:=by
 rcases h.bd with ⟨_,⟨b,cur,rfl,hB,hh,hr⟩|⟨hsz,n,xs,hown,hr,_⟩⟩|⟨_,hsz,n,xs,hown,hr0,_⟩
 ·have hj:j<cur.toList.length:=by have:=(List.getElem?_eq_some_iff.1 hx).1;have:=hr.1;omega
  refine⟨b,cur.toList[j],rfl,?_,frozen_of_row w b j cur ob.e hh,hr.2 j _ x (List.getElem?_eq_getElem hj) hx,h.ow b rfl⟩;rw[cell_of_row w b j cur ob.e (0,0) hh];simp at hj ⊢
 ·have hj:j<xs.length:=by have:=(List.getElem?_eq_some_iff.1 hx).1;have:=hr.1;omega
  have hown':=hown;rcases hown.2 with ⟨rfl,rfl⟩|⟨g,cap,cur,rfl,hb,hh,hnc,hcm,hcs,htake⟩
  ·have:=hown.1;simp at this;subst this;simp at hj
  ·refine⟨g,xs[j],rfl,?_,hown'.frozenAt j,hr.2 j _ x (List.getElem?_eq_getElem hj) hx,h.ow g rfl⟩;rw[hown'.cellAt j (by rw[←hown.1];exact hj),List.getElem?_eq_getElem hj]
 ·have hr:kL w H ov xs ob.cs:=hr0.cs;have hj:j<xs.length:=by have:=(List.getElem?_eq_some_iff.1 hx).1;have:=hr.1;omega
  have hown':=hown;rcases hown.2 with ⟨rfl,rfl⟩|⟨g,cap,cur,rfl,hb,hh,hnc,hcm,hcs,htake⟩
  ·have:=hown.1;simp at this;subst this;simp at hj
  ·refine⟨g,xs[j],rfl,?_,hown'.frozenAt j,hr.2 j _ x (List.getElem?_eq_getElem hj) hx,h.ow g rfl⟩;rw[hown'.cellAt j (by rw[←hown.1];exact hj),List.getElem?_eq_getElem hj]
theorem dM.mono{w w':World}{H H':Nat→Prop}{O:Nat→Prop}{ov dh:Nat→Option Value}{v:Value}{ob:Ob}(h:dM w H O ov v ob)(ho:∀i v,ov i=some v→dh i=some v)(hH:∀b,H b→H' b)(hw:∀b,H b→w'.heap[b]? =w.heap[b]?)
 (hb:∀b,blk v=some b→w'.heap[b]? =w.heap[b]?) (hf:∀b,blk v=some b→H' b→H b):dM w' H' O dh v ob:=by
 refine⟨h.um,h.ow,fun b hb=>⟨fun h'=>(h.fz b hb).1 (hf b hb h'),fun h'=>hH b ((h.fz b hb).2 h')⟩,?_⟩
 have e:Ext w H ov w' H' dh:=⟨hH,hw,ho⟩
 rcases h.bd with ⟨hv,⟨b,cur,rfl,hB,hh,hr⟩|⟨hsz,n,xs,hown,hr,hm⟩⟩|⟨hv,hsz,n,xs,hown,hr,hm⟩
 ·exact .inl ⟨hv,.inl ⟨b,cur,rfl,hB,(hb b rfl).trans hh,hr.mono e⟩⟩
 ·refine .inl ⟨hv,.inr ⟨hsz,n,xs,⟨hown.1,?_⟩,hr.mono e,hm⟩⟩;rcases hown.2 with hn|⟨g,cap,cur,rfl,hbg,hh,rest⟩
  ·exact .inl hn
  ·exact .inr ⟨g,cap,cur,rfl,hbg,(hb g rfl).trans hh,rest⟩
 ·refine .inr ⟨hv,hsz,n,xs,⟨hown.1,?_⟩,hr.mono hH hw,hm⟩;rcases hown.2 with hn|⟨g,cap,cur,rfl,hbg,hh,rest⟩
  ·exact .inl hn
  ·exact .inr ⟨g,cap,cur,rfl,hbg,(hb g rfl).trans hh,rest⟩
def lk:List (Nat×V)→Nat→V
 |[],_=> .any
 |(k,v)::r,t=>if k=t then v else lk r t
def lo:List (Nat×Option Ob)→Nat→Option Ob
 |[],_=>none
 |(k,v)::r,t=>if k=t then v else lo r t
structure St where
 env:List (Nat×V)
 lX:List (Nat×Option Ob)
 nx:Nat
 deriving Inhabited
def St.get(s:St)(t:Nat):V:=lk s.env t
def St.ob(s:St)(i:Nat):Option Ob:=lo s.lX i
def St.put(s:St)(d:Option Nat)(v:V):St:=match d with|some d=>{s with env:=(d,v)::s.env}|none=>s
inductive X where
 |t (n:Nat)
 |k (v:V)
 deriving Inhabited
def St.val(s:St):X→V
 | .t n=>s.get n
 | .k v=>v
def upd(ob:Nat→Option Ob)(up:List (Nat×Option Ob)):Nat→Option Ob:=fun i=>
 match up with
 |[]=>ob i
 |(k,v)::r=>if k=i then v else upd ob r i
structure Conc(w0:World)(H0:HS)(w:World)(H:Nat→Prop)(ov:Nat→Option Value)(N:Nat)(a:Act)(s:St):Prop where
 mem:Mem w0 H0 w H ov s.ob
 Dp:a.tmps.size=N
 Am:a.defers=[]
 kp:∀m v,(m,v)∈H0.kp→a.tmps.getD m undef=v
 env:∀t,Rep w H ov (a.tmps.getD t undef) (s.get t)
 new:∀id,s.nx≤id→ov id=none
end Go.Proofs.YtoehbmlfnjlchaaGreatDoor.Ab
namespace Go.Proofs.YtoehbmlfnjlchaaGreatDoor.Ab
open Go Go.RowKit
inductive NO where
 |i2f
 |f2i (k:IntKind)
 |mkz
 |re
 |im
 |TS
 |TT
 |TU
 deriving Inhabited
inductive PO where
 |nm (q:NO)
 |eqs (neg:Bool) (ks:List Nat)
 |b2s
 |s2b (e:Nat)
 deriving Inhabited
def Nb:Nat→V→V→Option Bool
 |1,.i k a,.i k' b=>if k=k' then some (decide (a=b))else none
 |0,.b a,.b b=>some (a==b)
 |2,.s a,.s b=>some (a==b)
 |_,_,_=>none
def both:Option Bool→Option Bool→Option Bool
 |some a,some b=>some (a&&b)
 |_,_=>none
def vk:List Nat→List V→List V→Option Bool
 |[],[],[]=>some true
 |k::ks,x::r,y::q=>both (Nb k x y) (vk ks r q)
 |_,_,_=>none
def Bt(l:List UInt8):List V:=l.map fun c=> .i .u8 (c.toNat:Int)
def bytesOf:List V→Option (List UInt8)
 |[]=>some []
 | .i .u8 n::r=>match bytesOf r with|some l=>if 0≤n∧n<256 then some (UInt8.ofNat n.toNat::l)else none|none=>none
 |_=>none
def big:Nat:=9007199254740992
def FM:List V→Option V
 |[.i _ n]=>if n.natAbs<big then some (.f n)else none
 |_=>none
def FN(k:IntKind):List V→Option V
 |[.f n]=>if k.min≤n∧n≤k.max then some (.i k n)else none
 |_=>none
def FO:List V→Option V
 |[.f a,.f b]=>some (.z a b)
 |_=>none
def X8:List V→Option V
 |[.z a _]=>some (.f a)
 |_=>none
def X9:List V→Option V
 |[.z _ b]=>some (.f b)
 |_=>none
def yj:List V→Option V
 |[.z a b,.z c d]=>if(a+c).natAbs<big∧(b+d).natAbs<big then some (.z (a+c) (b+d))else none
 |_=>none
def yt:List V→Option V
 |[.z a b,.z c d]=>if(a-c).natAbs<big∧(b-d).natAbs<big then some (.z (a-c) (b-d))else none
 |_=>none
def yw:List V→Option V
 |[.z a b,.z c d]=>if(a*c).natAbs+(b*d).natAbs<big∧(a*d).natAbs+(b*c).natAbs<big then some (.z (a*c-b*d) (a*d+b*c))else none
 |_=>none
def WS:NO→List V→Option V
 | .i2f=>FM
 | .f2i k=>FN k
 | .mkz=>FO
 | .re=>X8
 | .im=>X9
 | .TS=>yj
 | .TT=>yt
 | .TU=>yw
def jA:PO→List V→Option V
 | .nm q,vs=>WS q vs
 | .eqs neg ks,[.g xs,.g ys]=>(vk ks xs ys).map fun t=> .b (if neg then !t else t)
 | .b2s,[.l z cs]=>if z=1 then(bytesOf cs).map .s else none
 | .s2b _,[.s l]=>if l.length≤9223372036854775807 then some (.l 1 (Bt l))else none
 |_,_=>none
inductive bY where
 |mv (x:X)
 |pick (c a b:X)
 |bin (op:BinOp) (x y:X)
 |BM (neg:Bool) (x y:X)
 |un (op:UnOp) (x:X)
 |Ad (k:IntKind) (x:X)
 |six (x i:X)
 |idx (sz:Nat) (x i:X)
 |ld (ag:Bool) (n:Nat) (p:X)
 |st (n:Nat) (p x:X)
 |stk (p x:X)
 |dQ (off:Nat) (p:X)
 |Nc (ag:Bool) (off n:Nat) (x:X)
 |sO (zero:List V) (ps:List (Nat×Nat×X))
 |nz (e sz n:Nat) (zero:List V) (ps:List (Nat×X))
 |mk (e sz bytes:Nat) (zero:List V) (l c:X)
 |sub (sz:Nat) (x:X) (lo hi:Option X)
 |vw (x:X) (lo hi:Option X)
 |len (x:X)
 |slen (x:X)
 |app (e sz bytes:Nat) (s x:X)
 |al (e:Nat) (zero:List V)
 |ext (x:X) (ix:Nat)
 |call (f:Nat) (args:List (Nat×X))
 |jU (f:Nat) (args:List X)
 |nc (x:X)
 |mm (mx:Bool) (x y:X)
 |FP (neg:Bool) (x:X)
 |bx (e:Nat) (x:X)
 |uZ (p:PO) (xs:List X)
 |Fq (sz:Nat) (x y:X)
 |Nh (n sz:Nat) (x i:X)
 |JM (n sz:Nat) (x:X) (lo hi:Option X)
 |nR (f m:Nat) (args:List (Nat×X))
 |dcall (x:X) (args:List (Nat×X))
 |apps (e:Nat) (s x:X)
 |nS (f:Nat) (x:X)
 |clo (f:Nat) (x:X)
 |bad
 deriving Inhabited
def dyns:List Nat:=[70]
def FQ(f:Nat):Bool:=dyns.contains f
theorem Nj:FQ 70=true:=rfl
def JO:V→Option Nat
 | .c (.func (.func f) a b)=>if a.size=0∧b.size=0 then some f else none
 |_=>none
def chk(p q:Prop):Prop:=p∧q
theorem X_{p q:Prop}(h:p):chk p q=q:=by simp[chk,h]
def cnd(v:V)(p q:Prop):Prop:=match v with| .b t=>(t=true→p)∧(t=false→q)|_=>False
theorem uo{p q:Prop}:cnd (.b true) p q=p:=by simp[cnd]
theorem rG{p q:Prop}:cnd (.b false) p q=q:=by simp[cnd]
theorem qp{t:Bool}{p q:Prop}(h:t=true→p)(k:t=false→q):cnd (.b t) p q:=⟨h,k⟩
def bi(op:BinOp)(k:IntKind)(a:Int)(k':IntKind)(b:Int)(K:V→Prop):Prop:=
 match op with
 | .add=>chk (k=k') (K (.i k (k.wrap (a+b))))
 | .sub=>chk (k=k') (K (.i k (k.wrap (a-b))))
 | .mul=>chk (k=k') (K (.i k (k.wrap (a*b))))
 | .quo=>chk (k=k'∧b≠0) (K (.i k (k.wrap (a.tdiv b))))
 | .rem=>chk (k=k'∧b≠0) (K (.i k (a.tmod b)))
 | .and=>chk (k=k') (K (.i k (bits .and k a b)))
 | .or=>chk (k=k') (K (.i k (bits .or k a b)))
 | .xor=>chk (k=k') (K (.i k (bits .xor k a b)))
 | .andNot=>chk (k=k') (K (.i k (bits .andNot k a b)))
 | .shl=>chk (0≤b) (K (.i k (k.wrap (a*2^(min b.toNat k.bits)))))
 | .shr=>chk (0≤b) (K (.i k (a.fdiv (2^(min b.toNat k.bits)))))
 | .eql=>chk (k=k') (K (.b (decide (a=b))))
 | .neq=>chk (k=k') (K (.b (decide (¬a=b))))
 | .lss=>chk (k=k') (K (.b (decide (a<b))))
 | .leq=>chk (k=k') (K (.b (decide (a≤b))))
 | .gtr=>chk (k=k') (K (.b (decide (b<a))))
 | .geq=>chk (k=k') (K (.b (decide (b≤a))))
def bs(op:BinOp)(a b:List UInt8)(K:V→Prop):Prop:=
 match op with
 | .add=>chk (a.length+b.length≤9223372036854775807) (K (.s (a++b)))
 | .eql=>K (.b (a==b))
 | .neq=>K (.b (!(a==b)))
 |_=>False
def rd(ob:Nat→Option Ob)(sz:Nat):V→V
 | .ow _ id _=>match ob id with|some o=>if o.iy then .any else .l o.sz o.cs|none=> .any
 | .sl _ id off n=>match ob id with|some o=>if o.iy then .any else .l o.sz ((o.cs.drop off).take (n*o.sz))|none=> .any
 | .nl=> .l sz []
 |v=>v
def xx:V→V
 | .kn _ (.l s cs)=> .l s cs
 |v=>v
theorem Ya(v:V):xx v=v∨∃s cs,xx v= .l s cs:=by
 unfold xx;split
 ·exact .inr ⟨_,_,rfl⟩
 ·exact .inl rfl
def Dy(n:Bool)(ob:Nat→Option Ob)(sz:Nat)(v:V):V:=match n,v with|true,.nl=> .nl|_,v=>rd ob sz v
def uu:V→V
 | .ow sz i n=> .sl sz i 0 n
 |v=>v
def okR(ob:Nat→Option Ob):V→Prop
 | .sl _ id off n=>match ob id with|some o=>off+n*o.sz≤o.cs.length|none=>False
 |_=>True
def iJ(ob:Nat→Option Ob):List V→Prop
 |[]=>True
 |v::r=>okR ob v∧iJ ob r
def dU(ob:Nat→Option Ob):V→List (Nat×Option Ob)
 | .ow _ id _| .sl _ id _ _=>match ob id with|some o=>[(id,some {o with mu:=false})]|none=>[]
 |_=>[]
def V.aV:V→Bool
 | .i _ _| .b _| .s _| .l _ _| .g _| .ip _ _| .c _| .kn _ _| .f _| .z _ _| .fc _ _=>true
 |_=>false
def V.cells:V→List V
 | .g cs=>cs
 |v=>[v]
def setAt{α:Type}(cs:List α)(k:Nat):List α→List α
 |[]=>cs
 |v::r=>setAt (cs.set k v) (k+1) r
def iZ(cs:List V):List (Nat×List V)→List V
 |[]=>cs
 |(k,vs)::r=>iZ (setAt cs k vs) r
def fitAll(n:Nat):List (Nat×List V)→Bool
 |[]=>true
 |(k,vs)::r=>decide (k+vs.length≤n)&&vs.all V.cell&&fitAll n r
section
variable (F G:Nat→List V→V→Prop)
def ev(ρ:X→V)(ob:Nat→Option Ob)(id:Nat)(K:V→List (Nat×Option Ob)→Prop):bY→Prop
 | .mv x=>K (ρ x) []
 | .pick c a b=>cnd (ρ c) (K (ρ a) []) (K (ρ b) [])
 | .bin op x y=>match ρ x,ρ y with
   | .i k a,.i k' b=>bi op k a k' b fun v=>K v []
   | .s a,.s b=>bs op a b fun v=>K v []
   |_,_=>False
 | .BM neg x y=>match ρ x,ρ y with
   | .b a,.b c=>K (.b (if neg then !(a==c)else a==c)) []
   |_,_=>False
 | .un op x=>match op,ρ x with
   | .not,.b t=>K (.b !t) []
   | .neg,.i k n=>K (.i k (k.wrap (0-n))) []
   | .neg,.f n=>K (.f (-n)) []
   | .xor,.i k n=>K (.i k (bits .xor k (if k.signed then-1 else k.max) n)) []
   |_,_=>False
 | .Ad k x=>match ρ x with
   | .i _ n=>K (.i k (k.wrap n)) []
   |_=>False
 | .six x i=>match ρ x,ρ i with
   | .s l,.i _ n=>chk (0≤n∧n<l.length) (K (.i .u8 (l.getD n.toNat 0).toNat) [])
   |_,_=>False
 | .idx sz x i=>match ρ x,ρ i with
   | .l s cs,.i _ n=>chk (s=sz∧0≤n∧n.toNat*sz<cs.length) (K (.ip cs (n.toNat*sz)) [])
   | .ow s j m,.i _ n=>chk (s=sz∧0≤n∧n<m) (K (.pt j (n.toNat*sz)) [])
   | .sl s j off m,.i _ n=>chk (s=sz∧0≤n∧n<m) (K (.pt j (off+n.toNat*sz)) [])
   |_,_=>False
 | .ld ag n p=>match ρ p with
   | .ip cs k=>if ag then chk (k+n≤cs.length) (K (.g ((cs.drop k).take n)) [])else chk (k<cs.length) (K (cs.getD k .un) [])
   | .pt j k=>match ob j with
     |some o=>if ag then chk (k+n≤o.cs.length∧r_ o=false) (K (.g ((o.cs.drop k).take n)) [])else chk (k<o.cs.length) (K (o.cs.getD k .un) [])
     |none=>False
   |_=>False
 | .st n p x=>match ρ p with
   | .pt j k=>match ob j with
     |some o=>chk (okR ob (ρ x)∧o.mu=true∧(dU ob (ρ x)).all (fun q=>q.1 != j)=true∧(rd ob 1 (ρ x)).cells.length=n∧k+n≤o.cs.length∧(rd ob 1 (ρ x)).cells.all V.cell=true)
       (K .un ((j,some {o with cs:=setAt o.cs k (rd ob 1 (ρ x)).cells})::dU ob (ρ x)))
     |none=>False
   |_=>False
 | .stk p x=>match ρ p with
   | .pt j k=>match ob j with
     |some o=>chk (r_ o=true∧isRef (ρ x)=true∧o.mu=true∧k+1≤o.cs.length) (K .un [(j,some {o with cs:=setAt o.cs k [ρ x]})])
     |none=>False
   |_=>False
 | .dQ off p=>match ρ p with
   | .pt j k=>K (.pt j (k+off)) []
   | .ip cs k=>K (.ip cs (k+off)) []
   |_=>False
 | .Nc ag off n x=>match ρ x with
   | .g cs=>if ag then chk (off+n≤cs.length) (K (.g ((cs.drop off).take n)) [])else chk (off<cs.length) (K (cs.getD off .un) [])
   |_=>False
 | .sO zero ps=>
   chk (iJ ob (ps.map fun p=>ρ p.2.2)∧fitAll zero.length (ps.map fun p=>(p.1,(rd ob 1 (ρ p.2.2)).cells))=true∧(ps.all fun p=>(rd ob 1 (ρ p.2.2)).cells.length==p.2.1)=true)
    (K (.g (iZ zero (ps.map fun p=>(p.1,(rd ob 1 (ρ p.2.2)).cells)))) (ps.flatMap fun p=>dU ob (ρ p.2.2)))
 | .nz e sz n zero ps=>
   chk (iJ ob (ps.map fun p=>ρ p.2)∧fitAll zero.length (ps.map fun p=>(p.1*sz,(rd ob 1 (ρ p.2)).cells))=true∧(ps.all fun p=>(rd ob 1 (ρ p.2)).cells.length==sz)=true)
    (K (.ow sz id n) ((id,some {e,sz,cs:=iZ zero (ps.map fun p=>(p.1*sz,(rd ob 1 (ρ p.2)).cells)),mu:=true,iy:=false})::ps.flatMap fun p=>dU ob (ρ p.2)))
 | .mk e sz bytes zero l c=>match ρ l,ρ c with
   | .i _ a,.i _ b=>chk (0≤a∧a≤b∧b*bytes≤281474976710656∧b≤1099511627776)
      (K (.ow sz id a.toNat) [(id,some {e,sz,cs:=(List.replicate a.toNat zero).flatten,mu:=true,iy:=false})])
   |_,_=>False
 | .sub sz x lo hi=>match ρ x with
   | .l s cs=>
     match lo.map ρ,hi.map ρ with
     |none,none=>chk (s=sz) (K (.l s cs) [])
     |some (.i _ a),none=>chk (s=sz∧0≤a∧a.toNat*sz≤cs.length) (K (.l s (cs.drop (a.toNat*sz))) [])
     |none,some (.i _ b)=>chk (s=sz∧0≤b∧b.toNat*sz≤cs.length) (K (.l s (cs.take (b.toNat*sz))) [])
     |some (.i _ a),some (.i _ b)=>chk (s=sz∧0≤a∧a≤b∧b.toNat*sz≤cs.length) (K (.l s ((cs.take (b.toNat*sz)).drop (a.toNat*sz))) [])
     |_,_=>False
   | .ow s j m=>
     match lo.map ρ,hi.map ρ with
     |none,none=>chk (s=sz) (K (.ow s j m) [])
     |some (.i _ a),none=>chk (s=sz∧0≤a∧a≤m) (K (.sl s j (a.toNat*sz) (m-a.toNat)) [])
     |none,some (.i _ b)=>chk (s=sz∧0≤b∧b≤m) (K (.sl s j 0 b.toNat) [])
     |some (.i _ a),some (.i _ b)=>chk (s=sz∧0≤a∧a≤b∧b≤m) (K (.sl s j (a.toNat*sz) (b.toNat-a.toNat)) [])
     |_,_=>False
   | .sl s j off m=>
     match lo.map ρ,hi.map ρ with
     |none,none=>chk (s=sz) (K (.sl s j off m) [])
     |some (.i _ a),none=>chk (s=sz∧0≤a∧a≤m) (K (.sl s j (off+a.toNat*sz) (m-a.toNat)) [])
     |none,some (.i _ b)=>chk (s=sz∧0≤b∧b≤m) (K (.sl s j off b.toNat) [])
     |some (.i _ a),some (.i _ b)=>chk (s=sz∧0≤a∧a≤b∧b≤m) (K (.sl s j (off+a.toNat*sz) (b.toNat-a.toNat)) [])
     |_,_=>False
   | .nl=>
     match lo.map ρ,hi.map ρ with
     |none,none=>K .nl []
     |some (.i _ a),none=>chk (a=0) (K .nl [])
     |none,some (.i _ b)=>chk (b=0) (K .nl [])
     |some (.i _ a),some (.i _ b)=>chk (a=0∧b=0) (K .nl [])
     |_,_=>False
   | .kn (.slice ba n c) (.l s cs)=>
     match lo.map ρ,hi.map ρ with
     |none,some (.i _ b)=>chk (s=sz∧0≤b∧b≤n∧0<c∧(∃g,ba=some ⟨g,0,none⟩)) (K (.kn (.slice ba b.toNat c) (.l s (cs.take (b.toNat*sz)))) [])
     |_,_=>False
   |_=>False
 | .vw x lo hi=>match ρ x with
   | .s l=>
     match lo.map ρ,hi.map ρ with
     |none,none=>K (.s l) []
     |some (.i _ a),none=>chk (0≤a∧a≤l.length) (K (.s (l.drop a.toNat)) [])
     |none,some (.i _ b)=>chk (0≤b∧b≤l.length) (K (.s (l.take b.toNat)) [])
     |some (.i _ a),some (.i _ b)=>chk (0≤a∧a≤b∧b≤l.length) (K (.s ((l.take b.toNat).drop a.toNat)) [])
     |_,_=>False
   |_=>False
 | .slen x=>match ρ x with
   | .s l=>K (.i .i64 l.length) []
   |_=>False
 | .len x=>match ρ x with
   | .l s cs=>K (.i .i64 ((cs.length/s:Nat):Int)) []
   | .ow _ _ m=>K (.i .i64 m) []
   | .sl _ _ _ m=>K (.i .i64 m) []
   | .nl=>K (.i .i64 0) []
   |_=>False
 | .app e sz bytes s x=>
   match ρ s,rd ob sz (xx (ρ x))with
   | .nl,.l s' xs=>chk (okR ob (xx (ρ x))∧s'=sz∧xs.all V.cell=true∧xs.length/sz*bytes≤70368744177664∧xs.length/sz≤1099511627776)
      (K (.ow sz id (xs.length/sz)) ((id,some {e,sz,cs:=xs,mu:=true,iy:=false})::[]))
   | .ow s1 j m,.l s' xs=>match ob j with
     |some o=>chk (okR ob (xx (ρ x))∧s1=sz∧s'=sz∧o.e=e∧o.sz=sz∧o.mu=true∧o.iy=false∧xs.all V.cell=true∧(m+xs.length/sz)*bytes≤70368744177664∧m+xs.length/sz≤1099511627776)
       (K (.ow sz id (m+xs.length/sz)) [(j,none),(id,some {o with cs:=o.cs++xs})])
     |none=>False
   |_,_=>False
 | .apps e s x=>match ρ s,ρ x with
   | .nl,.s l=>chk (l.length≤1099511627776) (K (.ow 1 id l.length) [(id,some {e,sz:=1,cs:=Bt l,mu:=true,iy:=false})])
   | .ow s1 j m,.s l=>match ob j with
     |some o=>chk (s1=1∧o.e=e∧o.sz=1∧o.mu=true∧o.iy=false∧m+l.length≤1099511627776)
       (K (.ow 1 id (m+l.length)) [(j,none),(id,some {o with cs:=o.cs++Bt l})])
     |none=>False
   |_,_=>False
 | .al e zero=>K (.pt id 0) [(id,some {e,sz:=zero.length,cs:=zero,mu:=true,iy:=true})]
 | .ext x ix=>match ρ x with
   | .t vs=>chk (ix<vs.length) (K (vs.getD ix .un) [])
   | .tw sz j n rs=>match ix with
     |0=>K (.ow sz j n) []
     |ix+1=>chk (ix<rs.length) (K (rs.getD ix .un) [])
   |_=>False
 | .call f args=>
   chk (iJ ob (args.map fun p=>ρ p.2)∧(args.all fun p=>(rd ob p.1 (ρ p.2)).aV)=true)<|
   ∃n r,F f (args.map fun p=>Dy n ob p.1 (ρ p.2)) r∧
    match r with
    | .o e sz cs=>chk (0<sz) (K (.ow sz id (cs.length/sz)) ((id,some {e,sz,cs,mu:=true,iy:=false})::if r.gm then args.flatMap fun p=>dU ob (ρ p.2)else[]))
    | .fr r=>K r []
    | .to e sz cs rs=>K (.tw sz id (cs.length/sz) rs) ((id,some {e,sz,cs,mu:=true,iy:=false})::if(V.o e sz cs).gm||(V.t rs).gm then args.flatMap fun p=>dU ob (ρ p.2)else[])
    | .mu _ _=>False
    |r=>K r (if r.gm then args.flatMap fun p=>dU ob (ρ p.2)else[])
 | .dcall x args=>match JO (ρ x)with
   |some f=>FQ f=true∧(
    chk (iJ ob (args.map fun p=>ρ p.2)∧(args.all fun p=>(rd ob p.1 (ρ p.2)).aV)=true)<|
    ∃n r,F f (args.map fun p=>Dy n ob p.1 (ρ p.2)) r∧
     match r with
     | .o e sz cs=>chk (0<sz) (K (.ow sz id (cs.length/sz)) ((id,some {e,sz,cs,mu:=true,iy:=false})::if r.gm then args.flatMap fun p=>dU ob (ρ p.2)else[]))
     | .fr r=>K r []
     | .to e sz cs rs=>K (.tw sz id (cs.length/sz) rs) ((id,some {e,sz,cs,mu:=true,iy:=false})::if(V.o e sz cs).gm||(V.t rs).gm then args.flatMap fun p=>dU ob (ρ p.2)else[])
     | .mu _ _=>False
     |r=>K r (if r.gm then args.flatMap fun p=>dU ob (ρ p.2)else[]))
   |none=>match ρ x with
    | .fc f cs=>FQ f=true∧(
      chk (iJ ob (args.map fun p=>ρ p.2)∧(args.all fun p=>(rd ob p.1 (ρ p.2)).aV)=true)<|
      ∃n r,F f ((args.map fun p=>Dy n ob p.1 (ρ p.2))++[.ip cs 0]) r∧
       match r with
       | .o e sz cs=>chk (0<sz) (K (.ow sz id (cs.length/sz)) ((id,some {e,sz,cs,mu:=true,iy:=false})::if r.gm then args.flatMap fun p=>dU ob (ρ p.2)else[]))
       | .fr r=>K r []
       | .to e sz cs rs=>K (.tw sz id (cs.length/sz) rs) ((id,some {e,sz,cs,mu:=true,iy:=false})::if(V.o e sz cs).gm||(V.t rs).gm then args.flatMap fun p=>dU ob (ρ p.2)else[])
       | .mu _ _=>False
       |r=>K r (if r.gm then args.flatMap fun p=>dU ob (ρ p.2)else[]))
    |_=>False
 | .jU f args=>∃r,G f (args.map ρ) r∧K r []
 | .nc x=>match ρ x with
   | .pt j k=>K (.pt j k) []
   | .ip cs k=>K (.ip cs k) []
   |_=>False
 | .mm mx x y=>match ρ x,ρ y with
   | .i k a,.i k' b=>chk (k=k') (K (.i k (if mx then max a b else min a b)) [])
   |_,_=>False
 | .FP neg x=>match ρ x with
   | .nl=>K (.b (!neg)) []
   | .l _ cs=>∀t:Bool,(t=true→cs=[])→K (.b (t != neg)) []
   | .ow _ _ n=>∀t:Bool,(t=true→n=0)→K (.b (t != neg)) []
   |_=>False
 | .bx e x=>chk (okR ob (ρ x)∧(rd ob 1 (ρ x)).cells.all V.cell=true)
    (K (.pt id 0) ((id,some {e,sz:=(rd ob 1 (ρ x)).cells.length,cs:=(rd ob 1 (ρ x)).cells,mu:=true,iy:=true})::dU ob (ρ x)))
 | .Fq sz x y=>match uu (ρ x),rd ob sz (ρ y)with
   | .sl s1 j off m,.l s' xs=>match ob j with
     |some o=>chk (okR ob (ρ y)∧s1=sz∧s'=sz∧o.mu=true∧off+m*sz≤o.cs.length∧xs.all V.cell=true)
       (K (.i .i64 ((min (xs.length/sz) m:Nat):Int)) [(j,some {o with cs:=setAt o.cs off (xs.take (m*sz))})])
     |none=>False
   |_,_=>False
 | .Nh n sz x i=>match ρ x,ρ i with
   | .ip cs k,.i _ m=>chk (0≤m∧m<n) (K (.ip cs (k+m.toNat*sz)) [])
   | .pt j k,.i _ m=>chk (0≤m∧m<n) (K (.pt j (k+m.toNat*sz)) [])
   |_,_=>False
 | .JM n sz x lo hi=>match ρ x with
   | .ip cs k=>match lo.map ρ,hi.map ρ with
     |none,none=>chk (k=0∧cs.length=n*sz) (K (.l sz cs) [])
     |some (.i _ a),none=>chk (k=0∧cs.length=n*sz∧0≤a∧a≤n) (K (.l sz (cs.drop (a.toNat*sz))) [])
     |none,some (.i _ b)=>chk (k=0∧cs.length=n*sz∧0≤b∧b≤n) (K (.l sz (cs.take (b.toNat*sz))) [])
     |some (.i _ a),some (.i _ b)=>chk (k=0∧cs.length=n*sz∧0≤a∧a≤b∧b≤n) (K (.l sz ((cs.take (b.toNat*sz)).drop (a.toNat*sz))) [])
     |_,_=>False
   |_=>False
 | .nR f m args=>match (args[m]?).map fun p=>ρ p.2 with
   |some (.ow z j n)=>match ob j with
    |some o=>
     chk (iJ ob (args.map fun p=>ρ p.2)∧(args.all fun p=>(rd ob p.1 (ρ p.2)).aV)=true∧o.mu=true∧o.iy=false∧((args.eraseIdx m).all fun p=>(dU ob (ρ p.2)).all fun q=>q.1 != j)=true)<|
     ∃r cs',F f ((args.map fun p=>rd ob p.1 (ρ p.2)).set m (.o o.e o.sz o.cs)) (.mu r cs')∧r.gm=false∧K r ((j,some {o with cs:=cs'})::(args.eraseIdx m).flatMap fun p=>dU ob (ρ p.2))
    |none=>False
   |_=>False
 | .nS f x=>match ρ x with
   | .ow _ j _=>match ob j with
     |some o=>chk (o.mu=true∧o.iy=false) (∃cs',F f [.o o.e o.sz o.cs] (.mu (.sl o.e o.sz 0 0) cs')∧K (.ow o.sz id (cs'.length/o.sz)) [(j,none),(id,some {o with cs:=cs'})])
     |none=>False
   |_=>False
 | .clo f x=>match ρ x with
   | .pt j k=>match ob j with
     |some o=>chk (k=0∧o.iy=true∧r_ o=false) (K (.fc f o.cs) [(j,some {o with mu:=false})])
     |none=>False
   |_=>False
 | .bad=>False
 | .uZ p xs=>chk (iJ ob (xs.map ρ)) (match jA p (xs.map fun x=>rd ob 1 (ρ x))with|some v=>K v []|none=>False)
end
end Go.Proofs.YtoehbmlfnjlchaaGreatDoor.Ab
namespace Go.Proofs.YtoehbmlfnjlchaaGreatDoor.Ab
open Go Go.RowKit
def cS:Value→V
 | .int k n=> .i k n
 | .bool b=> .b b
 | .string s=> .s s.data.toList
 | .slice none 0 0=> .l 1 []
 | .float .f64 0=> .f 0
 | .float .f64 4607182418800017408=> .f 1
 | .complex .f64 0 0=> .z 0 0
 | .complex .f64 4607182418800017408 0=> .z 1 0
 | .complex .f64 0 4607182418800017408=> .z 0 1
 |v=> .c v
def cV:Value→V
 | .slice none 0 0=> .nl
 | .agg cs=> .g (cs.toList.map cS)
 |v=>cS v
def cX:Operand→Option X
 | .tmp t=>some (.t t)
 | .const v=>some (.k (cV v))
 | .func f=>some (.k (.c (.func (.func f) #[] #[])))
 | .global g=>some (.k (match tabs g with|some cs=> .ip cs 0|none=> .any))
def vz(P:Program)(t:TypeId):Option (Nat×Nat×List V):=
 match P.info? t with
 |some i=>match i.zero with
  |some z=>if z.cells.size=i.size∧0<i.size∧(z.cells.toList.map cS).all V.cell=true then some (i.size,i.bytes,z.cells.toList.map cS)else none
  |none=>none
 |none=>none
def nK(P:Program)(t:TypeId):Bool:=
 match P.underlying t with
 |some (.struct _)|some (.array _ _)=>true
 |_=>false
def BN(P:Program)(t:TypeId):Option TypeId:=
 match P.underlying t with
 |some (.slice e)=>some e
 |_=>none
def Nk :Option Operand→Option (Option X)
 |none=>some none
 |some x=>(cX x).map some
def cXs:List Operand→Option (List X)
 |[]=>some []
 |x::r=>match cX x,cXs r with
  |some x,some r=>some (x::r)
  |_,_=>none
def pW(P:Program):List (Operand×TypeId)→Option (List (Nat×X))
 |[]=>some []
 |(x,t)::r=>match cX x,pW P r with
  |some x,some r=>
   (match BN P t with
     |some e=>(match vz P e with|some (sz,_,_)=>some ((sz,x)::r)|none=>none)
     |none=>some ((1,x)::r))
  |_,_=>none
def vC(P:Program)(fields:Array Field):List (Nat×Operand)→Option (List (Nat×Nat×X))
 |[]=>some []
 |(i,x)::r=>match cX x,vC P fields r,fields[i]? with
  |some x,some r,some f=>(match P.info? f.type with|some ti=>some ((f.offset,ti.size,x)::r)|none=>none)
  |_,_,_=>none
def rH:List (Nat×Operand)→Option (List (Nat×X))
 |[]=>some []
 |(i,x)::r=>match cX x,rH r with
  |some x,some r=>some ((i,x)::r)
  |_,_=>none
def takf(_:Nat):Bool:=false
def mutf:Nat→Option Nat:=fun _=>none
def dH(f:Nat):Bool:=if f=1000022 then true else if f=37 then true else if f=56 then true else if f=58 then true else false
def WT(P:Program):Bool:=dyns.all fun f=>match P.funcs[f]? with|some fn=>fn.body.isSome&&!(fn.name== "runtime.NumGoroutine")|none=>false
def Nl(P:Program)(c:Call):Option bY:=
 match c.callee with
 | .builtin .len=>match c.args.toList,c.argTypes.toList with
   |[x],[t]=>(match P.underlying t,cX x with|some .string,some x=>some (.slen x)|some (.slice _),some x=>some (.len x)|_,_=>none)
   |_,_=>none
 | .builtin .append=>match c.args.toList,c.argTypes.toList with
   |[s,x],[t,t']=>if t=t' then(match BN P t,cX s,cX x with
    |some e,some s,some x=>(match vz P e with|some (sz,xK,_)=>some (.app e sz xK s x)|none=>none)
    |_,_,_=>none)else(match BN P t,P.underlying t',cX s,cX x with
    |some e,some .string,some s,some x=>(match P.info? e with|some i=>(match i.zero with|some (.int .u8 0)=>if i.size=1∧i.bytes=1 then some (.apps e s x)else none|_=>none)|none=>none)
    |_,_,_,_=>none)
   |_,_=>none
 | .builtin .max=>match c.args.toList with
   |[x,y]=>(match cX x,cX y with|some x,some y=>some (.mm true x y)|_,_=>none)
   |_=>none
 | .builtin .min=>match c.args.toList with
   |[x,y]=>(match cX x,cX y with|some x,some y=>some (.mm false x y)|_,_=>none)
   |_=>none
 | .builtin .complex=>match c.args.toList with
   |[x,y]=>(match cX x,cX y with|some x,some y=>some (.uZ (.nm .mkz) [x,y])|_,_=>none)
   |_=>none
 | .builtin .real=>match c.args.toList with
   |[x]=>(match cX x with|some x=>some (.uZ (.nm .re) [x])|none=>none)
   |_=>none
 | .builtin .imag=>match c.args.toList with
   |[x]=>(match cX x with|some x=>some (.uZ (.nm .im) [x])|none=>none)
   |_=>none
 | .builtin .copy=>match c.args.toList,c.argTypes.toList with
   |[x,y],[t,t']=>(match BN P t,cX x,cX y with
    |some e,some x,some y=>(match P.info? e with|some ti=>if 0<ti.size then some (.Fq ti.size x y)else none|none=>none)
    |_,_,_=>none)
   |_,_=>none
 | .value (.func f)=>match P.funcs[f]? with
   |some fn=>if fn.name== "runtime.NumGoroutine" then none else if fn.body.isSome then
     (if c.args.size=c.argTypes.size then(match pW P (c.args.toList.zip c.argTypes.toList)with|some xs=>(match mutf f with|some m=>some (.nR f m xs)|none=>if takf f then(match xs with|[(_,x)]=>some (.nS f x)|_=>none)else some (.call f xs))|none=>none)else none)
    else(match cXs c.args.toList with|some xs=>some (.jU f xs)|none=>none)
   |none=>none
 | .value (.tmp t)=>if WT P∧c.args.size=c.argTypes.size then(match pW P (c.args.toList.zip c.argTypes.toList)with|some xs=>some (.dcall (.t t) xs)|none=>none)else none
 |_=>none
def kindOf(P:Program)(t:TypeId):Option Nat:=
 match P.underlying t with
 |some .bool=>some 0
 |some (.int _)=>some 1
 |some .string=>some 2
 |_=>none
def Dz(P:Program):Nat→List Field→Option (List Nat)
 |_,[]=>some []
 |k,f::r=>match kindOf P f.type,Dz P (k+1) r with
  |some n,some l=>if f.name != "_" &&f.offset==k then some (n::l)else none
  |_,_=>none
def Np(P:Program)(t:TypeId):Option (List Nat):=
 match P.underlying t with
 |some (.struct fs)=>if !P.stoodInHeld t&&!P.eqGuardType P.depth t then Dz P 0 fs.toList else none
 |_=>none
def cOp(P:Program):Op→Option bY
 | .move x| .assign x=>(cX x).map .mv
 | .pick c a b=>match cX c,cX a,cX b with|some c,some a,some b=>some (.pick c a b)|_,_,_=>none
 | .binOp op t x y _=>match cX x,cX y,P.underlying t with
   |some x,some y,some (.int _)=>some (.bin op x y)
   |some x,some y,some .string=>some (.bin op x y)
   |some x,some y,some .bool=>(match op with| .eql=>some (.BM false x y)| .neq=>some (.BM true x y)|_=>none)
   |some x,some y,some (.complex .f64)=>(match op with| .add=>some (.uZ (.nm .TS) [x,y])| .sub=>some (.uZ (.nm .TT) [x,y])| .mul=>some (.uZ (.nm .TU) [x,y])|_=>none)
   |some x,some (.k .nl),some (.slice _)=>(match op with| .eql=>some (.FP false x)| .neq=>some (.FP true x)|_=>none)
   |some x,some y,some (.struct _)=>(match Np P t with|some ks=>(match op with| .eql=>some (.uZ (.eqs false ks) [x,y])| .neq=>some (.uZ (.eqs true ks) [x,y])|_=>none)|none=>none)
   |_,_,_=>none
 | .unOp op _ x=>(cX x).map (.un op)
 | .convert s d x=>match P.underlying s,P.underlying d,cX x with
   |some (.int _),some (.int k),some x=>some (.Ad k x)
   |some (.int _),some (.float .f64),some x=>some (.uZ (.nm .i2f) [x])
   |some (.float .f64),some (.int k),some x=>some (.uZ (.nm (.f2i k)) [x])
   |some .string,some (.slice e),some x=>(match P.underlying e with|some (.int .u8)=>some (.uZ (.s2b e) [x])|_=>none)
   |some (.slice e),some .string,some x=>(match P.underlying e with|some (.int .u8)=>some (.uZ .b2s [x])|_=>none)
   |_,_,_=>none
 | .index t x i=>match P.underlying t,cX x,cX i with
   |some .string,some x,some i=>some (.six x i)
   |_,_,_=>none
 | .indexAddr t x i=>match BN P t,cX x,cX i with
   |some e,some x,some i=>(match P.info? e with|some ti=>if 0<ti.size then some (.idx ti.size x i)else none|none=>none)
   |none,some x,some i=>(match P.underlying t with
    |some (.array n e)=>(match P.info? e with|some ti=>if 0<ti.size then some (.Nh n ti.size x i)else none|none=>none)
    |_=>none)
   |_,_,_=>none
 | .load t p=>match cX p,P.info? t,P.underlying t with
   |some p,some ti,some _=>some (.ld (nK P t) ti.size p)
   |_,_,_=>none
 | .store t p x=>match cX p,cX x,P.info? t with
   |some p,some x,some ti=>if keepT t&&ti.size==1 then some (.stk p x)else some (.st ti.size p x)
   |_,_,_=>none
 | .fieldAddr t p f=>match P.underlying t,cX p with
   |some (.struct fs),some p=>(match fs[f]? with
    |some fd=>(match P.info? fd.type with|some ti=>if 0<ti.size then some (.dQ fd.offset p)else none|none=>none)
    |none=>none)
   |_,_=>none
 | .field t x f=>match P.underlying t,cX x with
   |some (.struct fs),some x=>(match fs[f]? with
    |some fd=>(match P.info? fd.type,P.underlying fd.type with|some ti,some _=>some (.Nc (nK P fd.type) fd.offset ti.size x)|_,_=>none)
    |none=>none)
   |_,_=>none
 | .build t ps=>match P.underlying t,vz P t with
   |some (.struct fs),some (_,_,z)=>if(fs.toList.mapM (fun f=>(P.info? f.type).map fun i=>(f.offset,i.size))).isSome then(match vC P fs ps.toList with|some ps=>some (.sO z ps)|none=>none)else none
   |_,_=>none
 | .buildSlice t n ps=>match BN P t with
   |some e=>(match vz P e,rH ps.toList with
    |some (sz,_,z),some ps=>if n*sz≤65536 then some (.nz e sz n ((List.replicate n z).flatten) ps)else none
    |_,_=>none)
   |none=>none
 | .makeSlice t l c=>match BN P t,cX l,cX c with
   |some e,some l,some c=>(match vz P e with|some (sz,xK,z)=>some (.mk e sz xK z l c)|none=>none)
   |_,_,_=>none
 | .slice t x lo hi none=>match P.underlying t,cX x,Nk lo,Nk hi with
   |some .string,some x,some lo,some hi=>some (.vw x lo hi)
   |some (.slice e),some x,some lo,some hi=>(match P.info? e with|some ti=>if 0<ti.size then some (.sub ti.size x lo hi)else none|none=>none)
   |some (.array n e),some x,some lo,some hi=>(match P.info? e with|some ti=>if 0<ti.size∧n≤1099511627776 then some (.JM n ti.size x lo hi)else none|none=>none)
   |_,_,_,_=>none
 | .alloc t=>match vz P t with|some (_,_,z)=>some (.al t z)|none=>none
 | .extract x i=>(cX x).map (.ext · i)
 | .box e x=>(cX x).map (.bx e)
 | .nilCheck x=>(cX x).map .nc
 | .makeFunc fn fst cap=>match fn,fst.toList,cap.toList with
   | .func f,[],[x]=>(cX x).map (.clo f)
   |_,_,_=>none
 | .call c=>Nl P c
 |_=>none
def Nq(P:Program)(o:Op):Option bY:=some ((cOp P o).getD .bad)
end Go.Proofs.YtoehbmlfnjlchaaGreatDoor.Ab
namespace Go.Proofs.YtoehbmlfnjlchaaGreatDoor.Ab
open Go Go.RowKit
section inv
variable {w:World} {H:Nat→Prop} {ov:Nat→Option Value} {v:Value}
theorem Rep.bT{k:IntKind}{n:Int}(h:Rep w H ov v (.i k n)):v= .int k n:=by cases h with|base h=>cases h;rfl
theorem Rep.nT{x:Bool}(h:Rep w H ov v (.b x)):v= .bool x:=by cases h with|base h=>cases h;rfl
theorem Rep.l9{l:List UInt8}(h:Rep w H ov v (.s l)):v= .string ⟨l.toArray⟩:=by cases h with|base h=>cases h;rfl
theorem Rep.Iz{n:Int}(h:Rep w H ov v (.f n)):∃q,v= .float .f64 q∧FI q n:=by cases h with|base h=>cases h with|f q n h=>exact⟨q,rfl,h⟩
theorem Rep.IB{a b:Int}(h:Rep w H ov v (.z a b)):∃p q,v= .complex .f64 p q∧FI p a∧FI q b:=by cases h with|base h=>cases h with|z p q a b h k=>exact⟨p,q,rfl,h,k⟩
theorem Rep.xx{x:V}(h:Rep w H ov v x):Rep w H ov v (Ab.xx x):=by
 unfold Ab.xx;split
 ·cases h with|base h=>cases h with|kn v x h=>exact .base h
 ·exact h
theorem Rep.BO{u:Value}{x:V}(h:Rep w H ov v (.kn u x)):v=u∧aO w H u x:=by cases h with|base h=>cases h with|kn v x h=>exact⟨rfl,h⟩
theorem Rep.jm(h:Rep w H ov v .nl):v= .slice none 0 0:=by cases h with|base h=>cases h;rfl
theorem Rep.Nr(h:Rep w H ov v .un):v=undef:=by cases h with|base h=>cases h;rfl
theorem Rep.inv_c{u:Value}(h:Rep w H ov v (.c u)):v=u:=by cases h with|base h=>cases h;rfl
theorem Rep.yx{cs:List V}(h:Rep w H ov v (.g cs)):∃vs:List Value,v= .agg vs.toArray∧aA w H vs cs:=by
 cases h with|base h=>cases h with|g vs cs hn hr=>exact⟨vs,rfl,hn,hr⟩
theorem Rep.inv_t{cs:List V}(h:Rep w H ov v (.t cs)):∃vs:List Value,v= .tuple vs.toArray∧aA w H vs cs:=by
 cases h with|base h=>cases h with|t vs cs hn hr=>exact⟨vs,rfl,hn,hr⟩
theorem aO.l_{sz:Nat}{cs:List V}(h:aO w H v (.l sz cs)):∃a n cap,∃(f:Nat→Value) (b o:Nat),v= .slice a n cap∧0<sz∧cs.length=n*sz∧n≤maxLen∧n≤cap∧(cs=[]∨(a=some ⟨b,o,none⟩∧H b))∧
 (∀j,j<cs.length→w.cell? ⟨b,o+j,none⟩=some (f j))∧(∀(j:Nat) (x:V),cs[j]? =some x→aO w H (f j) x):=by
 cases h with|l a n cap sz cs f b o hsz hn hm hcp ha hc hr=>exact⟨a,n,cap,f,b,o,rfl,hsz,hn,hm,hcp,ha,hc,hr⟩
theorem Rep.l_{sz:Nat}{cs:List V}(h:Rep w H ov v (.l sz cs)):∃a n cap,∃(f:Nat→Value) (b o:Nat),v= .slice a n cap∧0<sz∧cs.length=n*sz∧n≤maxLen∧n≤cap∧(cs=[]∨(a=some ⟨b,o,none⟩∧H b))∧
 (∀j,j<cs.length→w.cell? ⟨b,o+j,none⟩=some (f j))∧(∀(j:Nat) (x:V),cs[j]? =some x→aO w H (f j) x):=(h.down rfl).l_
theorem Rep.yz{cs:List V}{k:Nat}(h:Rep w H ov v (.ip cs k)):∃(f:Nat→Value) (b o:Nat),v= .pointer (some ⟨b,o+k,none⟩)∧H b∧(∀j,j<cs.length→w.cell? ⟨b,o+j,none⟩=some (f j))∧
 (∀(j:Nat) (x:V),cs[j]? =some x→aO w H (f j) x):=by
 cases h with|base h=>cases h with|ip cs k f b o hb hc hr=>exact⟨f,b,o,rfl,hb,hc,hr⟩
theorem Rep.fH{sz id n:Nat}(h:Rep w H ov v (.ow sz id n)):∃a cap,v= .slice a n cap∧ov id=some v∧n≤maxLen∧n≤cap∧(n=0∨∃b,a=some ⟨b,0,none⟩):=by
 cases h with|base h=>cases h|ow sz id n cap a hm hcp ha ho=>exact⟨a,cap,rfl,ho,hm,hcp,ha⟩
theorem Rep.BP{sz id n:Nat}{rs:List V}(h:Rep w H ov v (.tw sz id n rs)):∃a cap vs,v= .tuple (.slice a n cap::vs).toArray∧ov id=some (.slice a n cap)∧n≤maxLen∧n≤cap∧(n=0∨∃b,a=some ⟨b,0,none⟩)∧aA w H vs rs:=by
 cases h with|base h=>cases h|tw sz id n cap a vs rs hm hcp ha ho hr=>exact⟨a,cap,vs,rfl,ho,hm,hcp,ha,hr⟩
theorem Rep.jX{sz id off n:Nat}(h:Rep w H ov v (.sl sz id off n)):∃a cap u,v= .slice a n cap∧n≤maxLen∧n≤cap∧ov id=some u∧(n=0∨∃b,blk u=some b∧a=some ⟨b,off,none⟩):=by
 cases h with|base h=>cases h|sl a sz id off n cap u hm hcp ho ha hz=>exact⟨a,cap,u,rfl,hm,hcp,ho,ha⟩
theorem Rep.IC{sz id n:Nat}(hsz:0<sz)(h:Rep w H ov v (.sl sz id 0 n)):∃a cap m,v= .slice a n cap∧n≤maxLen∧n≤cap∧ov id=some (.slice a m cap):=by
 cases h with|base h=>cases h|sl a sz id off n cap u hm hcp ho ha hz=>obtain⟨m,rfl⟩:=hz rfl hsz;exact⟨a,cap,m,rfl,hm,hcp,ho⟩
theorem Rep.Yb{fn:Nat}{cs:List V}(h:Rep w H ov v (.fc fn cs)):∃p,v= .func (.func fn) #[] #[p]∧aO w H p (.ip cs 0):=by
 cases h with|base h=>cases h with|fc fn cs f b hb hc hr=>exact⟨_,rfl,.ip cs 0 f b 0 hb hc hr⟩
theorem Rep.jY{id off:Nat}(h:Rep w H ov v (.pt id off)):∃b u,v= .pointer (some ⟨b,off,none⟩)∧ov id=some u∧blk u=some b:=by
 cases h with|base h=>cases h|pt id off b u ho hb=>exact⟨b,u,rfl,ho,hb⟩
end inv
def Fin(w0:World)(H0:HS)(w:World)(H:Nat→Prop)(ov:Nat→Option Value)(ob:Nat→Option Ob)(id:Nat)(R:V→List (Nat×Option Ob)→Prop)(a:Act)(dst:Option Tmp)(K:Act→World→Prop):Prop:=
 ∀v up cv w' H' dh,R v up→Ext w H ov w' H' dh→(∀i,i≠id→ov i=none→dh i=none)→Mem w0 H0 w' H' dh (upd ob up)→Rep w' H' dh cv v→K (a.put dst cv) w'
theorem Yc{P:Program}(op:BinOp)(t:TypeId)(k k':IntKind)(x y:Int){R':V→Prop}(h:bi op k x k' y R')(w:World):
 ∃v,(binOp op t (.int k x) (.int k' y)).run P w= .ok v w∧∃u,R' u∧∀(w:World) (H:Nat→Prop) (ov:Nat→Option Value),Rep w H ov v u:=by
 cases op<;>simp only[bi]at h
 case shl=>
  obtain⟨h1,h2⟩:=h;refine⟨_,?_,_,h2,fun _ _ _=> .i _ _⟩;simp[binOp,Op.shift,show¬y<0 by omega]
 case shr=>
  obtain⟨h1,h2⟩:=h;refine⟨_,?_,_,h2,fun _ _ _=> .i _ _⟩;simp[binOp,Op.shift,show¬y<0 by omega]
 case quo=>
  obtain⟨⟨rfl,h1⟩,h2⟩:=h;exact⟨_,by simp[binOp,Op.intDiv,h1],_,h2,fun _ _ _=> .i _ _⟩
 case rem=>
  obtain⟨⟨rfl,h1⟩,h2⟩:=h;exact⟨_,by simp[binOp,Op.intDiv,h1],_,h2,fun _ _ _=> .i _ _⟩
 all_goals
  obtain⟨rfl,h2⟩:=h
  refine⟨_,?_,_,h2,fun _ _ _=>by first|exact .i _ _|exact .b _⟩
  first
   |simp only[binOp_and,binOp_or,binOp_xor,binOp_andNot,intBits_and,intBits_or,intBits_xor,intBits_andNot,Sem.run_pure]
   |(simp[binOp,Op.intArith,Op.intCmp];done)
   |(simp[binOp,Op.intArith,Op.intCmp,bne];done)
   |(simp only[binOp_eql,binOp_neq,Sem.run_pure,show(x==y)=decide (x=y)from Bool.eq_iff_iff.2 sy,bne,decide_not])
theorem yA(l:List UInt8):(⟨l.toArray⟩:ByteArray).size=l.length:=by simp[ByteArray.size]
theorem cS_nl(v:Value):cS v≠ .nl:=by
 intro h;unfold cS at h;split at h<;>cases h
theorem TV{a:Act}{y:Operand}(h:cX y=some (.k .nl)):a.eval y= .slice none 0 0:=by
 cases y with
 |const v=>
  simp only[cX,Option.some.injEq,X.k.injEq]at h;show v=_;unfold cV at h;split at h
  ·rfl
  ·cases h
  ·exact absurd h (cS_nl _)
 |func f=>simp[cX]at h
 |tmp t=>simp[cX]at h
 |global g=>simp only[cX,Option.some.injEq,X.k.injEq]at h;split at h<;>cases h
section ops
variable {P:Program} {w0 w:World} {H0:HS} {H:Nat→Prop} {ov:Nat→Option Value} {ob:Nat→Option Ob} {id:Nat} {ρ:X→V} {a:Act} {o:Oper} {K:Act→World→Prop} {Q:Exit→Act→World→Prop}
 {R:V→List (Nat×Option Ob)→Prop}
theorem fin_same(hm:Mem w0 H0 w H ov ob)(hF:Fin w0 H0 w H ov ob id R a o.dst K){cv:Value}{v:V}(hrun:(execOp a.eval o).run P w= .ok (.value cv) w)(hr:Rep w H ov cv v)(hR:R v []):o.wp P a w K Q:=by
 unfold Oper.wp;rw[hrun];exact hF v [] cv w H ov hR (Ext.refl _ _ _) (fun _ _ h=>h) hm hr
variable (hm:Mem w0 H0 w H ov ob) (hρ:∀p x,cX p=some x→Rep w H ov (a.eval p) (ρ x)) (hF:Fin w0 H0 w H ov ob id R a o.dst K)
include hm hρ hF
theorem s_mv{x:Operand}{y:X}(hop:o.op= .move x∨o.op= .assign x)(hx:cX x=some y)(h:R (ρ y) []):o.wp P a w K Q:=by
 refine fin_same hm hF (cv:=a.eval x) ?_ (hρ x y hx) h;rcases hop with hop|hop<;>simp[execOp,hop]
theorem Yd{c x y:Operand}{c' x' y':X}(hop:o.op= .pick c x y)(hc:cX c=some c')(hx:cX x=some x')(hy:cX y=some y')(h:cnd (ρ c') (R (ρ x') []) (R (ρ y') [])):o.wp P a w K Q:=by
 have h1:=hρ c c' hc;cases hv:ρ c'<;>rw[hv]at h h1<;>simp only[cnd]at h;case b t=>
  have e:=h1.nT;cases t
  ·exact fin_same hm hF (cv:=a.eval y) (by simp[execOp,hop,e,asBool]) (hρ y y' hy) (h.2 rfl)
  ·exact fin_same hm hF (cv:=a.eval x) (by simp[execOp,hop,e,asBool]) (hρ x x' hx) (h.1 rfl)
theorem WU{op:BinOp}{t t':TypeId}{x y:Operand}{x' y':X}(hop:o.op= .binOp op t x y t')(hx:cX x=some x')(hy:cX y=some y')
 (h:ev (fun _ _ _=>False) (fun _ _ _=>False) ρ ob id R (.bin op x' y')):o.wp P a w K Q:=by
 have h1:=hρ x x' hx
 have h2:=hρ y y' hy
 simp only[ev]at h
 cases hv:ρ x'<;>rw[hv]at h h1<;>(try simp only[]at h)
 case i k n=>
  cases hu:ρ y'<;>rw[hu]at h h2<;>(try simp only[]at h);case i k' m=>
   obtain⟨v,hrun,u,hR,hr⟩:=Yc (P:=P) op t k k' n m h w;refine fin_same hm hF (cv:=v) ?_ (hr _ _ _) hR;simp[execOp,hop,h1.bT,h2.bT,eqGuard_at_int,hrun]
 case s l=>
  cases hu:ρ y'<;>rw[hu]at h h2<;>(try simp only[]at h);case s l'=>
   have tl:∀l:List UInt8,(⟨l.toArray⟩:ByteArray).toList=l:=ByteArray.toList_mk;cases op<;>simp only[bs]at h;case add=>
    obtain⟨hs,hR⟩:=h;refine fin_same hm hF (cv:= .string ⟨(l++l').toArray⟩) ?_ (.s _) hR;have hsz:¬((9223372036854775807:Int)<((⟨l.toArray⟩:ByteArray).size+(⟨l'.toArray⟩:ByteArray).size:Nat)):=by
     have e1:(⟨l.toArray⟩:ByteArray).size=l.length:=by simp[ByteArray.size]
     have e2:(⟨l'.toArray⟩:ByteArray).size=l'.length:=by simp[ByteArray.size]
     omega
    simp only[execOp,hop,h1.l9,h2.l9,eqGuard_at_string,binOp,Op.stringOp,Sem.run_bind,Sem.run_pure,Result.andThen_ok,IntKind.max_i64,gt_iff_lt];rw[if_neg hsz];simp[ByteArray.ext_iff]
   case eql=>
    refine fin_same hm hF (cv:= .bool (l==l')) ?_ (.b _) h;simp[execOp,hop,h1.l9,h2.l9,eqGuard_at_string,binOp,Op.stringOp,tl]
   case neq=>
    refine fin_same hm hF (cv:= .bool (!(l==l'))) ?_ (.b _) h;simp[execOp,hop,h1.l9,h2.l9,eqGuard_at_string,binOp,Op.stringOp,tl]
theorem WV{op:BinOp}{t t':TypeId}{x y:Operand}{x' y':X}{neg:Bool}(hop:o.op= .binOp op t x y t')(hn:op=if neg then .neq else .eql)(ht:P.underlying t=some .bool)(hx:cX x=some x')(hy:cX y=some y')
 (h:ev (fun _ _ _=>False) (fun _ _ _=>False) ρ ob id R (.BM neg x' y')):o.wp P a w K Q:=by
 have h1:=hρ x x' hx
 have h2:=hρ y y' hy
 simp only[ev]at h
 cases hv:ρ x'<;>rw[hv]at h h1<;>(try simp only[]at h)
 case b n=>
  cases hu:ρ y'<;>rw[hu]at h h2<;>(try simp only[]at h);case b m=>
   refine fin_same hm hF (cv:= .bool (if neg then !(n==m)else n==m)) ?_ (.b _) h;cases neg<;>(simp only[Bool.false_eq_true,if_false,if_true]at hn;subst hn;simp only[execOp,hop,h1.nT,h2.nT,eqGuard_at_bool,Sem.run_bind,Sem.run_pure,Result.andThen_ok,run_eql_bool w t n m ht,run_neq_bool w t n m ht,Bool.false_eq_true,if_false,if_true])
theorem WW{op:BinOp}{t t' e:TypeId}{x y:Operand}{x':X}{neg:Bool}(hop:o.op= .binOp op t x y t')(hn:op=if neg then .neq else .eql)(ht:P.underlying t=some (.slice e))(hx:cX x=some x')(hy:cX y=some (.k .nl))
 (h:ev (fun _ _ _=>False) (fun _ _ _=>False) ρ ob id R (.FP neg x')):o.wp P a w K Q:=by
 have h1:=hρ x x' hx
 have e2:=TV (a:=a) hy
 have run:∀(b:Option Addr) (n c:Nat),a.eval x= .slice b n c→(execOp a.eval o).run P w= .ok (.value (.bool (b.isNone != neg))) w:=fun b n c e1=>by
  have g:eqGuard op t x y (.slice b n c) (.slice none 0 0)=pure ():=by cases neg<;>(simp only[Bool.false_eq_true,if_false,if_true]at hn;subst hn;simp[eqGuard])
  cases neg<;>(simp only[Bool.false_eq_true,if_false,if_true]at hn;subst hn;simp only[execOp,hop,e1,e2,g,Sem.run_bind,Sem.run_pure,Result.andThen_ok,Lib.run_eql_slice_nil w t e b n c 0 0 ht,run_neq_slice_nil_any w t e b n c 0 0 ht];cases b<;>rfl)
 simp only[ev]at h
 cases hv:ρ x'<;>rw[hv]at h h1<;>(try exact h.elim)
 case nl=>
  refine fin_same hm hF (cv:= .bool ((none:Option Addr).isNone != neg)) (run none 0 0 h1.jm) (.b _) ?_;cases neg<;>exact h
 case l sz cs=>
  obtain⟨b,n,cap,f,g,o',e1,h3,h4,h5,h6,h7,_⟩:=h1.l_;refine fin_same hm hF (run b n cap e1) (.b _) (h _ fun hb=>?_);rcases h7 with h7|⟨rfl,_⟩
  ·exact h7
  ·cases hb
 case ow sz j n=>
  obtain⟨b,cap,e1,_,_,_,h7⟩:=h1.fH;refine fin_same hm hF (run b n cap e1) (.b _) (h _ fun hb=>?_);rcases h7 with h7|⟨g,rfl⟩
  ·exact h7
  ·cases hb
theorem s_un{op:UnOp}{t:TypeId}{x:Operand}{x':X}(hop:o.op= .unOp op t x)(hx:cX x=some x')
 (h:ev (fun _ _ _=>False) (fun _ _ _=>False) ρ ob id R (.un op x')):o.wp P a w K Q:=by
 have h1:=hρ x x' hx
 simp only[ev]at h
 cases op<;>cases hv:ρ x'<;>rw[hv]at h h1<;>(try simp only[]at h)
 all_goals first
  |(refine fin_same hm hF (cv:= .bool _) ?_ (.b _) h;simp[execOp,hop,h1.nT,Op.unary];done)
  |(refine fin_same hm hF (cv:= .int _ _) ?_ (.i _ _) h;simp[execOp,hop,h1.bT,Op.unary,Op.intArith,intBits_xor];done)
  |(obtain⟨q,e1,e2⟩:=h1.Iz;refine fin_same hm hF (cv:= .float .f64 (Op.negFloat .f64 q)) ?_ (.base (.f _ _ (XZ e2))) h;simp[execOp,hop,e1,Op.unary];done)
theorem s_cvt{s d:TypeId}{k:IntKind}{x:Operand}{x':X}(hop:o.op= .convert s d x){ds:TypeDesc}(hs:P.underlying s=some ds)(hd:P.underlying d=some (.int k))(hx:cX x=some x')
 (h:ev (fun _ _ _=>False) (fun _ _ _=>False) ρ ob id R (.Ad k x')):o.wp P a w K Q:=by
 have h1:=hρ x x' hx
 simp only[ev]at h
 cases hv:ρ x'<;>rw[hv]at h h1<;>(try simp only[]at h)
 case i k' n=>
  refine fin_same hm hF (cv:= .int k (k.wrap n)) ?_ (.i _ _) h;simp[execOp,hop,h1.bT,convert,run_underlying hs,run_underlying hd,Conv.intToInt]
theorem s_six{t:TypeId}{x i:Operand}{x' i':X}(hop:o.op= .index t x i)(ht:P.underlying t=some .string)(hx:cX x=some x')(hi:cX i=some i')
 (h:ev (fun _ _ _=>False) (fun _ _ _=>False) ρ ob id R (.six x' i')):o.wp P a w K Q:=by
 have h1:=hρ x x' hx
 have h2:=hρ i i' hi
 simp only[ev]at h
 cases hv:ρ x'<;>rw[hv]at h h1<;>(try simp only[]at h)
 case s l=>
  cases hu:ρ i'<;>rw[hu]at h h2<;>(try simp only[]at h);case i k n=>
   obtain⟨⟨h0,hl⟩,hR⟩:=h;have hlt:n.toNat<l.length:=om;refine fin_same hm hF (cv:= .int .u8 ((l.getD n.toNat 0).toNat:Int)) ?_ (.i _ _) hR;have e:(⟨l.toArray⟩:ByteArray)[n.toNat]? =some l[n.toNat]:=by
    rw[getElem?_pos (⟨l.toArray⟩:ByteArray) n.toNat (by simpa[ByteArray.size]using hlt)];rfl
   simp[execOp,hop,h1.l9,h2.bT,Instr.index,asIntOf,run_underlying ht,h0,e,List.getD,List.getElem?_eq_getElem hlt]
theorem s_ext{x:Operand}{x':X}{ix:Nat}(hop:o.op= .extract x ix)(hx:cX x=some x')
 (h:ev (fun _ _ _=>False) (fun _ _ _=>False) ρ ob id R (.ext x' ix)):o.wp P a w K Q:=by
 have h1:=hρ x x' hx
 simp only[ev]at h
 cases hv:ρ x'<;>rw[hv]at h h1<;>(try simp only[]at h)
 case t vs=>
  obtain⟨hl,hR⟩:=h;obtain⟨us,e,hn,hr⟩:=h1.inv_t;have hl':ix<us.length:=om;refine fin_same hm hF (cv:=us[ix]) ?_ (.up (hr ix _ _ (List.getElem?_eq_getElem hl') ?_)) hR
  ·simp[execOp,hop,e,Instr.extract,hl']
  ·simp[List.getD,List.getElem?_eq_getElem hl]
 case tw sz j n rs=>
  obtain⟨ba,cap,us,e,ho,hml,hcp,ha,hr⟩:=h1.BP;cases ix with
  |zero=>exact fin_same hm hF (cv:= .slice ba n cap) (by simp[execOp,hop,e,Instr.extract]) (.ow sz j n cap ba hml hcp ha ho) h
  |succ ix=>
   obtain⟨hl,hR⟩:=h;have hl':ix<us.length:=by have:=hr.1;omega
   refine fin_same hm hF (cv:=us[ix]) ?_ (.up (hr.2 ix _ _ (List.getElem?_eq_getElem hl') ?_)) hR
   ·simp[execOp,hop,e,Instr.extract,hl']
   ·simp[List.getD,List.getElem?_eq_getElem hl]
theorem s_nc{x:Operand}{x':X}(hop:o.op= .nilCheck x)(hx:cX x=some x')
 (h:ev (fun _ _ _=>False) (fun _ _ _=>False) ρ ob id R (.nc x')):o.wp P a w K Q:=by
 have h1:=hρ x x' hx
 simp only[ev]at h
 cases hv:ρ x'<;>rw[hv]at h h1<;>(try simp only[]at h)
 case pt j k=>
  obtain⟨b,u,e,_⟩:=h1.jY;exact fin_same hm hF (cv:=a.eval x) (by simp[execOp,hop,e]) h1 h
 case ip cs k=>
  obtain⟨f,b,u,e,_⟩:=h1.yz;exact fin_same hm hF (cv:=a.eval x) (by simp[execOp,hop,e]) h1 h
theorem TW{t:TypeId}{x:Operand}{x':X}(hop:o.op= .call {callee:= .builtin .len,args:=#[x],argTypes:=#[t]})(ht:P.underlying t=some .string)(hx:cX x=some x')
 {l:List UInt8} (hv:ρ x'= .s l) (h:R (.i .i64 l.length) []):o.wp P a w K Q:=by
 have h1:=hρ x x' hx
 rw[hv]at h1
 refine fin_same hm hF (cv:= .int .i64 l.length) ?_ (.i _ _) h
 have e:=yA l
 simp only[execOp,hop,resolve,invoke,builtin,h1.l9,List.map_toArray,List.map_cons,List.map_nil,Sem.run_bind,Sem.run_pure,Result.andThen_ok,run_len_string w t o.type _ ht,e,goInt]
omit hρ in
theorem xM{t e:TypeId}{x:Operand}{x':X}(hop:o.op= .call {callee:= .builtin .len,args:=#[x],argTypes:=#[t]})(ht:P.underlying t=some (.slice e))(hx:cX x=some x')
 {base:Option Addr} {n cap:Nat} (hv:a.eval x= .slice base n cap) (h:R (.i .i64 n) []):o.wp P a w K Q:=by
 refine fin_same hm hF (cv:= .int .i64 n) ?_ (.i _ _) h
 simp only[execOp,hop,resolve,invoke,builtin,hv,List.map_toArray,List.map_cons,List.map_nil,Sem.run_bind,Sem.run_pure,Result.andThen_ok]
 simp[Builtin.len_,run_underlying ht,goInt]
theorem s_mm{mx:Bool}{c:Call}{x y:Operand}{x' y':X}(hop:o.op= .call c)(hc:c.callee= .builtin (if mx then .max else .min))(ha:c.args=#[x,y])(hx:cX x=some x')(hy:cX y=some y')
 (h:ev (fun _ _ _=>False) (fun _ _ _=>False) ρ ob id R (.mm mx x' y')):o.wp P a w K Q:=by
 have h1:=hρ x x' hx
 have h2:=hρ y y' hy
 simp only[ev]at h
 cases hv:ρ x'<;>rw[hv]at h h1<;>(try simp only[]at h)
 case i k n=>
  cases hu:ρ y'<;>rw[hu]at h h2<;>(try simp only[]at h);case i k' m=>
   obtain⟨rfl,hR⟩:=h;refine fin_same hm hF (cv:= .int k (if mx then max n m else min n m)) ?_ (.i _ _) hR;cases mx
   ·have e:(if n>m then m else n)=min n m:=by rw[Int.min_def];split<;>split<;>omega
    simp[execOp,hop,resolve,hc,ha,invoke,builtin,h1.bT,h2.bT,Builtin.min_,Builtin.min2,←e]
   ·have e:(if m>n then m else n)=max n m:=by rw[Int.max_def];split<;>split<;>omega
    simp[execOp,hop,resolve,hc,ha,invoke,builtin,h1.bT,h2.bT,Builtin.max_,Builtin.max2,←e]
end ops
end Go.Proofs.YtoehbmlfnjlchaaGreatDoor.Ab
namespace Go.Proofs.YtoehbmlfnjlchaaGreatDoor.Ab
open Go Go.RowKit
section ops
variable {P:Program} {w0 w:World} {H0:HS} {H:Nat→Prop} {ov:Nat→Option Value} {ob:Nat→Option Ob} {id:Nat} {ρ:X→V} {a:Act} {o:Oper} {K:Act→World→Prop} {Q:Exit→Act→World→Prop}
 {R:V→List (Nat×Option Ob)→Prop}
theorem Ye{sz:Nat}{v:V}{n:Int}(h:rd ob sz v= .f n):v= .f n:=by
 cases v<;>simp only[rd]at h<;>(try exact h);all_goals first|(cases h;done)|(split at h<;>(try split at h)<;>cases h)
theorem TY{sz:Nat}{v:V}{x y:Int}(h:rd ob sz v= .z x y):v= .z x y:=by
 cases v<;>simp only[rd]at h<;>(try exact h);all_goals first|(cases h;done)|(split at h<;>(try split at h)<;>cases h)
theorem Yf{sz:Nat}{v:V}{k:IntKind}{n:Int}(h:rd ob sz v= .i k n):v= .i k n:=by
 cases v<;>simp only[rd]at h<;>(try exact h);all_goals first|(cases h;done)|(split at h<;>(try split at h)<;>cases h)
theorem JP(hm:Mem w0 H0 w H ov ob)(hF:Fin w0 H0 w H ov ob id R a o.dst K){q:NO}{qs:List X}(hrun:∀v,WS q (qs.map fun x=>rd ob 1 (ρ x))=some v→∃cv,(execOp a.eval o).run P w= .ok (.value cv) w∧Rep w H ov cv v)
 (h:ev (fun _ _ _=>False) (fun _ _ _=>False) ρ ob id R (.uZ (.nm q) qs)):o.wp P a w K Q:=by
 obtain⟨hok,h⟩:=h
 simp only[jA]at h
 split at h
 ·rename_i v hv;obtain⟨cv,h1,h2⟩:=hrun v hv;exact fin_same hm hF h1 h2 h
 ·exact h.elim
variable (hm:Mem w0 H0 w H ov ob) (hρ:∀p x,cX p=some x→Rep w H ov (a.eval p) (ρ x)) (hF:Fin w0 H0 w H ov ob id R a o.dst K)
include hm hρ hF
theorem s_i2f{s d:TypeId}{x:Operand}{x':X}{k:IntKind}(hop:o.op= .convert s d x)(hs:P.underlying s=some (.int k))(hd:P.underlying d=some (.float .f64))(hx:cX x=some x')
 (h:ev (fun _ _ _=>False) (fun _ _ _=>False) ρ ob id R (.uZ (.nm .i2f) [x'])):o.wp P a w K Q:=by
 refine JP hm hF (fun v hv=>?_) h
 simp only[List.map_cons,List.map_nil,WS,FM,FN,FO,X8,X9,yj,yt,yw]at hv
 split at hv
 ·rename_i k' n e;simp only[List.cons.injEq,and_true]at e;split at hv
  ·rename_i hn;cases hv;have e1:=Yf e;have h1:=hρ x x' hx;rw[e1]at h1;refine⟨_,?_,.base (.f _ n (MX hn))⟩;simp only[execOp,hop,h1.bT,Sem.run_bind,run_convert_int_float w s d k' .f64 n (by rw[hs];rfl) hd,Result.andThen_ok,Sem.run_pure]
  ·cases hv
 ·cases hv
theorem s_f2i{s d:TypeId}{x:Operand}{x':X}{k:IntKind}(hop:o.op= .convert s d x)(hs:P.underlying s=some (.float .f64))(hd:P.underlying d=some (.int k))(hx:cX x=some x')
 (h:ev (fun _ _ _=>False) (fun _ _ _=>False) ρ ob id R (.uZ (.nm (.f2i k)) [x'])):o.wp P a w K Q:=by
 refine JP hm hF (fun v hv=>?_) h
 simp only[List.map_cons,List.map_nil,WS,FM,FN,FO,X8,X9,yj,yt,yw]at hv
 split at hv
 ·rename_i n e;simp only[List.cons.injEq,and_true]at e;split at hv
  ·rename_i hn;cases hv;have e1:=Ye e;have h1:=hρ x x' hx;rw[e1]at h1;obtain⟨q,e2,e3⟩:=h1.Iz;refine⟨_,?_,.base (.i k n)⟩;have:floatToIntVal .f64 q k=some n:=by unfold floatToIntVal;rw[MZ e3];simp only[];rw[if_pos hn]
   simp only[execOp,hop,e2,Sem.run_bind,run_convert_float_int w s d .f64 k q n (by rw[hs];rfl) hd this,Result.andThen_ok,Sem.run_pure]
  ·cases hv
 ·cases hv
theorem s_mkz{c:Call}{x y:Operand}{x' y':X}(hop:o.op= .call c)(hc:c.callee= .builtin .complex)(ha:c.args=#[x,y])(hx:cX x=some x')(hy:cX y=some y')
 (h:ev (fun _ _ _=>False) (fun _ _ _=>False) ρ ob id R (.uZ (.nm .mkz) [x',y'])):o.wp P a w K Q:=by
 refine JP hm hF (fun v hv=>?_) h
 simp only[List.map_cons,List.map_nil,WS,FM,FN,FO,X8,X9,yj,yt,yw]at hv
 split at hv
 ·rename_i n m e;simp only[List.cons.injEq,and_true]at e;cases hv;have h1:=hρ x x' hx;have h2:=hρ y y' hy;rw[Ye e.1]at h1;rw[Ye e.2]at h2;obtain⟨q,e2,e3⟩:=h1.Iz;obtain⟨r,f2,f3⟩:=h2.Iz;refine⟨_,?_,.base (.z q r n m e3 f3)⟩;simp[execOp,hop,resolve,hc,ha,invoke,builtin,e2,f2,run_complex]
 ·cases hv
theorem s_rez{c:Call}{x:Operand}{x':X}(hop:o.op= .call c)(hc:c.callee= .builtin .real)(ha:c.args=#[x])(hx:cX x=some x')
 (h:ev (fun _ _ _=>False) (fun _ _ _=>False) ρ ob id R (.uZ (.nm .re) [x'])):o.wp P a w K Q:=by
 refine JP hm hF (fun v hv=>?_) h
 simp only[List.map_cons,List.map_nil,WS,FM,FN,FO,X8,X9,yj,yt,yw]at hv
 split at hv
 ·rename_i n m e;simp only[List.cons.injEq,and_true]at e;cases hv;have h1:=hρ x x' hx;rw[TY e]at h1;obtain⟨p,q,e2,e3,e4⟩:=h1.IB;refine⟨_,?_,.base (.f p n e3)⟩;simp[execOp,hop,resolve,hc,ha,invoke,builtin,e2,run_real]
 ·cases hv
theorem s_imz{c:Call}{x:Operand}{x':X}(hop:o.op= .call c)(hc:c.callee= .builtin .imag)(ha:c.args=#[x])(hx:cX x=some x')
 (h:ev (fun _ _ _=>False) (fun _ _ _=>False) ρ ob id R (.uZ (.nm .im) [x'])):o.wp P a w K Q:=by
 refine JP hm hF (fun v hv=>?_) h
 simp only[List.map_cons,List.map_nil,WS,FM,FN,FO,X8,X9,yj,yt,yw]at hv
 split at hv
 ·rename_i n m e;simp only[List.cons.injEq,and_true]at e;cases hv;have h1:=hρ x x' hx;rw[TY e]at h1;obtain⟨p,q,e2,e3,e4⟩:=h1.IB;refine⟨_,?_,.base (.f q m e4)⟩;simp[execOp,hop,resolve,hc,ha,invoke,builtin,e2,run_imag]
 ·cases hv
theorem Ns{op:BinOp}{q:NO}(hq:(op= .add∧q= .TS)∨(op= .sub∧q= .TT)∨(op= .mul∧q= .TU)){t t':TypeId}{x y:Operand}{x' y':X}(hop:o.op= .binOp op t x y t')(ht:P.underlying t=some (.complex .f64))(hx:cX x=some x')(hy:cX y=some y')
 (h:ev (fun _ _ _=>False) (fun _ _ _=>False) ρ ob id R (.uZ (.nm q) [x',y'])):o.wp P a w K Q:=by
 refine JP hm hF (fun v hv=>?_) h
 have h1:=hρ x x' hx
 have h2:=hρ y y' hy
 rcases hq with ⟨rfl,rfl⟩|⟨rfl,rfl⟩|⟨rfl,rfl⟩<;>simp only[List.map_cons,List.map_nil,WS,FM,FN,FO,X8,X9,yj,yt,yw]at hv<;>split at hv<;>(try cases hv)<;>rename_i e<;>simp only[List.cons.injEq,and_true]at e<;>split at hv<;>(try cases hv)<;>rename_i hb
 all_goals
  rw[TY e.1]at h1
  rw[TY e.2]at h2
  obtain⟨p1,q1,e1,e2,e3⟩:=h1.IB
  obtain⟨p2,q2,f1,f2,f3⟩:=h2.IB
 ·obtain⟨r,i,g1,g2,g3⟩:=TN e2 e3 f2 f3 hb.1 hb.2;exact⟨_,by simp only[execOp,hop,e1,f1,eqGuard_at_complex,Sem.run_bind,run_complex_sum w .add (.inl rfl) t .f64 p1 q1 p2 q2 r i g1,Result.andThen_ok,Sem.run_pure],.base (.z r i _ _ g2 g3)⟩
 ·obtain⟨r,i,g1,g2,g3⟩:=TP e2 e3 f2 f3 hb.1 hb.2;exact⟨_,by simp only[execOp,hop,e1,f1,eqGuard_at_complex,Sem.run_bind,run_complex_sum w .sub (.inr rfl) t .f64 p1 q1 p2 q2 r i g1,Result.andThen_ok,Sem.run_pure],.base (.z r i _ _ g2 g3)⟩
 ·obtain⟨r,i,g1,g2,g3⟩:=TQ e2 e3 f2 f3 hb.1 hb.2;exact⟨_,by simp only[execOp,hop,e1,f1,eqGuard_at_complex,Sem.run_bind,run_complex_mul w t p1 q1 p2 q2 r i g1,Result.andThen_ok,Sem.run_pure],.base (.z r i _ _ g2 g3)⟩
end ops
end Go.Proofs.YtoehbmlfnjlchaaGreatDoor.Ab
namespace Go.Proofs.YtoehbmlfnjlchaaGreatDoor.Ab
open Go Go.RowKit
section lemmas
variable {P:Program} {w0 w:World} {H0:HS} {H:Nat→Prop} {ov:Nat→Option Value} {ob:Nat→Option Ob}
theorem Mem.at(hm:Mem w0 H0 w H ov ob){j k:Nat}{o:Ob}{x:V}{u:Value}{b:Nat}(ho:ob j=some o)(hx:o.cs[k]? =some x)(hu:ov j=some u)(hb:blk u=some b):
 ∃c,w.cell? ⟨b,k,none⟩=some c∧w.frozen? ⟨b,k,none⟩=false∧Rep w H ov c x∧Ow w0 H0 b:=by
 obtain⟨u',hu',hr⟩:=hm.obj j o ho
 obtain rfl:u=u':=by rw[hu]at hu';exact Option.some.inj hu'
 obtain⟨b',c,hb',hc,hf,hr',hB⟩:=hr.cell hx
 obtain rfl:b=b':=by rw[hb]at hb';exact Option.some.inj hb'
 exact⟨c,hc,hf,hr',hB⟩
theorem yC(t:TypeId)(b k n:Nat)(us:List Value)(hl:us.length=n)(hc:∀j u,us[j]? =some u→w.cell? ⟨b,k+j,none⟩=some u){ti:TypeInfo}(hi:P.info? t=some ti)(hs:ti.size=n){d:TypeDesc}(hd:P.underlying t=some d):
 (nK P t=true→(Instr.loadAt t (.pointer (some ⟨b,k,none⟩))).run P w= .ok (.agg us.toArray) w)∧
 (nK P t=false→∀u,us[0]? =some u→(Instr.loadAt t (.pointer (some ⟨b,k,none⟩))).run P w= .ok u w):=by
 have hl':(loadCells ⟨b,k,none⟩ n).run P w= .ok us.toArray w:=by
  rw[←hl];exact run_loadCells_list w ⟨b,k,none⟩ us fun j u hu=>by rw[Addr.add_lit];exact hc j u hu
 have hag:(isAgg t).run P w= .ok (nK P t) w:=by
  simp only[isAgg,nK,Sem.run_bind,run_underlying hd,Result.andThen_ok,hd];cases d<;>rfl
 constructor
 ·intro h;simp[Instr.loadAt,Instr.sureAddr,loadVar,hag,h,sizeOf,typeInfo,hi,hs,hl']
 ·intro h u hu;have:=hc 0 u hu;simp only[Nat.add_zero]at this;simp[Instr.loadAt,Instr.sureAddr,loadVar,hag,h,this]
theorem aA.drop_take{xs:List Value}{cs:List V}(h:aA w H xs cs)(k n:Nat):aA w H ((xs.drop k).take n) ((cs.drop k).take n):=by
 refine⟨by simp[h.1],fun j v x h1 h2=>?_⟩;rw[List.getElem?_take]at h1 h2;split at h1
 ·rename_i hj;rw[if_pos hj]at h2;rw[List.getElem?_drop]at h1 h2;exact h.2 _ v x h1 h2
 ·cases h1
theorem Mem.row(hm:Mem w0 H0 w H ov ob){j k n:Nat}{o:Ob}{u:Value}{b:Nat}(ho:ob j=some o)(hrf:r_ o=false)(hk:k+n≤o.cs.length)(hu:ov j=some u)(hb:blk u=some b):
 ∃us:List Value,us.length=n∧(∀i c,us[i]? =some c→w.cell? ⟨b,k+i,none⟩=some c)∧aA w H us ((o.cs.drop k).take n):=by
 have h1:∀i,i<n→∃c,w.cell? ⟨b,k+i,none⟩=some c∧∀x,o.cs[k+i]? =some x→aO w H c x:=fun i hi=>by
  obtain⟨c,h1,_,h3,_⟩:=hm.at (k:=k+i) (x:=o.cs[k+i]) ho (List.getElem?_eq_getElem om) hu hb;obtain⟨u',_,hor⟩:=hm.obj j o ho;exact⟨c,h1,fun x hx=>by rw[List.getElem?_eq_getElem om]at hx;cases hx;exact h3.down (hor.cl hrf _ (List.getElem_mem _))⟩
 refine⟨(List.range n).map fun i=>(w.cell? ⟨b,k+i,none⟩).getD undef,sy,fun i c hc=>?_,by simp;omega,fun i v x h2 h3=>?_⟩
 ·simp only[List.getElem?_map,List.getElem?_range,Option.map_eq_some_iff]at hc;obtain⟨i',hi',rfl⟩:=hc;have hi:i<n:=by
   rcases Nat.lt_or_ge i n with h|h
   ·exact h
   ·simp[List.getElem?_eq_none,h]at hi'
  obtain rfl:i=i':=by simp[List.getElem?_range hi]at hi';exact hi'
  obtain⟨c,hc,_⟩:=h1 i hi;rw[hc];rfl
 ·rw[List.getElem?_take]at h3;split at h3
  ·rename_i hi;rw[List.getElem?_drop]at h3;obtain⟨c,hc,hr⟩:=h1 i hi;simp only[List.getElem?_map,List.getElem?_range hi,Option.map_some,hc,Option.getD_some,Option.some.injEq]at h2;subst h2;exact hr x h3
  ·cases h3
theorem Nu{cs:List V}{k n b o:Nat}{f:Nat→Value}(hk:k+n≤cs.length)(hc:∀j,j<cs.length→w.cell? ⟨b,o+j,none⟩=some (f j))(hr:∀(j:Nat) (x:V),cs[j]? =some x→aO w H (f j) x):
 ∃us:List Value,us.length=n∧(∀i c,us[i]? =some c→w.cell? ⟨b,o+k+i,none⟩=some c)∧aA w H us ((cs.drop k).take n):=by
 refine⟨(List.range n).map fun i=>f (k+i),sy,fun i c h=>?_,by simp;omega,fun i v x h2 h3=>?_⟩
 ·have hi:i<n:=by
   rcases Nat.lt_or_ge i n with h'|h'
   ·exact h'
   ·simp[h']at h
  simp only[List.getElem?_map,List.getElem?_range hi,Option.map_some,Option.some.injEq]at h;subst h;rw[Nat.add_assoc];exact hc _ om
 ·rw[List.getElem?_take]at h3;split at h3
  ·rename_i hi;rw[List.getElem?_drop]at h3;simp only[List.getElem?_map,List.getElem?_range hi,Option.map_some,Option.some.injEq]at h2;subst h2;exact hr _ x h3
  ·cases h3
end lemmas
section ops
variable {P:Program} {w0 w:World} {H0:HS} {H:Nat→Prop} {ov:Nat→Option Value} {ob:Nat→Option Ob} {id:Nat} {ρ:X→V} {a:Act} {o:Oper} {K:Act→World→Prop} {Q:Exit→Act→World→Prop}
 {R:V→List (Nat×Option Ob)→Prop}
variable (hm:Mem w0 H0 w H ov ob) (hρ:∀p x,cX p=some x→Rep w H ov (a.eval p) (ρ x)) (hF:Fin w0 H0 w H ov ob id R a o.dst K)
include hm hρ hF
theorem s_ld{t:TypeId}{p:Operand}{p':X}{ti:TypeInfo}{d:TypeDesc}(hop:o.op= .load t p)(hp:cX p=some p')(hi:P.info? t=some ti)(hd:P.underlying t=some d)
 (h:ev (fun _ _ _=>False) (fun _ _ _=>False) ρ ob id R (.ld (nK P t) ti.size p')):o.wp P a w K Q:=by
 have h1:=hρ p p' hp
 simp only[ev]at h
 cases hv:ρ p'<;>rw[hv]at h h1<;>(try simp only[]at h)
 case ip cs k=>
  obtain⟨f,b,q,e,hb,hc,hr⟩:=h1.yz;cases hag:nK P t<;>rw[hag]at h<;>simp only[Bool.false_eq_true,if_false,if_true]at h
  ·obtain⟨hk,hR⟩:=h;obtain⟨us,hl,hus,hra⟩:=Nu (w:=w) (H:=H) (n:=1) hk hc hr;obtain⟨u,hu⟩:∃u,us[0]? =some u:=⟨us[0],List.getElem?_eq_getElem om⟩;have h0:=hus 0 u hu;have hag':(isAgg t).run P w= .ok false w:=by
    rw[←hag];simp only[isAgg,nK,Sem.run_bind,run_underlying hd,Result.andThen_ok,hd];cases d<;>rfl
   refine fin_same hm hF (cv:=u) ?_ (.up (hra.2 0 u (cs.getD k .un) hu ?_)) hR
   ·simp only[Nat.add_zero]at h0;simp[execOp,hop,e,Instr.loadAt,Instr.sureAddr,loadVar,hag',h0]
   ·simp[List.getElem?_take,List.getD,List.getElem?_eq_getElem hk]
  ·obtain⟨hk,hR⟩:=h;obtain⟨us,hl,hus,hra⟩:=Nu (w:=w) (H:=H) hk hc hr;refine fin_same hm hF (cv:= .agg us.toArray) ?_ (.up (.g us _ hra.1 hra.2)) hR;simp[execOp,hop,e,(yC (P:=P) t b (q+k) ti.size us hl hus hi rfl hd).1 hag]
 case pt j k=>
  obtain⟨b,u,e,hu,hb⟩:=h1.jY;cases ho:ob j with
  |none=>rw[ho]at h;exact h.elim
  |some oo=>
   rw[ho]at h;cases hag:nK P t<;>rw[hag]at h<;>simp only[Bool.false_eq_true,if_false,if_true]at h
   ·obtain⟨hk,hR⟩:=h;obtain⟨c,hc,_,hr,_⟩:=hm.at ho (List.getElem?_eq_getElem hk) hu hb;have hag':(isAgg t).run P w= .ok false w:=by
     rw[←hag];simp only[isAgg,nK,Sem.run_bind,run_underlying hd,Result.andThen_ok,hd];cases d<;>rfl
    refine fin_same hm hF (cv:=c) ?_ (v:=oo.cs.getD k .un) ?_ hR
    ·simp[execOp,hop,e,Instr.loadAt,Instr.sureAddr,loadVar,hag',hc]
    ·simpa[List.getD,List.getElem?_eq_getElem hk]using hr
   ·obtain⟨⟨hk,hrf⟩,hR⟩:=h;obtain⟨us,hl,hus,hra⟩:=hm.row ho hrf hk hu hb;refine fin_same hm hF (cv:= .agg us.toArray) ?_ (.up (.g us _ hra.1 hra.2)) hR;simp[execOp,hop,e,(yC (P:=P) t b k ti.size us hl hus hi rfl hd).1 hag]
theorem s_idx{t e:TypeId}{x i:Operand}{x' i':X}{ti:TypeInfo}(hop:o.op= .indexAddr t x i)(ht:P.underlying t=some (.slice e))(hi:P.info? e=some ti)(hx:cX x=some x')(hix:cX i=some i')
 (h:ev (fun _ _ _=>False) (fun _ _ _=>False) ρ ob id R (.idx ti.size x' i')):o.wp P a w K Q:=by
 have h1:=hρ x x' hx
 have h2:=hρ i i' hix
 simp only[ev]at h
 have run:∀(b k:Nat) (len cap:Nat) (kk:IntKind) (n:Int),0≤n→n<len→a.eval x= .slice (some ⟨b,k,none⟩) len cap→a.eval i= .int kk n→
  (execOp a.eval o).run P w= .ok (.value (.pointer (some ⟨b,k+n.toNat*ti.size,none⟩))) w:=fun b k len cap kk n h0 hl he hn=>by
  simp[execOp,hop,he,hn,Instr.indexAt,asIntOf,run_underlying ht,h0,hl,sizeOf,typeInfo,hi,Addr.add_lit]
 cases hv:ρ x'<;>rw[hv]at h h1<;>(try simp only[]at h)
 case l s cs=>
  cases hu:ρ i'<;>rw[hu]at h h2<;>(try simp only[]at h);case i k n=>
   obtain⟨⟨hs,h0,hl⟩,hR⟩:=h;obtain⟨ba,m,cap,f,b,q,e1,hsz,hn,hm',hcp,ha,hc,hr⟩:=h1.l_;have hlt:n.toNat<m:=by
    rcases Nat.lt_or_ge n.toNat m with h'|h'
    ·exact h'
    ·have:=Nat.mul_le_mul_right s h';rw[hs]at this;rw[hs]at hn;omega
   rcases ha with rfl|⟨rfl,hb⟩
   ·simp at hl
   ·exact fin_same hm hF (run b q m cap k n h0 om e1 h2.bT) (.up (.ip cs _ f b q hb hc hr)) hR
 case ow s j m=>
  cases hu:ρ i'<;>rw[hu]at h h2<;>(try simp only[]at h);case i k n=>
   obtain⟨⟨hs,h0,hl⟩,hR⟩:=h;obtain⟨ba,cap,e1,ho,hm',hcp,ha⟩:=h1.fH;rcases ha with h'|⟨b,rfl⟩
   ·omega
   ·have hrun:=run b 0 m cap k n h0 hl e1 h2.bT;rw[Nat.zero_add]at hrun;exact fin_same hm hF hrun (.pt j _ b _ ho (by rw[e1];rfl)) hR
 case sl s j off m=>
  cases hu:ρ i'<;>rw[hu]at h h2<;>(try simp only[]at h);case i k n=>
   obtain⟨⟨hs,h0,hl⟩,hR⟩:=h;obtain⟨ba,cap,u,e1,hm',hcp,ho,ha⟩:=h1.jX;rcases ha with h'|⟨b,hb,rfl⟩
   ·omega
   ·exact fin_same hm hF (run b off m cap k n h0 hl e1 h2.bT) (.pt j _ b u ho hb) hR
theorem s_aix{t e:TypeId}{n:Nat}{x i:Operand}{x' i':X}{ti:TypeInfo}(hop:o.op= .indexAddr t x i)(ht:P.underlying t=some (.array n e))(hi:P.info? e=some ti)(hx:cX x=some x')(hix:cX i=some i')
 (h:ev (fun _ _ _=>False) (fun _ _ _=>False) ρ ob id R (.Nh n ti.size x' i')):o.wp P a w K Q:=by
 have h1:=hρ x x' hx
 have h2:=hρ i i' hix
 simp only[ev]at h
 have run:∀(b k:Nat) (kk:IntKind) (m:Int),0≤m→m<n→a.eval x= .pointer (some ⟨b,k,none⟩)→a.eval i= .int kk m→
  (execOp a.eval o).run P w= .ok (.value (.pointer (some ⟨b,k+m.toNat*ti.size,none⟩))) w:=fun b k kk m h0 hl he hn=>by
  simp[execOp,hop,he,hn,Instr.indexAt,asIntOf,Instr.sureAddr,run_underlying ht,h0,hl,sizeOf,typeInfo,hi,Addr.add_lit]
 cases hv:ρ x'<;>rw[hv]at h h1<;>(try simp only[]at h)
 case ip cs k=>
  cases hu:ρ i'<;>rw[hu]at h h2<;>(try simp only[]at h);case i kk m=>
   obtain⟨⟨h0,hl⟩,hR⟩:=h;obtain⟨f,b,q,e1,hb,hc,hr⟩:=h1.yz;have hrun:=run b (q+k) kk m h0 hl e1 h2.bT;rw[Nat.add_assoc]at hrun;exact fin_same hm hF hrun (.up (.ip cs _ f b q hb hc hr)) hR
 case pt j k=>
  cases hu:ρ i'<;>rw[hu]at h h2<;>(try simp only[]at h);case i kk m=>
   obtain⟨⟨h0,hl⟩,hR⟩:=h;obtain⟨b,u,e1,ho,hb⟩:=h1.jY;exact fin_same hm hF (run b k kk m h0 hl e1 h2.bT) (.pt j _ b u ho hb) hR
theorem s_fad{t:TypeId}{p:Operand}{p':X}{i:Nat}{fs:Array Field}{fd:Field}{ti:TypeInfo}(hop:o.op= .fieldAddr t p i)(ht:P.underlying t=some (.struct fs))(hf:fs[i]? =some fd)(hi:P.info? fd.type=some ti)(hsz:0<ti.size)(hp:cX p=some p')
 (h:ev (fun _ _ _=>False) (fun _ _ _=>False) ρ ob id R (.dQ fd.offset p')):o.wp P a w K Q:=by
 have h1:=hρ p p' hp
 simp only[ev]at h
 have run:∀b k:Nat,a.eval p= .pointer (some ⟨b,k,none⟩)→(execOp a.eval o).run P w= .ok (.value (.pointer (some ⟨b,k+fd.offset,none⟩))) w:=fun b k e=>by
  have hz:¬ti.size=0:=om;simp[execOp,hop,e,Instr.fieldAt,run_underlying ht,hf,Instr.sureAddr,fieldPlace,sizeOf,typeInfo,hi,hz,Addr.add_lit]
 cases hv:ρ p'<;>rw[hv]at h h1<;>(try simp only[]at h)
 case ip cs k=>
  obtain⟨f,b,q,e,hb,hc,hr⟩:=h1.yz;have hrun:=run b (q+k) e;rw[Nat.add_assoc]at hrun;exact fin_same hm hF hrun (.up (.ip cs _ f b q hb hc hr)) h
 case pt j k=>
  obtain⟨b,u,e,hu,hb⟩:=h1.jY;exact fin_same hm hF (run b k e) (.pt j _ b u hu hb) h
theorem s_fld{t:TypeId}{p:Operand}{p':X}{i:Nat}{fs:Array Field}{fd:Field}{ti:TypeInfo}{d:TypeDesc}(hop:o.op= .field t p i)(ht:P.underlying t=some (.struct fs))(hf:fs[i]? =some fd)(hi:P.info? fd.type=some ti)(hd:P.underlying fd.type=some d)(hp:cX p=some p')
 (h:ev (fun _ _ _=>False) (fun _ _ _=>False) ρ ob id R (.Nc (nK P fd.type) fd.offset ti.size p')):o.wp P a w K Q:=by
 have h1:=hρ p p' hp
 simp only[ev]at h
 have Yg:(isAgg fd.type).run P w= .ok (nK P fd.type) w:=by
  simp only[isAgg,nK,Sem.run_bind,run_underlying hd,Result.andThen_ok,hd];cases d<;>rfl
 cases hv:ρ p'<;>rw[hv]at h h1<;>(try simp only[]at h)
 case g cs=>
  obtain⟨vs,e,hn,hr⟩:=h1.yx;cases hag:nK P fd.type<;>rw[hag]at h Yg<;>simp only[Bool.false_eq_true,if_false,if_true]at h
  ·obtain⟨hk,hR⟩:=h;have hk':fd.offset<vs.length:=om;refine fin_same hm hF (cv:=vs[fd.offset]) ?_ (.up (hr fd.offset _ (cs.getD fd.offset .un) (List.getElem?_eq_getElem hk') ?_)) hR
   ·simp[execOp,hop,e,Instr.field,run_underlying ht,hf,asAgg,part,Yg,hk']
   ·simp[List.getD,List.getElem?_eq_getElem hk]
  ·obtain⟨hk,hR⟩:=h;have hra:aA w H ((vs.drop fd.offset).take ti.size) ((cs.drop fd.offset).take ti.size):=aA.drop_take ⟨hn,hr⟩ _ _;refine fin_same hm hF (cv:= .agg ((vs.drop fd.offset).take ti.size).toArray) ?_ (.up (.g _ _ hra.1 hra.2)) hR;simp[execOp,hop,e,Instr.field,run_underlying ht,hf,asAgg,part,Yg,sizeOf,typeInfo,hi]
omit hm hF hρ in
theorem nC{x:Option Operand}{x':Option X}(h:Nk x=some x'):(x=none∧x'=none)∨∃y y',x=some y∧x'=some y'∧cX y=some y':=by
 cases x with
 |none=>left;simp[Nk]at h;exact⟨rfl,h.symm⟩
 |some y=>
  right;simp[Nk]at h;obtain⟨y',h1,rfl⟩:=h;exact⟨y,y',rfl,rfl,h1⟩
omit hm hF hρ in
theorem TZ{t e:TypeId}{ti:TypeInfo}(ht:P.underlying t=some (.slice e))(hi:P.info? e=some ti)(ba:Option Addr)(n cap:Nat)(lo hi':Option Value)(l h:Nat)(hlo:(lo=none∧l=0)∨∃k,lo=some (.int k (l:Int)))(hhi:(hi'=none∧h=n)∨∃k,hi'=some (.int k (h:Int)))
 (h1:l≤h) (h2:h≤cap):(Instr.sliceAt t (.slice ba n cap) lo hi' none).run P w= .ok (.slice (if cap=l then ba else ba.map (·.add (l*ti.size))) (h-l) (cap-l)) w:=by
 have h1':(l:Int)≤h:=om
 have h2':(h:Int)≤cap:=om
 rcases hlo with ⟨rfl,rfl⟩|⟨k,rfl⟩<;>rcases hhi with ⟨rfl,rfl⟩|⟨k',rfl⟩<;>
  simp[Instr.sliceAt,Instr.slice,Instr.sliceBounds,Instr.sliceBound,asIntOf,run_underlying ht,sizeOf,typeInfo,hi,h1,h2]
omit hm hF hρ in
theorem iV{sz:Nat}{cs:List V}{ba:Option Addr}{n cap l h:Nat}(hr:Rep w H ov (.slice ba n cap) (.l sz cs))(h1:l≤h)(h2:h≤n):
 Rep w H ov (.slice (if cap=l then ba else ba.map (·.add (l*sz))) (h-l) (cap-l)) (.l sz ((cs.take (h*sz)).drop (l*sz))):=by
 obtain⟨_,_,_,f,b,o,e,hsz,hn,hm,hcp,ha,hc,hr'⟩:=hr.l_
 cases e
 have hle:h*sz≤n*sz:=Nat.mul_le_mul_right _ h2
 have hlen:((cs.take (h*sz)).drop (l*sz)).length=(h-l)*sz:=by
  rw[List.length_drop,List.length_take,Nat.sub_mul,hn];omega
 refine .up (.l _ _ _ sz _ (fun j=>f (l*sz+j)) b (o+l*sz) hsz hlen om om ?_ (fun j hj=>?_) (fun j x hx=>?_))
 ·by_cases hE:(cs.take (h*sz)).drop (l*sz)=[]
  ·exact .inl hE
  ·right;have hpos:0<(h-l)*sz:=by rw[←hlen];exact List.length_pos_iff.2 hE
   have hl:l<h:=by
    rcases Nat.lt_or_ge l h with h'|h'
    ·exact h'
    ·rw[Nat.sub_eq_zero_of_le h',Nat.zero_mul]at hpos;omega
   rcases ha with rfl|⟨rfl,hb⟩
   ·simp at hE
   ·rw[if_neg om];exact⟨by simp[Addr.add_lit],hb⟩
 ·rw[hlen]at hj;have hj':l*sz+j<cs.length:=by
   rw[hn];have:l*sz+(h-l)*sz=h*sz:=by rw[←Nat.add_mul];congr 1;omega
   omega
  rw[Nat.add_assoc];exact hc _ hj'
 ·rw[List.getElem?_drop,List.getElem?_take]at hx;split at hx
  ·exact hr' _ x hx
  ·cases hx
omit hm hF hρ in
theorem jo{sz j off n cap l h:Nat}{ba:Option Addr}(hr:Rep w H ov (.slice ba n cap) (.sl sz j off n))(h1:l≤h)(h2:h≤n):
 Rep w H ov (.slice (if cap=l then ba else ba.map (·.add (l*sz))) (h-l) (cap-l)) (.sl sz j (off+l*sz) (h-l)):=by
 have hz0:=fun(h0:off=0) (hs:0<sz)=>Rep.IC hs (h0▸hr)
 obtain⟨_,_,u,e,hm,hcp,ho,ha⟩:=hr.jX
 cases e
 refine .sl _ _ _ _ _ _ u om om ho ?_ (fun h0 hs=>?_)
 rotate_left 1
 ·have hl0:l=0:=by
   rcases Nat.mul_eq_zero.1 (show l*sz=0 by omega)with h|h<;>omega
  subst hl0;obtain⟨_,_,m,e,_,_,ho2⟩:=hz0 om hs;cases e;rw[ho]at ho2;refine⟨m,?_⟩;rw[Option.some.inj ho2,Nat.sub_zero,Nat.zero_mul];congr 1;split
  ·rfl
  ·cases ba with
   |none=>rfl
   |some x=>simp[Addr.add]
 by_cases hl:h-l=0
 ·exact .inl hl
 ·right;rcases ha with ha|⟨b,hb,rfl⟩
  ·omega
  ·refine⟨b,hb,?_⟩;rw[if_neg om];simp[Addr.add_lit]
omit hm hF hρ in
theorem vF{sz j n:Nat}{v:Value}(hr:Rep w H ov v (.ow sz j n)):Rep w H ov v (.sl sz j 0 n):=by
 obtain⟨a,cap,rfl,ho,hm,hcp,ha⟩:=hr.fH;exact .sl _ _ _ _ _ _ _ hm hcp ho (ha.imp id fun⟨b,e⟩=>⟨b,by rw[e];rfl,e⟩) (fun _ _=>⟨_,rfl⟩)
theorem s_sub{t e:TypeId}{x:Operand}{lo hi:Option Operand}{x':X}{lo' hi':Option X}{ti:TypeInfo}(hop:o.op= .slice t x lo hi none)(ht:P.underlying t=some (.slice e))(hi0:P.info? e=some ti)(hx:cX x=some x')(hlo:Nk lo=some lo')(hhi:Nk hi=some hi')
 (h:ev (fun _ _ _=>False) (fun _ _ _=>False) ρ ob id R (.sub ti.size x' lo' hi')):o.wp P a w K Q:=by
 have h1:=hρ x x' hx
 simp only[ev]at h
 have run:∀(ba:Option Addr) (n cap l hh:Nat),a.eval x= .slice ba n cap→((lo.map a.eval=none∧l=0)∨∃k,lo.map a.eval=some (.int k (l:Int)))→((hi.map a.eval=none∧hh=n)∨∃k,hi.map a.eval=some (.int k (hh:Int)))→l≤hh→hh≤cap→
  (execOp a.eval o).run P w= .ok (.value (.slice (if cap=l then ba else ba.map (·.add (l*ti.size))) (hh-l) (cap-l))) w:=fun ba n cap l hh e hl hh' h1 h2=>by
  have:=TZ (P:=P) (w:=w) ht hi0 ba n cap _ _ l hh hl hh' h1 h2
  simp[execOp,hop,e,this]
 have A0:∀(k:IntKind) (n:Int) (y:Operand),a.eval y= .int k n→0≤n→∃k',(some y).map a.eval=some (.int k' (n.toNat:Int)):=fun k n y e h0=>⟨k,by simp[e,Int.toNat_of_nonneg h0]⟩
 have toN:∀(n:Int) (m:Nat),0≤n→n≤m→n.toNat≤m:=fun n m _ _=>om
 cases hv:ρ x'<;>rw[hv]at h h1<;>(try simp only[]at h)
 case l s cs=>
  obtain⟨ba,n,cap,f,b,q,e1,hsz,hn,hm',hcp,ha,hc,hr⟩:=h1.l_;rw[e1]at h1;have Nv:∀m:Nat,m*s≤cs.length→m≤n:=fun m hmm=>by rw[hn]at hmm;exact Nat.le_of_mul_le_mul_right hmm hsz
  rcases nC hlo with ⟨rfl,rfl⟩|⟨y,y',rfl,rfl,hy⟩<;>rcases nC hhi with ⟨rfl,rfl⟩|⟨z,z',rfl,rfl,hz⟩<;>simp only[Option.map_none,Option.map_some]at h
  ·obtain⟨rfl,hR⟩:=h;have hk:=iV (l:=0) (h:=n) h1 (Nat.zero_le _) (Nat.le_refl _);rw[←hn,List.take_length,Nat.zero_mul,List.drop_zero]at hk;exact fin_same hm hF (run ba n cap 0 n e1 (.inl ⟨rfl,rfl⟩) (.inl ⟨rfl,rfl⟩) (Nat.zero_le _) hcp) (by simpa using hk) hR
  ·have h3:=hρ z z' hz;cases hu:ρ z'<;>rw[hu]at h h3<;>(try simp only[]at h);case i k m=>
    obtain⟨⟨rfl,h0,hl⟩,hR⟩:=h;have hle:=Nv _ hl;have hk:=iV (l:=0) (h:=m.toNat) h1 (Nat.zero_le _) hle;rw[Nat.zero_mul,List.drop_zero]at hk;exact fin_same hm hF (run ba n cap 0 m.toNat e1 (.inl ⟨rfl,rfl⟩) (.inr (A0 k m z h3.bT h0)) (Nat.zero_le _) om) (by simpa using hk) hR
  ·have h3:=hρ y y' hy;cases hu:ρ y'<;>rw[hu]at h h3<;>(try simp only[]at h);case i k m=>
    obtain⟨⟨rfl,h0,hl⟩,hR⟩:=h;have hle:=Nv _ hl;have hk:=iV (l:=m.toNat) (h:=n) h1 hle (Nat.le_refl _);rw[←hn,List.take_length]at hk;exact fin_same hm hF (run ba n cap m.toNat n e1 (.inr (A0 k m y h3.bT h0)) (.inl ⟨rfl,rfl⟩) hle hcp) hk hR
  ·have h3:=hρ y y' hy;have h4:=hρ z z' hz;cases hu:ρ y'<;>rw[hu]at h h3<;>(try simp only[]at h);case i k m=>
    cases hu':ρ z'<;>rw[hu']at h h4<;>(try simp only[]at h);case i k' m'=>
     obtain⟨⟨rfl,h0,hmm,hl⟩,hR⟩:=h;have hle:=Nv _ hl;exact fin_same hm hF (run ba n cap m.toNat m'.toNat e1 (.inr (A0 k m y h3.bT h0)) (.inr (A0 k' m' z h4.bT om)) om om) (iV h1 om hle) hR
 case ow s j n=>
  obtain⟨ba,cap,e1,ho,hm',hcp,ha⟩:=h1.fH;have hs:=vF h1;rw[e1]at h1 hs;rcases nC hlo with ⟨rfl,rfl⟩|⟨y,y',rfl,rfl,hy⟩<;>rcases nC hhi with ⟨rfl,rfl⟩|⟨z,z',rfl,rfl,hz⟩<;>simp only[Option.map_none,Option.map_some]at h
  ·obtain⟨rfl,hR⟩:=h;refine fin_same hm hF (cv:= .slice ba n cap) ?_ h1 hR;have hrun:=run ba n cap 0 n e1 (.inl ⟨rfl,rfl⟩) (.inl ⟨rfl,rfl⟩) (Nat.zero_le _) hcp;rw[hrun];rcases ha with rfl|⟨b,rfl⟩
   ·cases ba<;>simp[Addr.add]
   ·simp[Addr.add]
  ·have h3:=hρ z z' hz;cases hu:ρ z'<;>rw[hu]at h h3<;>(try simp only[]at h);case i k m=>
    obtain⟨⟨rfl,h0,hl⟩,hR⟩:=h;have hk:=jo (l:=0) (h:=m.toNat) hs (Nat.zero_le _) om;exact fin_same hm hF (run ba n cap 0 m.toNat e1 (.inl ⟨rfl,rfl⟩) (.inr (A0 k m z h3.bT h0)) (Nat.zero_le _) om) (by simpa using hk) hR
  ·have h3:=hρ y y' hy;cases hu:ρ y'<;>rw[hu]at h h3<;>(try simp only[]at h);case i k m=>
    obtain⟨⟨rfl,h0,hl⟩,hR⟩:=h;have hk:=jo (l:=m.toNat) (h:=n) hs om (Nat.le_refl _);rw[Nat.zero_add]at hk;exact fin_same hm hF (run ba n cap m.toNat n e1 (.inr (A0 k m y h3.bT h0)) (.inl ⟨rfl,rfl⟩) om hcp) hk hR
  ·have h3:=hρ y y' hy;have h4:=hρ z z' hz;cases hu:ρ y'<;>rw[hu]at h h3<;>(try simp only[]at h);case i k m=>
    cases hu':ρ z'<;>rw[hu']at h h4<;>(try simp only[]at h);case i k' m'=>
     obtain⟨⟨rfl,h0,hmm,hl⟩,hR⟩:=h;have hk:=jo (l:=m.toNat) (h:=m'.toNat) hs om om;rw[Nat.zero_add]at hk;exact fin_same hm hF (run ba n cap m.toNat m'.toNat e1 (.inr (A0 k m y h3.bT h0)) (.inr (A0 k' m' z h4.bT om)) om om) hk hR
 case sl s j off n=>
  obtain⟨ba,cap,u,e1,hm',hcp,ho,ha⟩:=h1.jX;rw[e1]at h1;rcases nC hlo with ⟨rfl,rfl⟩|⟨y,y',rfl,rfl,hy⟩<;>rcases nC hhi with ⟨rfl,rfl⟩|⟨z,z',rfl,rfl,hz⟩<;>simp only[Option.map_none,Option.map_some]at h
  ·obtain⟨rfl,hR⟩:=h;have hk:=jo (l:=0) (h:=n) h1 (Nat.zero_le _) (Nat.le_refl _);exact fin_same hm hF (run ba n cap 0 n e1 (.inl ⟨rfl,rfl⟩) (.inl ⟨rfl,rfl⟩) (Nat.zero_le _) hcp) (by simpa using hk) hR
  ·have h3:=hρ z z' hz;cases hu:ρ z'<;>rw[hu]at h h3<;>(try simp only[]at h);case i k m=>
    obtain⟨⟨rfl,h0,hl⟩,hR⟩:=h;have hk:=jo (l:=0) (h:=m.toNat) h1 (Nat.zero_le _) om;exact fin_same hm hF (run ba n cap 0 m.toNat e1 (.inl ⟨rfl,rfl⟩) (.inr (A0 k m z h3.bT h0)) (Nat.zero_le _) om) (by simpa using hk) hR
  ·have h3:=hρ y y' hy;cases hu:ρ y'<;>rw[hu]at h h3<;>(try simp only[]at h);case i k m=>
    obtain⟨⟨rfl,h0,hl⟩,hR⟩:=h;exact fin_same hm hF (run ba n cap m.toNat n e1 (.inr (A0 k m y h3.bT h0)) (.inl ⟨rfl,rfl⟩) om hcp) (jo h1 om (Nat.le_refl _)) hR
  ·have h3:=hρ y y' hy;have h4:=hρ z z' hz;cases hu:ρ y'<;>rw[hu]at h h3<;>(try simp only[]at h);case i k m=>
    cases hu':ρ z'<;>rw[hu']at h h4<;>(try simp only[]at h);case i k' m'=>
     obtain⟨⟨rfl,h0,hmm,hl⟩,hR⟩:=h;exact fin_same hm hF (run ba n cap m.toNat m'.toNat e1 (.inr (A0 k m y h3.bT h0)) (.inr (A0 k' m' z h4.bT om)) om om) (jo h1 om om) hR
 case nl=>
  have e1:=h1.jm;have nl':∀l hh:Nat,l=0→hh=0→Rep w H ov (.slice (if 0=l then none else(none:Option Addr).map (·.add (l*ti.size))) (hh-l) (0-l)) .nl:=fun l hh e e'=>by subst e;subst e';exact .nl
  rcases nC hlo with ⟨rfl,rfl⟩|⟨y,y',rfl,rfl,hy⟩<;>rcases nC hhi with ⟨rfl,rfl⟩|⟨z,z',rfl,rfl,hz⟩<;>simp only[Option.map_none,Option.map_some]at h
  ·exact fin_same hm hF (run none 0 0 0 0 e1 (.inl ⟨rfl,rfl⟩) (.inl ⟨rfl,rfl⟩) (Nat.le_refl _) (Nat.le_refl _)) (nl' 0 0 rfl rfl) h
  ·have h3:=hρ z z' hz;cases hu:ρ z'<;>rw[hu]at h h3<;>(try simp only[]at h);case i k m=>
    obtain⟨rfl,hR⟩:=h;exact fin_same hm hF (run none 0 0 0 0 e1 (.inl ⟨rfl,rfl⟩) (.inr (A0 k 0 z h3.bT om)) (Nat.le_refl _) (Nat.le_refl _)) (nl' 0 0 rfl rfl) hR
  ·have h3:=hρ y y' hy;cases hu:ρ y'<;>rw[hu]at h h3<;>(try simp only[]at h);case i k m=>
    obtain⟨rfl,hR⟩:=h;exact fin_same hm hF (run none 0 0 0 0 e1 (.inr (A0 k 0 y h3.bT om)) (.inl ⟨rfl,rfl⟩) (Nat.le_refl _) (Nat.le_refl _)) (nl' 0 0 rfl rfl) hR
  ·have h3:=hρ y y' hy;have h4:=hρ z z' hz;cases hu:ρ y'<;>rw[hu]at h h3<;>(try simp only[]at h);case i k m=>
    cases hu':ρ z'<;>rw[hu']at h h4<;>(try simp only[]at h);case i k' m'=>
     obtain⟨⟨rfl,rfl⟩,hR⟩:=h;exact fin_same hm hF (run none 0 0 0 0 e1 (.inr (A0 k 0 y h3.bT om)) (.inr (A0 k' 0 z h4.bT om)) (Nat.le_refl _) (Nat.le_refl _)) (nl' 0 0 rfl rfl) hR
 case kn v x=>
  cases v<;>(try simp only[]at h);case slice ba n cap=>
   cases x<;>(try simp only[]at h);case l s cs=>
    obtain⟨e1,h5⟩:=h1.BO;have h6:Rep w H ov (.slice ba n cap) (.l s cs):= .base h5;rcases nC hlo with ⟨rfl,rfl⟩|⟨y,y',rfl,rfl,hy⟩<;>rcases nC hhi with ⟨rfl,rfl⟩|⟨z,z',rfl,rfl,hz⟩<;>simp only[Option.map_none,Option.map_some]at h
    ·have h3:=hρ z z' hz;cases hu:ρ z'<;>rw[hu]at h h3<;>(try simp only[]at h);case i k m=>
      obtain⟨⟨rfl,h0,hl,hcp,g,rfl⟩,hR⟩:=h;have hcap:n≤cap:=by
       cases h5;assumption
      have hk:=iV (l:=0) (h:=m.toNat) h6 (Nat.zero_le _) om;rw[Nat.zero_mul,List.drop_zero]at hk;have hrun:=run (some ⟨g,0,none⟩) n cap 0 m.toNat e1 (.inl ⟨rfl,rfl⟩) (.inr (A0 k m z h3.bT h0)) (Nat.zero_le _) om;have ea:(if cap=0 then(some ⟨g,0,none⟩:Option Addr)else(some ⟨g,0,none⟩:Option Addr).map (·.add (0*ti.size)))=some ⟨g,0,none⟩:=by
       split
       ·rfl
       ·simp[Addr.add]
      rw[ea]at hrun;rw[Nat.zero_mul]at ea;rw[ea]at hk;exact fin_same hm hF hrun (by
       have hk':=hk.down rfl;simp only[Nat.sub_zero]at hk' ⊢;exact .base (.kn _ _ hk')) hR
theorem s_asl{t e:TypeId}{n:Nat}{x:Operand}{lo hi:Option Operand}{x':X}{lo' hi':Option X}{ti:TypeInfo}(hop:o.op= .slice t x lo hi none)(ht:P.underlying t=some (.array n e))(hi0:P.info? e=some ti)(hpos:0<ti.size)(hn:n≤1099511627776)(hx:cX x=some x')(hlo:Nk lo=some lo')(hhi:Nk hi=some hi')
 (h:ev (fun _ _ _=>False) (fun _ _ _=>False) ρ ob id R (.JM n ti.size x' lo' hi')):o.wp P a w K Q:=by
 have h1:=hρ x x' hx
 simp only[ev]at h
 have run:∀(ba:Addr) (l hh:Nat),a.eval x= .pointer (some ba)→((lo.map a.eval=none∧l=0)∨∃k,lo.map a.eval=some (.int k (l:Int)))→((hi.map a.eval=none∧hh=n)∨∃k,hi.map a.eval=some (.int k (hh:Int)))→l≤hh→hh≤n→
  (execOp a.eval o).run P w= .ok (.value (.slice (if n=l then some ba else(some ba).map (·.add (l*ti.size))) (hh-l) (n-l))) w:=fun ba l hh e hl hh' h1 h2=>by
  have h1':(l:Int)≤hh:=om
  have h2':(hh:Int)≤n:=om
  have:(Instr.sliceAt t (.pointer (some ba)) (lo.map a.eval) (hi.map a.eval) none).run P w= .ok (.slice (if n=l then some ba else(some ba).map (·.add (l*ti.size))) (hh-l) (n-l)) w:=by
   rcases hl with ⟨e1,rfl⟩|⟨k,e1⟩<;>rcases hh' with ⟨e2,rfl⟩|⟨k',e2⟩<;>rw[e1,e2]<;>
    simp[Instr.sliceAt,Instr.sureAddr,Instr.sliceBounds,Instr.sliceBound,asIntOf,run_underlying ht,sizeOf,typeInfo,hi0,h1,h2]<;>(split<;>rfl)
  simp[execOp,hop,e,this]
 have A0:∀(k:IntKind) (n:Int) (y:Operand),a.eval y= .int k n→0≤n→∃k',(some y).map a.eval=some (.int k' (n.toNat:Int)):=fun k n y e h0=>⟨k,by simp[e,Int.toNat_of_nonneg h0]⟩
 have hml:n≤maxLen:=by unfold maxLen;omega
 cases hv:ρ x'<;>rw[hv]at h h1<;>(try simp only[]at h)
 case ip cs k0=>
  obtain⟨f,b,q,e1,hb,hc,hr⟩:=h1.yz;have base:k0=0→cs.length=n*ti.size→a.eval x= .pointer (some ⟨b,q,none⟩)∧Rep w H ov (.slice (some ⟨b,q,none⟩) n n) (.l ti.size cs):=fun e2 e3=>by
   subst e2;exact⟨e1,.up (.l _ n n ti.size cs f b q hpos e3 hml (Nat.le_refl _) (.inr ⟨rfl,hb⟩) hc hr)⟩
  rcases nC hlo with ⟨rfl,rfl⟩|⟨y,y',rfl,rfl,hy⟩<;>rcases nC hhi with ⟨rfl,rfl⟩|⟨z,z',rfl,rfl,hz⟩<;>simp only[Option.map_none,Option.map_some]at h
  ·obtain⟨⟨e2,e3⟩,hR⟩:=h;obtain⟨e4,hk0⟩:=base e2 e3;have hk:=iV (l:=0) (h:=n) hk0 (Nat.zero_le _) (Nat.le_refl _);rw[←e3,List.take_length,Nat.zero_mul,List.drop_zero]at hk;exact fin_same hm hF (run _ 0 n e4 (.inl ⟨rfl,rfl⟩) (.inl ⟨rfl,rfl⟩) (Nat.zero_le _) (Nat.le_refl _)) (by simpa using hk) hR
  ·have h3:=hρ z z' hz;cases hu:ρ z'<;>rw[hu]at h h3<;>(try simp only[]at h);case i k m=>
    obtain⟨⟨e2,e3,h0,hl⟩,hR⟩:=h;obtain⟨e4,hk0⟩:=base e2 e3;have hk:=iV (l:=0) (h:=m.toNat) hk0 (Nat.zero_le _) om;rw[Nat.zero_mul,List.drop_zero]at hk;exact fin_same hm hF (run _ 0 m.toNat e4 (.inl ⟨rfl,rfl⟩) (.inr (A0 k m z h3.bT h0)) (Nat.zero_le _) om) (by simpa using hk) hR
  ·have h3:=hρ y y' hy;cases hu:ρ y'<;>rw[hu]at h h3<;>(try simp only[]at h);case i k m=>
    obtain⟨⟨e2,e3,h0,hl⟩,hR⟩:=h;obtain⟨e4,hk0⟩:=base e2 e3;have hk:=iV (l:=m.toNat) (h:=n) hk0 om (Nat.le_refl _);rw[←e3,List.take_length]at hk;exact fin_same hm hF (run _ m.toNat n e4 (.inr (A0 k m y h3.bT h0)) (.inl ⟨rfl,rfl⟩) om (Nat.le_refl _)) (by simpa using hk) hR
  ·have h3:=hρ y y' hy;have h4:=hρ z z' hz;cases hu:ρ y'<;>rw[hu]at h h3<;>(try simp only[]at h);case i k m=>
    cases hu2:ρ z'<;>rw[hu2]at h h4<;>(try simp only[]at h);case i k2 m2=>
     obtain⟨⟨e2,e3,h0,hl,hl2⟩,hR⟩:=h;obtain⟨e4,hk0⟩:=base e2 e3;have hk:=iV (l:=m.toNat) (h:=m2.toNat) hk0 om om;exact fin_same hm hF (run _ m.toNat m2.toNat e4 (.inr (A0 k m y h3.bT h0)) (.inr (A0 k2 m2 z h4.bT om)) om om) (by simpa using hk) hR
theorem Yh{t:TypeId}{x:Operand}{lo hi:Option Operand}{x':X}{lo' hi':Option X}(hop:o.op= .slice t x lo hi none)(ht:P.underlying t=some .string)(hx:cX x=some x')(hlo:Nk lo=some lo')(hhi:Nk hi=some hi')
 (h:ev (fun _ _ _=>False) (fun _ _ _=>False) ρ ob id R (.vw x' lo' hi')):o.wp P a w K Q:=by
 have h1:=hρ x x' hx
 simp only[ev]at h
 have ext:∀(l:List UInt8) (p q:Nat),(⟨l.toArray⟩:ByteArray).extract p q=⟨((l.take q).drop p).toArray⟩:=fun l p q=>by
  apply ByteArray.ext;simp[ByteArray.data_extract,List.extract_eq_take_drop,List.drop_take]
 cases hv:ρ x'<;>rw[hv]at h h1<;>(try simp only[]at h)
 case s l=>
  have hsz:=yA l;rcases nC hlo with ⟨rfl,rfl⟩|⟨y,y',rfl,rfl,hy⟩<;>rcases nC hhi with ⟨rfl,rfl⟩|⟨z,z',rfl,rfl,hz⟩<;>simp only[Option.map_none,Option.map_some]at h
  ·refine fin_same hm hF (cv:= .string ⟨l.toArray⟩) ?_ (.s _) h;have e:=ext l 0 l.length;simp[execOp,hop,h1.l9,Instr.sliceAt,Instr.slice,Instr.sliceBounds,run_underlying ht,hsz,e]
  ·have h2:=hρ z z' hz;cases hu:ρ z'<;>rw[hu]at h h2<;>(try simp only[]at h);case i k n=>
    obtain⟨⟨h0,hl⟩,hR⟩:=h;refine fin_same hm hF (cv:= .string ⟨(l.take n.toNat).toArray⟩) ?_ (.s _) hR;have e:=ext l 0 n.toNat;have hl':n.toNat≤l.length:=om;simp[execOp,hop,h1.l9,h2.bT,Instr.sliceAt,Instr.slice,Instr.sliceBounds,Instr.sliceBound,asIntOf,run_underlying ht,hsz,h0,hl,e]
  ·have h2:=hρ y y' hy;cases hu:ρ y'<;>rw[hu]at h h2<;>(try simp only[]at h);case i k n=>
    obtain⟨⟨h0,hl⟩,hR⟩:=h;refine fin_same hm hF (cv:= .string ⟨(l.drop n.toNat).toArray⟩) ?_ (.s _) hR;have e:=ext l n.toNat l.length;simp[execOp,hop,h1.l9,h2.bT,Instr.sliceAt,Instr.slice,Instr.sliceBounds,Instr.sliceBound,asIntOf,run_underlying ht,hsz,h0,hl,e]
  ·have h2:=hρ y y' hy;have h3:=hρ z z' hz;cases hu:ρ y'<;>rw[hu]at h h2<;>(try simp only[]at h);case i k n=>
    cases hu':ρ z'<;>rw[hu']at h h3<;>(try simp only[]at h);case i k' m=>
     obtain⟨⟨h0,hl,hl2⟩,hR⟩:=h;refine fin_same hm hF (cv:= .string ⟨((l.take m.toNat).drop n.toNat).toArray⟩) ?_ (.s _) hR;have e:=ext l n.toNat m.toNat;have h00:0≤m:=om;have h01:n≤max m 0:=om;simp[execOp,hop,h1.l9,h2.bT,h3.bT,Instr.sliceAt,Instr.slice,Instr.sliceBounds,Instr.sliceBound,asIntOf,run_underlying ht,hsz,h0,h00,hl,hl2,e,h01]
end ops
end Go.Proofs.YtoehbmlfnjlchaaGreatDoor.Ab
namespace Go.Proofs.YtoehbmlfnjlchaaGreatDoor.Ab
open Go Go.RowKit
section
variable {w0 w w':World} {H0:HS} {H:Nat→Prop} {ov:Nat→Option Value} {ob:Nat→Option Ob}
def dW(ob:Nat→Option Ob)(up:List (Nat×Option Ob)):Prop:=∀k x,(k,x)∈up→∃o,ob k=some o∧x=some {o with mu:=false}
theorem dW.nil:dW ob []:=fun _ _ h=>by cases h
theorem dW.append{u1 u2:List (Nat×Option Ob)}(h1:dW ob u1)(h2:dW ob u2):dW ob (u1++u2):=fun k x h=>(List.mem_append.1 h).elim (h1 k x) (h2 k x)
theorem dX(v:V):dW ob (dU ob v):=by
 intro k x h;cases v<;>simp only[dU]at h<;>(try cases h);all_goals
  split at h
  ·rename_i o ho;simp only[List.mem_singleton,Prod.mk.injEq]at h;obtain⟨rfl,rfl⟩:=h;exact⟨o,ho,rfl⟩
  ·cases h
theorem h_{α:Type}(l:List α)(f:α→V):dW ob (l.flatMap fun p=>dU ob (f p)):=by
 intro k x h;obtain⟨p,_,hp⟩:=List.mem_flatMap.1 h;exact dX _ k x hp
theorem jB(up:List (Nat×Option Ob))(i:Nat):(upd ob up i=ob i∧∀x,(i,x) ∉ up)∨(i,upd ob up i)∈up:=by
 induction up with
 |nil=>exact .inl ⟨rfl,fun _ h=>by cases h⟩
 |cons p r ih=>
  obtain⟨k,v⟩:=p;simp only[upd];split
  ·rename_i hk;subst hk;exact .inr (List.mem_cons_self)
  ·rename_i hk;rcases ih with ⟨h1,h2⟩|h
   ·refine .inl ⟨h1,fun x h=>?_⟩;rcases List.mem_cons.1 h with e|h
    ·cases e;exact hk rfl
    ·exact h2 x h
   ·exact .inr (List.mem_cons_of_mem _ h)
theorem dM.lt{O:Nat→Prop}{v:Value}{o:Ob}(h:dM w H O ov v o){b:Nat}(hb:blk v=some b):O b∧b<w.heap.size:=by
 refine⟨h.ow b hb,?_⟩;rcases h.bd with ⟨_,⟨b',cur,rfl,hB,hh,_⟩|⟨_,n,xs,hown,_⟩⟩|⟨_,_,n,xs,hown,_⟩
 ·cases hb;exact(Array.getElem?_eq_some_iff.1 hh).1
 ·rcases hown.2 with ⟨rfl,_⟩|⟨g,cap,cur,rfl,hB,hh,_⟩
  ·cases hb
  ·cases hb;exact(Array.getElem?_eq_some_iff.1 hh).1
 ·rcases hown.2 with ⟨rfl,_⟩|⟨g,cap,cur,rfl,hB,hh,_⟩
  ·cases hb
  ·cases hb;exact(Array.getElem?_eq_some_iff.1 hh).1
theorem Mem.freeze(hm:Mem w0 H0 w H ov ob){up:List (Nat×Option Ob)}(hu:dW ob up):
 ∃H':Nat→Prop,Ext w H ov w H' ov∧Mem w0 H0 w H' ov (upd ob up)∧(∀k x u b,(k,x)∈up→ov k=some u→blk u=some b→H' b)∧
  (∀b,H' b→H b∨∃k x u,(k,x)∈up∧ov k=some u∧blk u=some b):=by
 have alive:∀i o,upd ob up i=some o→∃o',ob i=some o'∧((o=o'∧∀x,(i,x) ∉ up)∨(o={o' with mu:=false}∧∃x,(i,x)∈up)):=fun i o h=>by
  rcases jB (ob:=ob) up i with ⟨h1,h2⟩|h1
  ·exact⟨o,h1▸h,.inl ⟨rfl,h2⟩⟩
  ·obtain⟨o',ho',e⟩:=hu _ _ h1;rw[h]at e;exact⟨o',ho',.inr ⟨Option.some.inj e,_,h1⟩⟩
 refine⟨fun b=>H b∨∃k x u,(k,x)∈up∧ov k=some u∧blk u=some b,⟨fun b h=> .inl h,fun _ _=>rfl,fun _ _ h=>h⟩,⟨hm.bel,hm.tj.mono (fun _ h=> .inl h) (fun _ _=>rfl),?_,?_,?_,?_⟩,fun k x u b h1 h2 h3=> .inr ⟨k,x,u,h1,h2,h3⟩,fun b h=>h⟩
 ·rintro b (h|⟨k,x,u,h1,h2,h3⟩)
  ·exact hm.pV b h
  ·obtain⟨o,ho,_⟩:=hu _ _ h1;obtain⟨u',hu',hr⟩:=hm.obj k o ho;rw[h2]at hu';cases hu';exact(hr.lt h3).2
 ·rintro b (h|⟨k,x,u,h1,h2,h3⟩) hb
  ·exact hm.low b h hb
  ·obtain⟨o,ho,_⟩:=hu _ _ h1;obtain⟨u',hu',hr⟩:=hm.obj k o ho;rw[h2]at hu';cases hu';rcases(hr.lt h3).1 with h4|h4
   ·omega
   ·exact .inr h4
 ·intro i o hi;obtain⟨o',ho',hc⟩:=alive i o hi;obtain⟨u,hu',hr⟩:=hm.obj i o' ho';refine⟨u,hu',?_⟩;have mono:∀{xs:List Value} {cs:List V},aA w H xs cs→aA w (fun b=>H b∨∃k x u,(k,x)∈up∧ov k=some u∧blk u=some b) xs cs:=fun h=>h.mono (fun b h=> .inl h) (fun _ _=>rfl)
  have IE:∀{xs:List Value} {cs:List V},kL w H ov xs cs→kL w (fun b=>H b∨∃k x u,(k,x)∈up∧ov k=some u∧blk u=some b) ov xs cs:=fun h=>h.mono ⟨fun b h=> .inl h,fun _ _=>rfl,fun _ _ h=>h⟩
  rcases hc with ⟨rfl,hno⟩|⟨rfl,x,hx⟩
  ·refine⟨hr.um,hr.ow,fun b hb=>⟨fun h=>?_,fun h=> .inl ((hr.fz b hb).2 h)⟩,?_⟩
   ·rcases h with h|⟨k,x,u',h1,h2,h3⟩
    ·exact(hr.fz b hb).1 h
    ·obtain⟨ok,hok,_⟩:=hu _ _ h1;exact absurd h3 (hm.sep i k _ _ _ _ b (fun e=>hno x (e▸h1)) ho' hok hu' h2 hb)
   ·rcases hr.bd with ⟨hv,⟨b,cur,hu0,hB,hh,hra⟩|⟨hsz,n,xs,hown,hra,hmm⟩⟩|⟨hv,hsz,n,xs,hown,hra,hmm⟩
    ·exact .inl ⟨hv,.inl ⟨b,cur,hu0,hB,hh,IE hra⟩⟩
    ·exact .inl ⟨hv,.inr ⟨hsz,n,xs,hown,IE hra,hmm⟩⟩
    ·exact .inr ⟨hv,hsz,n,xs,hown,mono hra,hmm⟩
  ·refine⟨hr.um,hr.ow,fun b hb=>⟨fun _=>rfl,fun _=> .inr ⟨i,x,u,hx,hu',hb⟩⟩,?_⟩;rcases hr.bd with ⟨hv,⟨b,cur,hu0,hB,hh,hra⟩|⟨hsz,n,xs,hown,hra,hmm⟩⟩|⟨hv,hsz,n,xs,hown,hra,hmm⟩
   ·exact .inl ⟨hv,.inl ⟨b,cur,hu0,hB,hh,IE hra⟩⟩
   ·exact .inl ⟨hv,.inr ⟨hsz,n,xs,hown,IE hra,hmm⟩⟩
   ·exact .inr ⟨hv,hsz,n,xs,hown,mono hra,hmm⟩
 ·intro i j oi oj vi vj b hij hi hj;obtain⟨oi',hi',_⟩:=alive i oi hi;obtain⟨oj',hj',_⟩:=alive j oj hj;exact hm.sep i j oi' oj' vi vj b hij hi' hj'
theorem jJ(hm:Mem w0 H0 w H ov ob){v:Value}{x:V}{sz:Nat}(hsz:0<sz)(hr:Rep w H ov v x)(hok:okR ob x)(hc:(rd ob sz x).aV=true∨(rd ob sz x).cell=true){H':Nat→Prop}(hH:∀b,H b→H' b)
 (hfr:∀k y u b,(k,y)∈dU ob x→ov k=some u→blk u=some b→H' b):aO w H' v (rd ob sz x):=by
 have row:∀(j off n:Nat) (o:Ob) (u:Value) (ba:Option Addr) (cap:Nat),ob j=some o→o.iy=false→ov j=some u→(∀b,blk u=some b→H' b)→v= .slice ba n cap→n≤maxLen→n≤cap→off+n*o.sz≤o.cs.length→
  (n=0∨∃b,blk u=some b∧ba=some ⟨b,off,none⟩)→aO w H' v (.l o.sz ((o.cs.drop off).take (n*o.sz))):=by
  intro j off n o u ba cap ho qc hu hfb hv hml hcp hle ha
  obtain⟨u',hu',hor⟩:=hm.obj j o ho
  rw[hu]at hu';cases hu'
  have yD:0<o.sz:=by
   rcases hor.bd with ⟨h,_⟩|⟨_,h,_⟩
   ·rw[qc]at h;cases h
   ·exact h
  subst hv
  have hlen:((o.cs.drop off).take (n*o.sz)).length=n*o.sz:=by simp;omega
  rcases ha with rfl|⟨b,hb,rfl⟩
  ·simp only[Nat.zero_mul,List.take_zero];exact .l ba 0 cap o.sz [] (fun _=>undef) 0 0 yD sy (Nat.zero_le _) hcp (.inl rfl) (fun j hj=>by simp at hj) (fun j x hx=>by simp at hx)
  ·obtain⟨us,h1,h2,h3⟩:=hm.row ho (lN qc) hle hu hb;refine .l _ n cap o.sz _ (fun j=>us.getD j undef) b off yD hlen hml hcp (.inr ⟨rfl,hfb b hb⟩) (fun j hj=>?_) (fun j x hx=>?_)
   ·rw[hlen]at hj;have hj':j<us.length:=om;rw[h2 j us[j] (List.getElem?_eq_getElem hj')];simp[List.getD,List.getElem?_eq_getElem hj']
   ·have hj:j<us.length:=by
     have:=(List.getElem?_eq_some_iff.1 hx).1;rw[hlen]at this;omega
    have:=h3.2 j us[j] x (List.getElem?_eq_getElem hj) hx;simp only[List.getD,List.getElem?_eq_getElem hj,Option.getD_some];exact this.mono hH (fun _ _=>rfl)
 cases x with
 |ow s j n=>
  obtain⟨ba,cap,rfl,ho,hml,hcp,ha⟩:=hr.fH;simp only[rd]at hc ⊢;cases hoj:ob j with
  |none=>rw[hoj]at hc;simp[V.aV,V.cell]at hc
  |some o=>
   rw[hoj]at hc;simp only[]at hc ⊢;cases hv:o.iy with
   |true=>rw[hv]at hc;simp[V.aV,V.cell]at hc
   |false=>
    simp only[Bool.false_eq_true,if_false];obtain⟨u',hu',hor⟩:=hm.obj j o hoj;rw[ho]at hu';cases hu';have hn:o.cs.length=n*o.sz:=by
     rcases hor.bd with ⟨h,_⟩|⟨_,_,m,xs,hown,hra,_⟩
     ·rw[hv]at h;cases h
     ·have e:m=n:=by
       rcases hown.2 with ⟨h,h'⟩|⟨g,cap',cur,h,_⟩
       ·cases h;exact h'
       ·cases h;rfl
      rw[←hra.1,hown.1,e]
    have:=row j 0 n o _ ba cap hoj hv ho (fun b hb=>hfr j (some {o with mu:=false}) _ b (by simp[dU,hoj]) ho hb) rfl hml hcp om (ha.imp id fun⟨b,e⟩=>⟨b,by rw[e];rfl,e⟩);rw[List.drop_zero,←hn,List.take_length]at this;exact this
 |sl s j off n=>
  obtain⟨ba,cap,u,rfl,hml,hcp,ho,ha⟩:=hr.jX;simp only[rd]at hc ⊢;simp only[okR]at hok;cases hoj:ob j with
  |none=>rw[hoj]at hok;exact hok.elim
  |some o=>
   rw[hoj]at hc hok;simp only[]at hc ⊢;cases hv:o.iy with
   |true=>rw[hv]at hc;simp[V.aV,V.cell]at hc
   |false=>
    simp only[Bool.false_eq_true,if_false];exact row j off n o u ba cap hoj hv ho (fun b hb=>hfr j (some {o with mu:=false}) _ b (by simp[dU,hoj]) ho hb) rfl hml hcp hok ha
 |nl=>
  rw[hr.jm];exact .l none 0 0 sz [] (fun _=>undef) 0 0 hsz sy (Nat.zero_le _) (Nat.le_refl _) (.inl rfl) (fun j hj=>by simp at hj) (fun j x hx=>by simp at hx)
 |pt i k=>simp[rd,V.aV,V.cell]at hc
 |tw sz i n rs=>simp[rd,V.aV,V.cell]at hc
 |_=>
  cases hr with
  |base h=>exact h.mono hH (fun _ _=>rfl)
theorem Mem.step(hm:Mem w0 H0 w H ov ob){row:Option Nat}(hbel:aY w0 H0.e w')(hsz:w.heap.size≤w'.heap.size)(hg:∀k,k<w.heap.size→some k≠row→w'.heap[k]? =w.heap[k]?)
 (hH:∀b,H b→some b≠row) {ob':Nat→Option Ob} {dh:Nat→Option Value} (hov:∀i v,ov i=some v→dh i=some v)
 (hob:∀i o,ob' i=some o→(ob i=some o∧∀u b,ov i=some u→blk u=some b→some b≠row)∨
   (∃v,dh i=some v∧dM w' H (Ow w0 H0) dh v o∧∀j oj vj b,j≠i→ob' j=some oj→dh j=some vj→blk v=some b→blk vj≠some b)):
 Ext w H ov w' H dh∧Mem w0 H0 w' H dh ob':=by
 have hw:∀b,H b→w'.heap[b]? =w.heap[b]? :=fun b hb=>hg b (hm.pV b hb) (hH b hb)
 refine⟨⟨fun _ h=>h,hw,hov⟩,⟨hbel,hm.tj.mono (fun _ h=>h) hw,fun b hb=>Nat.lt_of_lt_of_le (hm.pV b hb) hsz,hm.low,fun i o hi=>?_,?_⟩⟩
 ·rcases hob i o hi with ⟨h1,h2⟩|⟨v,h1,h2,_⟩
  ·obtain⟨u,hu,hr⟩:=hm.obj i o h1;exact⟨u,hov i u hu,hr.mono hov (fun _ h=>h) hw (fun b hb=>hg b (hr.lt hb).2 (h2 u b hu hb)) (fun b _ h=>h)⟩
  ·exact⟨v,h1,h2⟩
 ·intro i j oi oj vi vj b hij hi hj sV nM hb;rcases hob i oi hi with ⟨h1,h2⟩|⟨v,h1,h2,h3⟩
  ·rcases hob j oj hj with ⟨k1,k2⟩|⟨v',k1,k2,k3⟩
   ·obtain⟨ui,hui,_⟩:=hm.obj i oi h1;obtain⟨uj,huj,_⟩:=hm.obj j oj k1;have e1:=hov i ui hui;have e2:=hov j uj huj;rw[sV]at e1;rw[nM]at e2;cases e1;cases e2;exact hm.sep i j oi oj _ _ b hij h1 k1 hui huj hb
   ·rw[nM]at k1;cases k1;exact fun hb'=>k3 i oi vi b hij hi sV hb' hb
  ·rw[sV]at h1;cases h1;exact h3 j oj vj b (fun e=>hij e.symm) hj nM hb
def pX(ov:Nat→Option Value)(id:Nat)(v:Value):Nat→Option Value:=fun i=>if i=id then some v else ov i
theorem di(id:Nat)(v:Value):pX ov id v id=some v:=by simp[pX]
theorem iL{id:Nat}{v:Value}(hid:ov id=none):∀i u,ov i=some u→pX ov id v i=some u:=fun i u h=>by
 unfold pX;split
 ·rename_i e;subst e;rw[hid]at h;cases h
 ·exact h
theorem dR{id:Nat}{v:Value}:∀i,i≠id→ov i=none→pX ov id v i=none:=fun i h1 h2=>by simp[pX,h1,h2]
theorem Mem.add(hm:Mem w0 H0 w H ov ob){id:Nat}(hid:ov id=none)(hob:ob id=none)(hb:Below w.heap.size w w'){v:Value}{o:Ob}(hr:∀dh,dM w' H (Ow w0 H0) dh v o)(hnew:∀b,blk v=some b→w.heap.size≤b):
 Ext w H ov w' H (pX ov id v)∧Mem w0 H0 w' H (pX ov id v) (upd ob [(id,some o)]):=by
 refine hm.step (row:=none) (hm.bel.after hb) hb.size (fun k hk _=>hb.block k hk) (fun _ _=>sy) (iL hid) fun i oi hi=>?_
 by_cases e:i=id
 ·subst e;right;simp only[upd,if_true,Option.some.injEq]at hi;subst hi;refine⟨v,di i v,hr _,fun j oj vj b hj hoj nM hbv hbj=>?_⟩;have h1:=hnew b hbv;simp only[upd,if_neg (fun e=>hj e.symm:¬i=j)]at hoj;obtain⟨u,hu,hur⟩:=hm.obj j oj hoj;have:=iL (v:=v) hid j u hu;rw[nM]at this;cases this;have:=(hur.lt hbj).2;omega
 ·left;simp only[upd,if_neg (fun e'=>e e'.symm:¬id=i)]at hi;exact⟨hi,fun _ _ _ _=>sy⟩
theorem ig{α:Type}:∀(vs cs:List α) (k:Nat),(setAt cs k vs).length=cs.length
 |[],cs,k=>rfl
 |v::r,cs,k=>by simp[setAt,ig r]
theorem vH:∀(us:List Value) (xs:List V) (vs:List Value) (cs:List V) (k:Nat),aA w H us xs→aA w H vs cs→aA w H (setAt vs k us) (setAt cs k xs)
 |[],[],vs,cs,k,_,h=>h
 |[],_::_,_,_,_,h,_=>by have:=h.1;simp at this
 |_::_,[],_,_,_,h,_=>by have:=h.1;simp at this
 |u::us,x::xs,vs,cs,k,h,h'=>by
  refine vH us xs _ _ (k+1) ⟨by simpa using h.1,fun j v y h1 h2=>h.2 (j+1) v y (by simpa using h1) (by simpa using h2)⟩ ⟨by simp[h'.1],fun j v y h1 h2=>?_⟩;rw[List.getElem?_set]at h1 h2;by_cases e:k=j
  ·subst e;rw[if_pos rfl]at h1 h2;split at h1
   ·rename_i hl;rw[if_pos (by rw[←h'.1];exact hl)]at h2;cases h1;cases h2;exact h.2 0 _ _ rfl rfl
   ·cases h1
  ·rw[if_neg e]at h1 h2;exact h'.2 j v y h1 h2
theorem yE:∀(us:List Value) (xs:List V) (vs:List Value) (cs:List V) (k:Nat),kL w H ov us xs→kL w H ov vs cs→kL w H ov (setAt vs k us) (setAt cs k xs)
 |[],[],vs,cs,k,_,h=>h
 |[],_::_,_,_,_,h,_=>by have:=h.1;simp at this
 |_::_,[],_,_,_,h,_=>by have:=h.1;simp at this
 |u::us,x::xs,vs,cs,k,h,h'=>by
  refine yE us xs _ _ (k+1) ⟨by simpa using h.1,fun j v y h1 h2=>h.2 (j+1) v y (by simpa using h1) (by simpa using h2)⟩ ⟨by simp[h'.1],fun j v y h1 h2=>?_⟩;rw[List.getElem?_set]at h1 h2;by_cases e:k=j
  ·subst e;rw[if_pos rfl]at h1 h2;split at h1
   ·rename_i hl;rw[if_pos (by rw[←h'.1];exact hl)]at h2;cases h1;cases h2;exact h.2 0 _ _ rfl rfl
   ·cases h1
  ·rw[if_neg e]at h1 h2;exact h'.2 j v y h1 h2
theorem nU{α:Type}(p:α→Prop):∀(vs cs:List α) (k:Nat),(∀x,x∈cs→p x)→(∀x,x∈vs→p x)→∀x,x∈setAt cs k vs→p x
 |[],cs,k,h,_,x,hx=>h x hx
 |v::r,cs,k,h,h',x,hx=>nU p r (cs.set k v) (k+1) (fun y hy=>by
   rcases List.mem_or_eq_of_mem_set hy with h1|h1
   ·exact h y h1
   ·subst h1;exact h' _ (List.mem_cons_self)) (fun y hy=>h' y (List.mem_cons_of_mem _ hy)) x hx
end
end Go.Proofs.YtoehbmlfnjlchaaGreatDoor.Ab
namespace Go.Proofs.YtoehbmlfnjlchaaGreatDoor.Ab
open Go Go.RowKit
section
variable {P:Program} {w0 w w':World} {H0:HS} {H:Nat→Prop} {ov:Nat→Option Value} {ob:Nat→Option Ob}
theorem FT(v:Value):aO w H v (cS v):=by
 unfold cS;split
 ·exact .i _ _
 ·exact .b _
 ·exact .s _
 ·exact .l none 0 0 1 [] (fun _=>undef) 0 0 dc sy (Nat.zero_le _) (Nat.le_refl _) (.inl rfl) (fun j hj=>by simp at hj) (fun j x hx=>by simp at hx)
 ·exact .f _ _ M_
 ·exact .f _ _ X0
 ·exact .z _ _ _ _ M_ M_
 ·exact .z _ _ _ _ X0 M_
 ·exact .z _ _ _ _ M_ X0
 ·exact .c _
theorem vI(vs:List Value):aA w H vs (vs.map cS):=by
 refine⟨sy,fun j v x h1 h2=>?_⟩;rw[List.getElem?_map,h1]at h2;simp only[Option.map_some,Option.some.injEq]at h2;subst h2;exact FT v
theorem dY{cs:List V}(h:cs.all V.cell=true):∀x,x∈cs→x.cell=true:=fun x hx=>List.all_eq_true.1 h x hx
theorem nD{y:V}(h:y.cells.all V.cell=true):y.aV=true∨y.cell=true:=by
 cases y<;>first|exact .inl rfl|(right;simpa[V.cells]using h)
theorem rJ{v:Value}{y:V}(h:aO w H v y)(hc:y.cells.all V.cell=true):aA w H v.cells.toList y.cells:=by
 have one:y.cell=true→y.cells=[y]→aA w H v.cells.toList y.cells:=fun hy e=>by
  have h1:=h.oneCell hy;have e2:v.cells=#[v]:=by cases v<;>first|rfl|(simp[Value.oneCell']at h1)
  rw[e,e2];refine⟨rfl,fun j u x h1 h2=>?_⟩;cases j with
  |zero=>simp at h1 h2;subst h1;subst h2;exact h
  |succ j=>simp at h1
 cases y with
 |g cs=>
  cases h with
  |g vs cs hn hr=>exact⟨by simpa[Value.cells,V.cells]using hn,by simpa[Value.cells,V.cells]using hr⟩
 |_=>first|exact one rfl rfl|(exact one (by simpa[V.cells]using hc) rfl)
theorem DC{α:Type}:∀(us xs:List α) (k:Nat),k+us.length≤xs.length→setAt xs k us=xs.take k++us++xs.drop (k+us.length)
 |[],xs,k,_=>by simp[setAt]
 |u::us,xs,k,h=>by
  have hk:k<xs.length:=by simp at h;omega
  rw[setAt,DC us (xs.set k u) (k+1) (by simp at h ⊢;omega)];have e1:(xs.set k u).take (k+1)=xs.take k++[u]:=by
   rw[List.take_succ_eq_append_getElem (by simpa using hk)];simp[List.take_set_of_le]
  have e2:(xs.set k u).drop (k+1+us.length)=xs.drop (k+(us.length+1)):=by
   rw[List.drop_set_of_lt om];congr 1;omega
  rw[e1,e2];simp
theorem sW{α:Type}:∀(us xs:List α) (k m:Nat),(setAt xs k us).take m=setAt (xs.take m) k us
 |[],xs,k,m=>rfl
 |u::us,xs,k,m=>by rw[setAt,setAt,sW us,List.take_set]
theorem Mem.store(hm:Mem w0 H0 w H ov ob){j k:Nat}{o:Ob}{u:Value}{b:Nat}(ho:ob j=some o)(hmu:o.mu=true)(hu:ov j=some u)(hb:blk u=some b){us:List Value}{ys:List V}(hr:kL w H ov us ys)(hcl:∀x,x∈ys→x.cell=true∨(r_ o=true∧isRef x=true))(hk:k+ys.length≤o.cs.length):
 ∃w',(storeCells ⟨b,k,none⟩ us).run P w= .ok () w'∧Ext w H ov w' H ov∧Mem w0 H0 w' H ov (upd ob [(j,some {o with cs:=setAt o.cs k ys})]):=by
 obtain⟨u',hu',hor⟩:=hm.obj j o ho
 rw[hu]at hu';cases hu'
 have Dq:¬H b:=fun h=>by have:=(hor.fz b hb).1 h;rw[hmu]at this;cases this
 have h1:∀v∈us,v.oneCell'=true:=fun v hv=>by
  obtain⟨i,hi,rfl⟩:=List.getElem_of_mem hv;have hi':i<ys.length:=by rw[←hr.1];exact hi
  have hx:=hr.2 i _ _ (List.getElem?_eq_getElem hi) (List.getElem?_eq_getElem hi');rcases hcl _ (List.getElem_mem hi')with h1|⟨_,h1⟩
  ·exact(hx.down h1).oneCell h1
  ·generalize ys[i]=y at hx h1;cases y<;>first|(simp[isRef]at h1;done)|(obtain⟨_,_,e,_⟩:=hx.fH;rw[e];rfl)|(obtain⟨_,_,_,e,_⟩:=hx.jX;rw[e];rfl)|(rw[hx.jm];rfl)
 have hB:=hor.lt hb
 have hblk:∃cur,w.heap[b]? =some (.cells cur o.e (0,0))∧o.cs.length≤cur.size∧
  (∀w'',(∀h:Nat,h≠b→w''.heap[h]? =w.heap[h]?)→w''.heap[b]? =some (.cells (setAt cur.toList k us).toArray o.e (0,0))→dM w'' H (Ow w0 H0) ov u {o with cs:=setAt o.cs k ys}):=by
  rcases hor.bd with ⟨hv,⟨b',cur,rfl,hBb,hh,hra⟩|⟨hsz,n,xs,hown,hra,hnm⟩⟩|⟨hv,hsz,n,xs,hown,hra,hnm⟩
  ·cases hb;refine⟨cur,hh,by rw[←hra.1];simp,fun w'' hw hw2=>⟨nU (fun x=>x.cell=true∨(r_ o=true∧isRef x=true)) _ _ _ hor.um hcl,hor.ow,hor.fz,.inl ⟨hv,.inl ⟨b',_,rfl,hBb,hw2,?_⟩⟩⟩⟩;have e:=yE us ys cur.toList o.cs k hr hra;exact e.mono ⟨fun _ h=>h,fun c hc=>hw c (fun e=>Dq (e▸hc)),fun _ _ h=>h⟩
  ·rcases hown.2 with ⟨rfl,_⟩|⟨g,cap,cur,rfl,hbg,hh,hnc,hcm,hcs,htake⟩
   ·cases hb
   ·cases hb;refine⟨cur,hh,?_,fun w'' hw hw2=>⟨nU (fun x=>x.cell=true∨(r_ o=true∧isRef x=true)) _ _ _ hor.um hcl,hor.ow,hor.fz,.inl ⟨hv,.inr ⟨hsz,n,setAt xs k us,⟨by rw[ig];exact hown.1,.inr ⟨g,cap,_,rfl,hbg,hw2,hnc,hcm,?_,?_⟩⟩,?_,hnm⟩⟩⟩⟩
    ·rw[←hra.1,hown.1,hcs];exact Nat.mul_le_mul_right _ hnc
    ·simp[ig,hcs]
    ·show(setAt cur.toList k us).take (n*o.sz)=_;rw[sW,htake]
    ·have e:=yE us ys xs o.cs k hr hra;exact e.mono ⟨fun _ h=>h,fun c hc=>hw c (fun e=>Dq (e▸hc)),fun _ _ h=>h⟩
  ·rcases hown.2 with ⟨rfl,_⟩|⟨g,cap,cur,rfl,hbg,hh,hnc,hcm,hcs,htake⟩
   ·cases hb
   ·cases hb;refine⟨cur,hh,?_,fun w'' hw hw2=>⟨nU (fun x=>x.cell=true∨(r_ o=true∧isRef x=true)) _ _ _ hor.um hcl,hor.ow,hor.fz,.inr ⟨hv,hsz,n,setAt xs k us,⟨by rw[ig];exact hown.1,.inr ⟨g,cap,_,rfl,hbg,hw2,hnc,hcm,?_,?_⟩⟩,?_,hnm⟩⟩⟩
    ·rw[←hra.1,hown.1,hcs];exact Nat.mul_le_mul_right _ hnc
    ·simp[ig,hcs]
    ·show(setAt cur.toList k us).take (n*o.sz)=_;rw[sW,htake]
    ·have e:=vH us ys xs o.cs k (hr.all fun x hx=>(hcl x hx).resolve_right fun h=>by rw[lN hv]at h;cases h.1) hra;exact(e.mono (fun _ h=>h) fun c hc=>hw c (fun e=>Dq (e▸hc)))
 obtain⟨cur,hh,hle,hfin⟩:=hblk
 have hkl:k+us.length≤cur.size:=by have:=hr.1;omega
 have hrun:=run_storeCells_at P b k o.e us 0 cur w hh (by simpa using hkl) h1
 simp only[Nat.add_zero]at hrun
 have e:(cur.toList.take k++us++cur.toList.drop (k+us.length))=setAt cur.toList k us:=(DC us cur.toList k (by simpa using hkl)).symm
 rw[e]at hrun
 refine⟨_,hrun,?_⟩
 have hoth:∀h:Nat,h≠b→(w.setRow b (setAt cur.toList k us).toArray).heap[h]? =w.heap[h]? :=fun h hne=>setRow_other w b h _ hne
 have hsame:=setRow_heap w b cur (setAt cur.toList k us).toArray o.e (0,0) hh
 have hsize:(w.setRow b (setAt cur.toList k us).toArray).heap.size=w.heap.size:=by simp[World.setRow]
 refine hm.step (row:=some b) ?_ (Nat.le_of_eq hsize.symm) (fun h _ hne=>hoth h (fun e=>hne (by rw[e]))) (fun c hc e=>Dq (by cases e;exact hc)) (fun _ _ h=>h) fun i oi hi=>?_
 ·exact hm.bel.chg hB.1 rfl rfl rfl (Nat.le_of_eq hsize.symm) (fun k _ hne=>hoth k hne)
 ·by_cases e:i=j
  ·subst e;right;simp only[upd,if_true,Option.some.injEq]at hi;subst hi;refine⟨u,hu,hfin _ hoth hsame,fun l ol vl c hl hol hvl hbc=>?_⟩;simp only[upd,if_neg (fun e=>hl e.symm:¬i=l)]at hol;exact hm.sep i l o ol u vl c (fun e=>hl e.symm) ho hol hu hvl hbc
  ·left;simp only[upd,if_neg (fun e'=>e e'.symm:¬j=i)]at hi;refine⟨hi,fun u' c h1 h2 e'=>?_⟩;cases e';exact hm.sep i j oi o u' u _ e hi ho h1 hu h2 hb
theorem jK(ob:Nat→Option Ob)(u1 u2:List (Nat×Option Ob)):upd (upd ob u2) u1=upd ob (u1++u2):=by
 funext i;induction u1 with
 |nil=>rfl
 |cons p r ih=>obtain⟨k,v⟩:=p;simp only[List.cons_append,upd];split<;>first|rfl|exact ih
theorem lY{t:TypeId}{sz xK:Nat}{z:List V}(h:vz P t=some (sz,xK,z)):
 ∃i v,P.info? t=some i∧i.zero=some v∧i.size=sz∧i.bytes=xK∧z=v.cells.toList.map cS∧v.cells.size=sz∧0<sz∧z.all V.cell=true:=by
 unfold vz at h
 split at h
 ·rename_i i hi;split at h
  ·rename_i v hv;split at h
   ·rename_i hc;simp only[Option.some.injEq,Prod.mk.injEq]at h;obtain⟨rfl,rfl,rfl⟩:=h;exact⟨i,v,hi,hv,rfl,rfl,rfl,hc.1,hc.2.1,hc.2.2⟩
   ·cases h
  ·cases h
 ·cases h
theorem Ny{B:Nat}{e:TypeId}{sz:Nat}{v:Value}{n:Nat}{xs:List Value}(h:w.ownsRow B e sz v n xs):w.ownsRow 0 e sz v n xs:=
 ⟨h.1,h.2.imp (fun h=>h) fun⟨g,cap,cur,e1,_,r⟩=>⟨g,cap,cur,e1,Nat.zero_le _,r⟩⟩
theorem ownB{B:Nat}{e:TypeId}{sz:Nat}{v:Value}{n:Nat}{xs:List Value}(h:w.ownsRow 0 e sz v n xs)(hb:∀b,blk v=some b→B≤b):w.ownsRow B e sz v n xs:=
 ⟨h.1,h.2.imp (fun h=>h) fun⟨g,cap,cur,e1,_,r⟩=>⟨g,cap,cur,e1,hb g (by rw[e1];rfl),r⟩⟩
theorem dM.row{B:Nat}{O:Nat→Prop}{v:Value}{n:Nat}{xs:List Value}{e sz:Nat}{cs:List V}(hown:w.ownsRow B e sz v n xs)(hsz:0<sz)(hr:aA w H xs cs)(hcl:∀x,x∈cs→x.cell=true)(hn:n≤maxLen)(hH:∀b,blk v=some b→¬H b)(hO:∀b,blk v=some b→O b):
 ∀dh,dM w H O dh v {e,sz,cs,mu:=true,iy:=false}:=fun dh=>
 ⟨fun x hx=> .inl (hcl x hx),hO,fun b hb=>⟨fun h=>absurd h (hH b hb),fun h=>by cases h⟩,.inr ⟨rfl,hsz,n,xs,Ny hown,hr,hn⟩⟩
theorem jL{B e sz n id:Nat}{v:Value}{xs:List Value}{dh:Nat→Option Value}(hown:w.ownsRow B e sz v n xs)(hn:n≤maxLen)(ho:dh id=some v):Rep w H dh v (.ow sz id n):=by
 rcases hown.2 with ⟨rfl,rfl⟩|⟨g,cap,cur,rfl,_,_,hnc,_⟩
 ·exact .ow sz id 0 0 none hn (Nat.le_refl _) (.inl rfl) ho
 ·exact .ow sz id n cap _ hn hnc (.inr ⟨g,rfl⟩) ho
theorem IG{B e sz n:Nat}{v:Value}{xs:List Value}(hown:w.ownsRow B e sz v n xs){b:Nat}(hb:blk v=some b):v.ownBlock=some b:=by
 rcases hown.2 with ⟨rfl,rfl⟩|⟨g,cap,cur,rfl,_⟩
 ·cases hb
 ·exact hb
end
section ops
variable {P:Program} {w0 w:World} {H0:HS} {H:Nat→Prop} {ov:Nat→Option Value} {ob:Nat→Option Ob} {id:Nat} {ρ:X→V} {a:Act} {o:Oper} {K:Act→World→Prop} {Q:Exit→Act→World→Prop}
 {R:V→List (Nat×Option Ob)→Prop}
variable (hm:Mem w0 H0 w H ov ob) (hρ:∀p x,cX p=some x→Rep w H ov (a.eval p) (ρ x)) (hF:Fin w0 H0 w H ov ob id R a o.dst K) (hid:ov id=none) (hob:ob id=none)
include hm hρ hF hid hob
omit hid hob in
theorem s_st{t:TypeId}{p x:Operand}{p' x':X}{ti:TypeInfo}(hop:o.op= .store t p x)(hp:cX p=some p')(hx:cX x=some x')(hi:P.info? t=some ti)
 (h:ev (fun _ _ _=>False) (fun _ _ _=>False) ρ ob id R (.st ti.size p' x')):o.wp P a w K Q:=by
 have h1:=hρ p p' hp
 have h2:=hρ x x' hx
 simp only[ev]at h
 cases hv:ρ p'<;>rw[hv]at h h1<;>(try simp only[]at h)
 case pt j k=>
  obtain⟨b,u,e,hu,hb⟩:=h1.jY;cases hoj:ob j with
  |none=>rw[hoj]at h;exact h.elim
  |some oo=>
   rw[hoj]at h;obtain⟨⟨hok,hmu,hnf,hlen,hk,hall⟩,hR⟩:=h;obtain⟨H1,eX,hm1,hfr,_⟩:=hm.freeze (dX (ob:=ob) (ρ x'));have hrd:=jJ hm (sz:=1) dc h2 hok (nD hall) eX.hH hfr;have hcells:=rJ hrd hall;have hoj1:upd ob (dU ob (ρ x')) j=some oo:=by
    rcases jB (ob:=ob) (dU ob (ρ x')) j with ⟨e1,_⟩|h'
    ·rw[e1];exact hoj
    ·have:=List.all_eq_true.1 hnf _ h';simp at this
   obtain⟨w',hrun,qw,hm2⟩:=hm1.store (P:=P) hoj1 hmu hu hb hcells.cs (fun x hx=> .inl (dY hall x hx)) (by rw[hlen];exact hk);rw[jK]at hm2;have hsz:(a.eval x).cells.size=ti.size:=by
    have:=hcells.1;simp only[Array.length_toList]at this;rw[this,hlen]
   unfold Oper.wp;have:(execOp a.eval o).run P w= .ok .skip w':=by
    simp[execOp,hop,e,Instr.storeAt,Instr.sureAddr,storeVar,sizeOf,typeInfo,hi,hsz,hrun]
   rw[this];exact hF _ _ undef w' H1 ov hR (eX.trans qw) (fun _ _ h=>h) hm2 .un
omit hid hob in
theorem s_stk{t:TypeId}{p x:Operand}{p' x':X}{ti:TypeInfo}(hop:o.op= .store t p x)(hp:cX p=some p')(hx:cX x=some x')(hi:P.info? t=some ti)(h1s:ti.size=1)
 (h:ev (fun _ _ _=>False) (fun _ _ _=>False) ρ ob id R (.stk p' x')):o.wp P a w K Q:=by
 have h1:=hρ p p' hp
 have h2:=hρ x x' hx
 simp only[ev]at h
 cases hv:ρ p'<;>rw[hv]at h h1<;>(try simp only[]at h)
 case pt j k=>
  obtain⟨b,u,e,hu,hb⟩:=h1.jY;cases hoj:ob j with
  |none=>rw[hoj]at h;exact h.elim
  |some oo=>
   rw[hoj]at h;obtain⟨⟨hrf,hir,hmu,hk⟩,hR⟩:=h;have hsl:∃ba n c,a.eval x= .slice ba n c:=by
    generalize ρ x'=y at h2 hir;cases y<;>first|(simp[isRef]at hir;done)|(obtain⟨ba,c,e,_⟩:=h2.fH;exact⟨_,_,_,e⟩)|(obtain⟨ba,c,_,e,_⟩:=h2.jX;exact⟨_,_,_,e⟩)|exact⟨_,_,_,h2.jm⟩
   obtain⟨ba,n,c,ex⟩:=hsl;have hcs:kL w H ov [a.eval x] [ρ x']:=⟨rfl,fun i v y h3 h4=>by
    cases i with
    |zero=>cases h3;cases h4;exact h2
    |succ i=>simp at h3⟩
   obtain⟨w',hrun,eX,hm2⟩:=hm.store (P:=P) hoj hmu hu hb hcs (fun y hy=>by rw[List.mem_singleton]at hy;subst hy;exact .inr ⟨hrf,hir⟩) hk;have hsz:(a.eval x).cells.size=ti.size:=by rw[ex,h1s];rfl
   have hcl:(a.eval x).cells.toList=[a.eval x]:=by rw[ex];rfl
   unfold Oper.wp;have:(execOp a.eval o).run P w= .ok .skip w':=by
    rw[←hcl]at hrun;simp[execOp,hop,e,Instr.storeAt,Instr.sureAddr,storeVar,sizeOf,typeInfo,hi,hsz,hrun]
   rw[this];exact hF _ _ undef w' H ov hR eX (fun _ _ h=>h) hm2 .un
omit hρ in
theorem s_al{t:TypeId}{sz xK:Nat}{z:List V}(hop:o.op= .alloc t)(ht:vz P t=some (sz,xK,z))
 (h:ev (fun _ _ _=>False) (fun _ _ _=>False) ρ ob id R (.al t z)):o.wp P a w K Q:=by
 obtain⟨i,v,hi,hz,hs,hb,rfl,hvs,hpos,hall⟩:=lY ht
 simp only[ev]at h
 have hBl:Below w.heap.size w (w.alloc (.cells v.cells t)):=(Below.refl _ _).alloc (Nat.le_refl _) _
 have hra:aA (w.alloc (.cells v.cells t)) H v.cells.toList (v.cells.toList.map cS):=vI _
 have hor:∀dh,dM (w.alloc (.cells v.cells t)) H (Ow w0 H0) dh (.pointer (some ⟨w.heap.size,0,none⟩)) {e:=t,sz:=(v.cells.toList.map cS).length,cs:=v.cells.toList.map cS,mu:=true,iy:=true}:=fun dh=>
  ⟨fun x hx=> .inl (dY hall x hx),fun b hb=>by cases hb;exact .inl hm.bel.size,fun b hb=>⟨fun h=>by cases hb;exact absurd (hm.pV _ h) (Nat.lt_irrefl _),fun h=>by cases h⟩,.inl ⟨rfl,.inl ⟨w.heap.size,v.cells,rfl,Nat.zero_le _,heap_alloc_new w _,hra.cs⟩⟩⟩
 obtain⟨eX,hm'⟩:=hm.add hid hob hBl hor (fun b hb=>by cases hb;exact Nat.le_refl _)
 unfold Oper.wp
 have:(execOp a.eval o).run P w= .ok (.value (.pointer (some ⟨w.heap.size,0,none⟩))) (w.alloc (.cells v.cells t)):=by
  simp[execOp,hop,Instr.alloc,zeroValue,typeInfo,hi,hz,newVar,newRow]
 rw[this]
 exact hF _ _ _ _ H _ h eX dR hm' (.pt id 0 w.heap.size _ (di _ _) rfl)
omit hm hρ hF hid hob in
theorem wW{fs:Array Field}:∀{ps:List (Nat×Operand)} {qs:List (Nat×Nat×X)},vC P fs ps=some qs→
 ps.length=qs.length∧∀(j:Nat) (p:Nat×Operand) (q:Nat×Nat×X),ps[j]? =some p→qs[j]? =some q→cX p.2=some q.2.2∧∃f ti,fs[p.1]? =some f∧P.info? f.type=some ti∧q.1=f.offset∧q.2.1=ti.size
 |[],qs,h=>by simp[vC]at h;subst h;exact⟨rfl,fun j p q h=>by simp at h⟩
 |(i,x)::r,qs,h=>by
  unfold vC at h;split at h
  ·rename_i x' r' f hx hr hf;split at h
   ·rename_i ti hti;cases h;obtain⟨h1,h2⟩:=wW hr;refine⟨by simp[h1],fun j p q hp hq=>?_⟩;cases j with
    |zero=>simp at hp hq;subst hp;subst hq;exact⟨hx,f,ti,hf,hti,rfl,rfl⟩
    |succ j=>exact h2 j p q (by simpa using hp) (by simpa using hq)
   ·cases h
  ·cases h
omit hm hρ hF hid hob in
theorem FU:∀(us:List Value) (cells:Array Value) (off i:Nat),((us.toArray.zipIdx i).foldl (fun cs (c,j)=>cs.setIfInBounds (off+j) c) cells).toList=setAt cells.toList (off+i) us:=by
 intro us;induction us with
 |nil=>intro cells off i;rfl
 |cons u us ih=>
  intro cells off i;have e:((u::us).toArray.zipIdx i)=#[(u,i)]++us.toArray.zipIdx (i+1):=by
   apply Array.ext';simp[List.zipIdx_cons]
  rw[e,Array.foldl_append];simp only[List.foldl_toArray',List.foldl_cons,List.foldl_nil];have:=ih (cells.setIfInBounds (off+i) u) off (i+1);simp only[]at this;rw[this];simp[setAt,Nat.add_assoc]
omit hm hρ hF hid hob in
theorem DD{α β:Type}(f:α→Option β):∀(l:List α) (r:List β),l.mapM f=some r→∀(k:Nat) (x:α),l[k]? =some x→∃y,f x=some y∧r[k]? =some y
 |[],r,h,k,x,hx=>by simp at hx
 |z::l,r,h,k,x,hx=>by
  simp only[List.mapM_cons,Option.bind_eq_bind,Option.pure_def,Option.bind_eq_some_iff]at h;obtain⟨y,hy,ys,hys,e⟩:=h;cases e;cases k with
  |zero=>simp at hx;subst hx;exact⟨y,hy,rfl⟩
  |succ k=>simpa using DD f l ys hys k x (by simpa using hx)
omit hm hρ hF hid hob in
theorem yF(place:Nat→Option (Nat×Nat)):∀(ps:List (Nat×Value)) (qs:List (Nat×List V)) (cells:Array Value) (cs:List V),ps.length=qs.length→
 (∀(j:Nat) (p:Nat×Value) (q:Nat×List V),ps[j]? =some p→qs[j]? =some q→∃sz,place p.1=some (q.1,sz)∧q.2.length=sz∧aA w H p.2.cells.toList q.2)→aA w H cells.toList cs→fitAll cs.length qs=true→
 ∃out,Instr.fill place cells ps=some out∧aA w H out.toList (iZ cs qs)
 |[],[],cells,cs,_,_,h,_=>⟨cells,rfl,h⟩
 |[],_::_,_,_,h,_,_,_=>by simp at h
 |_::_,[],_,_,h,_,_,_=>by simp at h
 |(i,v)::ps,(off,vs)::qs,cells,cs,hl,hp,hc,hf=>by
  obtain⟨sz,h1,h2,h3⟩:=hp 0 _ _ rfl rfl;simp only[fitAll,Bool.and_eq_true,decide_eq_true_eq]at hf;have hsz:v.cells.size=sz:=by have:=h3.1;simp only[Array.length_toList]at this;simp at h2;omega
  have hcl:cells.size=cs.length:=by have:=hc.1;simpa using this
  have hfit:¬(off+v.cells.size>cells.size):=by simp at h2;omega
  have e:=FU v.cells.toList cells off 0;simp only[Array.toArray_toList,Nat.add_zero]at e;have hstep:aA w H (v.cells.zipIdx.foldl (fun cs (c,j)=>cs.setIfInBounds (off+j) c) cells).toList (setAt cs off vs):=by
   rw[e];exact vH _ _ _ _ _ h3 hc
  obtain⟨out,ho,hr⟩:=yF place ps qs _ _ (by simpa using hl) (fun j p q h4 h5=>hp (j+1) p q (by simpa using h4) (by simpa using h5)) hstep (by rw[ig];exact hf.2);refine⟨out,?_,hr⟩;simp only[]at h1;rw[Instr.fill,h1];simp only[hsz,ne_eq,not_true_eq_false,decide_false,Bool.false_or,decide_eq_true_eq];rw[if_neg om];exact ho
omit hm hρ hF hid hob in
theorem uw{vs:List V}(h:iJ ob vs):∀v,v∈vs→okR ob v:=by
 induction vs with
 |nil=>intro v hv;cases hv
 |cons x r ih=>intro v hv;exact(List.mem_cons.1 hv).elim (fun e=>e▸h.1) (fun hv=>ih h.2 v hv)
omit hm hρ hF hid hob in
theorem qA{n:Nat}{qs:List (Nat×List V)}(h:fitAll n qs=true):∀q,q∈qs→q.2.all V.cell=true:=by
 induction qs with
 |nil=>intro q hq;cases hq
 |cons p r ih=>
  obtain⟨k,vs⟩:=p;simp only[fitAll,Bool.and_eq_true]at h;intro q hq;rcases List.mem_cons.1 hq with rfl|hq
  ·exact h.1.2
  ·exact ih h.2 q hq
omit hid hob in
theorem s_bld{t:TypeId}{ps:Array (Nat×Operand)}{qs:List (Nat×Nat×X)}{fs:Array Field}{sz xK:Nat}{z:List V}(hop:o.op= .build t ps)(ht:P.underlying t=some (.struct fs))(hty:vz P t=some (sz,xK,z))
 (hfs:(fs.toList.mapM (fun f=>(P.info? f.type).map fun i=>(f.offset,i.size))).isSome=true) (hq:vC P fs ps.toList=some qs)
 (h:ev (fun _ _ _=>False) (fun _ _ _=>False) ρ ob id R (.sO z qs)):o.wp P a w K Q:=by
 obtain⟨i,v,hi,hz,hs,hb,rfl,hvs,hpos,hall⟩:=lY hty
 simp only[ev]at h
 obtain⟨⟨hok,hfit,hsz⟩,hR⟩:=h
 obtain⟨hl,qB⟩:=wW hq
 obtain⟨H1,eX,hm1,hfr,_⟩:=hm.freeze (h_ (ob:=ob) qs (fun p=>ρ p.2.2))
 obtain⟨places,hpl⟩:=Option.isSome_iff_exists.1 hfs
 have Yi:∀(k:Nat) (f:Field) (ti:TypeInfo),fs[k]? =some f→P.info? f.type=some ti→places[k]? =some (f.offset,ti.size):=fun k f ti h1 h2=>by
  rw[show fs[k]? =fs.toList[k]? from(Array.getElem?_toList).symm]at h1;obtain⟨y,hy,hk⟩:=DD _ _ _ hpl k f h1;simp only[h2,Option.map_some,Option.some.injEq]at hy;rw[hk,←hy]
 have key:=yF (w:=w) (H:=H1) (fun k=>places.toArray[k]?) (ps.toList.map fun p=>(p.1,a.eval p.2)) (qs.map fun p=>(p.1,(rd ob 1 (ρ p.2.2)).cells)) v.cells (v.cells.toList.map cS) (by simpa using hl)
  (fun j p q hp hq'=>by
    simp only[List.getElem?_map,Option.map_eq_some_iff]at hp hq';obtain⟨p0,hp0,rfl⟩:=hp;obtain⟨q0,hq0,rfl⟩:=hq';obtain⟨hx,f,ti,hf,hti,e1,e2⟩:=qB j p0 q0 hp0 hq0;have hmem:q0∈qs:=List.mem_of_getElem? hq0;have hcell:=qA hfit (q0.1,(rd ob 1 (ρ q0.2.2)).cells) (List.mem_map.2 ⟨q0,hmem,rfl⟩);have hlen:=List.all_eq_true.1 hsz q0 hmem;simp only[beq_iff_eq]at hlen;have hrd:=jJ hm (sz:=1) dc (hρ _ _ hx) (uw hok _ (List.mem_map.2 ⟨q0,hmem,rfl⟩)) (nD hcell) eX.hH (fun k y u b h1 h2 h3=>hfr k y u b (List.mem_flatMap.2 ⟨q0,hmem,h1⟩) h2 h3);refine⟨ti.size,?_,by rw[hlen,e2],rJ hrd hcell⟩;have:=Yi p0.1 f ti hf hti;simp only[e1];simpa using this) (vI _) (by simpa using hfit)
 obtain⟨out,Nz,hrep⟩:=key
 have Yj:P.built t (ps.map fun(i,x)=>(i,a.eval x)).toList=some out:=by
  unfold Program.built;simp only[hi,ht,hz,hpl];simpa using Nz
 unfold Oper.wp
 have:(execOp a.eval o).run P w= .ok (.value (.agg out)) w:=by
  simp[execOp,hop,run_build w t _ out Yj]
 rw[this]
 have hg:aO w H1 (.agg out) (.g (iZ (v.cells.toList.map cS) (qs.map fun p=>(p.1,(rd ob 1 (ρ p.2.2)).cells)))):=by
  have:=aO.g (w:=w) (H:=H1) out.toList _ hrep.1 hrep.2;simpa using this
 exact hF _ _ _ w H1 ov hR eX (fun _ _ h=>h) hm1 (.up hg)
omit hm hρ hF hid hob in
theorem uy:∀{ps:List (Nat×Operand)} {qs:List (Nat×X)},rH ps=some qs→
 ps.length=qs.length∧∀(j:Nat) (p:Nat×Operand) (q:Nat×X),ps[j]? =some p→qs[j]? =some q→cX p.2=some q.2∧p.1=q.1
 |[],qs,h=>by simp[rH]at h;subst h;exact⟨rfl,fun j p q h=>by simp at h⟩
 |(i,x)::r,qs,h=>by
  unfold rH at h;split at h
  ·rename_i x' r' hx hr;cases h;obtain⟨h1,h2⟩:=uy hr;refine⟨by simp[h1],fun j p q hp hq=>?_⟩;cases j with
   |zero=>simp at hp hq;subst hp;subst hq;exact⟨hx,rfl⟩
   |succ j=>exact h2 j p q (by simpa using hp) (by simpa using hq)
  ·cases h
omit hm hρ hF hid hob in
theorem DF{α:Type}(z:List α)(hz:0<z.length):∀(n i:Nat),i<n*z.length→((List.replicate n z).flatten)[i]? =z[i%z.length]?
 |0,i,h=>by simp at h
 |n+1,i,h=>by
  rw[List.replicate_succ,List.flatten_cons];by_cases hi:i<z.length
  ·rw[List.getElem?_append_left hi,Nat.mod_eq_of_lt hi]
  ·rw[List.getElem?_append_right om,DF z hz n (i-z.length) (by rw[Nat.add_mul,Nat.one_mul]at h;omega)];congr 1;conv=>rhs;rw[show i=i-z.length+z.length from om,Nat.add_mod_right]
omit hm hρ hF hid hob in
theorem DI{α:Type}(z:List α)(n:Nat):((List.replicate n z).flatten).length=n*z.length:=by simp[List.length_flatten,List.map_replicate,List.sum_replicate_nat]
omit hm hρ hF hid hob in
theorem DJ(z:Array Value)(hz:0<z.size)(n:Nat):aA w H (madeCells z (n*z.size)).toList ((List.replicate n (z.toList.map cS)).flatten):=by
 refine⟨by simp[size_madeCells,DI],fun j v x h1 h2=>?_⟩;have hj:j<n*z.size:=by
  have:=(List.getElem?_eq_some_iff.1 h1).1;simpa[size_madeCells]using this
 rw[DF _ (by simpa using hz) n j (by simpa using hj)]at h2;simp only[List.length_map,Array.length_toList,List.getElem?_map]at h2;have hm':j%z.size<z.size:=Nat.mod_lt _ hz;simp only[madeCells]at h1;rw[Array.getElem?_toList,Array.getElem?_map,Array.getElem?_range]at h1;simp only[hj,if_true,Option.map_some,Option.some.injEq]at h1;rw[getElem!_pos z _ hm']at h1;rw[Array.getElem?_toList,Array.getElem?_eq_getElem hm']at h2;simp only[Option.map_some,Option.some.injEq]at h2;subst h1;subst h2;exact FT _
theorem s_mk{t e:TypeId}{l c:Operand}{l' c':X}{sz xK:Nat}{z:List V}(hop:o.op= .makeSlice t l c)(ht:P.underlying t=some (.slice e))(hty:vz P e=some (sz,xK,z))(hl:cX l=some l')(hc:cX c=some c')
 (h:ev (fun _ _ _=>False) (fun _ _ _=>False) ρ ob id R (.mk e sz xK z l' c')):o.wp P a w K Q:=by
 obtain⟨i,v,hi,hz,hs,hb,rfl,hvs,hpos,hall⟩:=lY hty
 have h1:=hρ l l' hl
 have h2:=hρ c c' hc
 simp only[ev]at h
 cases hv:ρ l'<;>rw[hv]at h h1<;>(try simp only[]at h)
 case i k n=>
  cases hu:ρ c'<;>rw[hu]at h h2<;>(try simp only[]at h);case i k' m=>
   obtain⟨⟨h0,hnm,hbytes,hbig⟩,hR⟩:=h;have T_:(i.bytes:Int)*m≤281474976710656:=by rw[hb,Int.mul_comm];exact hbytes
   have hr:=run_make (P:=P) w t e i v ht hi hz k k' n m h0 hnm T_ om;rw[hs]at hr;have hBl:Below w.heap.size w (w.alloc (.cells (madeCells v.cells (m.toNat*sz)) e)):=(Below.refl _ _).alloc (Nat.le_refl _) _;have hmx:m.toNat≤maxLen:=by unfold maxLen;omega
   have JQ:n.toNat≤m.toNat:=om;have hown:(w.alloc (.cells (madeCells v.cells (m.toNat*sz)) e)).ownsRow 0 e sz (.slice (some ⟨w.heap.size,0,none⟩) n.toNat m.toNat) n.toNat ((madeCells v.cells (m.toNat*sz)).toList.take (n.toNat*sz)):=by
    refine⟨?_,.inr ⟨w.heap.size,m.toNat,_,rfl,Nat.zero_le _,heap_alloc_new w _,JQ,hmx,size_madeCells _ _,rfl⟩⟩;rw[List.length_take,Array.length_toList,size_madeCells];exact Nat.min_eq_left (Nat.mul_le_mul_right _ JQ)
   have hra:aA (w.alloc (.cells (madeCells v.cells (m.toNat*sz)) e)) H ((madeCells v.cells (m.toNat*sz)).toList.take (n.toNat*sz)) ((List.replicate n.toNat (v.cells.toList.map cS)).flatten):=by
    have hfull:=DJ (w:=w.alloc (.cells (madeCells v.cells (m.toNat*sz)) e)) (H:=H) v.cells om n.toNat;rw[hvs]at hfull;have e1:(madeCells v.cells (m.toNat*sz)).toList.take (n.toNat*sz)=(madeCells v.cells (n.toNat*sz)).toList:=by
     apply List.ext_getElem?;intro j;have hmul:=Nat.mul_le_mul_right sz JQ;by_cases hj:j<n.toNat*sz
     ·rw[List.getElem?_take,if_pos hj];simp[madeCells,hj,show j<m.toNat*sz by omega]
     ·rw[List.getElem?_take,if_neg hj,List.getElem?_eq_none (by simp[size_madeCells];omega)]
    rw[e1];exact hfull
   have hcl:∀x,x∈(List.replicate n.toNat (v.cells.toList.map cS)).flatten→x.cell=true:=fun x hx=>by
    obtain⟨l,hl,hx⟩:=List.mem_flatten.1 hx;rw[List.eq_of_mem_replicate hl]at hx;exact dY hall x hx
   have hor:=dM.row (O:=Ow w0 H0) hown hpos hra hcl om (fun b hb h=>by cases hb;exact absurd (hm.pV _ h) (Nat.lt_irrefl _)) (fun b hb=>by cases hb;exact .inl hm.bel.size);obtain⟨eX,hm'⟩:=hm.add hid hob hBl hor (fun b hb=>by cases hb;exact Nat.le_refl _);unfold Oper.wp;have:(execOp a.eval o).run P w= .ok (.value (.slice (some ⟨w.heap.size,0,none⟩) n.toNat m.toNat)) (w.alloc (.cells (madeCells v.cells (m.toNat*sz)) e)):=by
    simp[execOp,hop,h1.bT,h2.bT,hr]
   rw[this];exact hF _ _ _ _ H _ hR eX dR hm' (jL hown om (di _ _))
theorem s_bsl{t e:TypeId}{n:Nat}{ps:Array (Nat×Operand)}{qs:List (Nat×X)}{sz xK:Nat}{z:List V}(hop:o.op= .buildSlice t n ps)(ht:P.underlying t=some (.slice e))(hty:vz P e=some (sz,xK,z))(hq:rH ps.toList=some qs)(hn:n*sz≤65536)
 (h:ev (fun _ _ _=>False) (fun _ _ _=>False) ρ ob id R (.nz e sz n ((List.replicate n z).flatten) qs)):o.wp P a w K Q:=by
 obtain⟨i,v,hi,hz,hs,hb,rfl,hvs,hpos,hall⟩:=lY hty
 simp only[ev]at h
 obtain⟨⟨hok,hfit,hsz⟩,hR⟩:=h
 obtain⟨hl,qB⟩:=uy hq
 obtain⟨H1,eX,hm1,hfr,hfr'⟩:=hm.freeze (h_ (ob:=ob) qs (fun p=>ρ p.2))
 have hmade:aA w H1 (madeCells v.cells (n*sz)).toList ((List.replicate n (v.cells.toList.map cS)).flatten):=by
  have:=DJ (w:=w) (H:=H1) v.cells om n;rw[hvs]at this;exact this
 have key:=yF (w:=w) (H:=H1) (fun k=>some (k*sz,sz)) (ps.toList.map fun p=>(p.1,a.eval p.2)) (qs.map fun p=>(p.1*sz,(rd ob 1 (ρ p.2)).cells)) (madeCells v.cells (n*sz)) _ (by simpa using hl)
  (fun j p q hp hq'=>by
    simp only[List.getElem?_map,Option.map_eq_some_iff]at hp hq';obtain⟨p0,hp0,rfl⟩:=hp;obtain⟨q0,hq0,rfl⟩:=hq';obtain⟨hx,e1⟩:=qB j p0 q0 hp0 hq0;have hmem:q0∈qs:=List.mem_of_getElem? hq0;have hcell:=qA hfit (q0.1*sz,(rd ob 1 (ρ q0.2)).cells) (List.mem_map.2 ⟨q0,hmem,rfl⟩);have hlen:=List.all_eq_true.1 hsz q0 hmem;simp only[beq_iff_eq]at hlen;have hrd:=jJ hm (sz:=1) dc (hρ _ _ hx) (uw hok _ (List.mem_map.2 ⟨q0,hmem,rfl⟩)) (nD hcell) eX.hH (fun k y u b h1 h2 h3=>hfr k y u b (List.mem_flatMap.2 ⟨q0,hmem,h1⟩) h2 h3);exact⟨sz,by simp[e1],hlen,rJ hrd hcell⟩) hmade hfit
 obtain⟨out,Nz,hrep⟩:=key
 have hlen:out.size=n*sz:=by
  have h1:=hrep.1;have h2:∀(qs:List (Nat×List V)) (cs:List V),(iZ cs qs).length=cs.length:=fun qs=>by
   induction qs with
   |nil=>intro cs;rfl
   |cons p r ih=>intro cs;obtain⟨k,vs⟩:=p;rw[iZ,ih,ig]
  rw[h2,DI]at h1;simp only[Array.length_toList,List.length_map]at h1;rw[h1,hvs]
 have hcl:∀x,x∈iZ ((List.replicate n (v.cells.toList.map cS)).flatten) (qs.map fun p=>(p.1*sz,(rd ob 1 (ρ p.2)).cells))→x.cell=true:=by
  have gen:∀(qs:List (Nat×List V)) (cs:List V),(∀x,x∈cs→x.cell=true)→(∀q,q∈qs→q.2.all V.cell=true)→∀x,x∈iZ cs qs→x.cell=true:=fun qs=>by
   induction qs with
   |nil=>intro cs h _ x hx;exact h x hx
   |cons p r ih=>
    intro cs h h' x hx;obtain⟨k,vs⟩:=p;exact ih _ (nU _ vs cs k h (dY (h' _ List.mem_cons_self))) (fun q hq=>h' q (List.mem_cons_of_mem _ hq)) x hx
  refine gen _ _ (fun x hx=>?_) (qA hfit);obtain⟨l,hl,hx⟩:=List.mem_flatten.1 hx;rw[List.eq_of_mem_replicate hl]at hx;exact dY hall x hx
 have hBl:Below w.heap.size w (w.alloc (.cells out e)):=(Below.refl _ _).alloc (Nat.le_refl _) _
 have hnm:n≤maxLen:=by
  have:n≤n*sz:=Nat.le_mul_of_pos_right n hpos;unfold maxLen;omega
 have hown:=World.ownsRow_lit (base:=0) (e:=e) (size:=sz) w out n (Nat.zero_le _) hnm hlen
 have hra:aA (w.alloc (.cells out e)) H1 out.toList _:=hrep.mono (fun _ h=>h) (fun b hb=>hBl.block b (hm1.pV b hb))
 have hor:=dM.row (O:=Ow w0 H0) hown hpos hra hcl hnm (fun b hb h=>by cases hb;exact absurd (hm1.pV _ h) (Nat.lt_irrefl _)) (fun b hb=>by cases hb;exact .inl hm.bel.size)
 have Ua:upd ob (qs.flatMap fun p=>dU ob (ρ p.2)) id=none:=by
  rcases jB (ob:=ob) (qs.flatMap fun p=>dU ob (ρ p.2)) id with ⟨e1,_⟩|h'
  ·rw[e1];exact hob
  ·obtain⟨o',h1,_⟩:=h_ (ob:=ob) qs (fun p=>ρ p.2) _ _ h';rw[hob]at h1;cases h1
 obtain⟨qw,hm'⟩:=hm1.add hid Ua hBl hor (fun b hb=>by cases hb;exact Nat.le_refl _)
 rw[jK]at hm'
 unfold Oper.wp
 have:(execOp a.eval o).run P w= .ok (.value (.slice (some ⟨w.heap.size,0,none⟩) n n)) (w.alloc (.cells out e)):=by
  have hn2:¬(2^24<n*sz):=om;have hf2:Instr.fill (fun i=>some (i*sz,sz)) (madeCells v.cells (n*sz)) (ps.toList.map fun p=>(p.1,a.eval p.2))=some out:=Nz;by_cases h0:n*sz=0
  ·have e0:madeCells v.cells (n*sz)=#[]:=by rw[h0];simp[madeCells,Array.range_zero']
   rw[e0]at hf2;simp[execOp,hop,Instr.buildSlice,run_underlying ht,sizeOf,typeInfo,hi,hs,newRow,hf2,h0,Array.range_zero']
  ·simp only[madeCells]at hf2;simp[execOp,hop,Instr.buildSlice,run_underlying ht,sizeOf,typeInfo,hi,hs,newRow,zeroValue,hz,h0,hn2,hf2]
 rw[this]
 exact hF _ _ _ _ H1 _ hR (eX.trans qw) dR hm' (jL hown hnm (di _ _))
theorem s_bx{e:TypeId}{x:Operand}{x':X}(hop:o.op= .box e x)(hx:cX x=some x')
 (h:ev (fun _ _ _=>False) (fun _ _ _=>False) ρ ob id R (.bx e x')):o.wp P a w K Q:=by
 have h2:=hρ x x' hx
 obtain⟨⟨hok,hall⟩,hR⟩:=h
 obtain⟨H1,eX,hm1,hfr,_⟩:=hm.freeze (dX (ob:=ob) (ρ x'))
 have hrd:=jJ hm (sz:=1) dc h2 hok (nD hall) eX.hH hfr
 have hcells:=rJ hrd hall
 have Ua:upd ob (dU ob (ρ x')) id=none:=by
  rcases jB (ob:=ob) (dU ob (ρ x')) id with ⟨e1,_⟩|h'
  ·rw[e1];exact hob
  ·obtain⟨o',h1,_⟩:=dX (ob:=ob) (ρ x') _ _ h';rw[hob]at h1;cases h1
 have hBl:Below w.heap.size w (w.alloc (.cells (a.eval x).cells e)):=(Below.refl _ _).alloc (Nat.le_refl _) _
 have hra:aA (w.alloc (.cells (a.eval x).cells e)) H1 (a.eval x).cells.toList _:=hcells.mono (fun _ h=>h) (fun b hb=>hBl.block b (hm1.pV b hb))
 have hor:∀dh,dM (w.alloc (.cells (a.eval x).cells e)) H1 (Ow w0 H0) dh (.pointer (some ⟨w.heap.size,0,none⟩)) {e:=e,sz:=(rd ob 1 (ρ x')).cells.length,cs:=(rd ob 1 (ρ x')).cells,mu:=true,iy:=true}:=fun dh=>
  ⟨fun x hx=> .inl (dY hall x hx),fun b hb=>by cases hb;exact .inl hm.bel.size,fun b hb=>⟨fun h=>by cases hb;exact absurd (hm1.pV _ h) (Nat.lt_irrefl _),fun h=>by cases h⟩,.inl ⟨rfl,.inl ⟨w.heap.size,(a.eval x).cells,rfl,Nat.zero_le _,heap_alloc_new w _,hra.cs⟩⟩⟩
 obtain⟨qw,hm'⟩:=hm1.add hid Ua hBl hor (fun b hb=>by cases hb;exact Nat.le_refl _)
 rw[jK]at hm'
 unfold Oper.wp
 have:(execOp a.eval o).run P w= .ok (.value (.pointer (some ⟨w.heap.size,0,none⟩))) (w.alloc (.cells (a.eval x).cells e)):=by
  simp[execOp,hop,Instr.box,newVar,newRow]
 rw[this]
 exact hF _ _ _ _ H1 _ hR (eX.trans qw) dR hm' (.pt id 0 w.heap.size _ (di _ _) rfl)
end ops
