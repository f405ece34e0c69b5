import Derived.Test.YtoehbmlfnjlchaaGreatDoorU15
import Derived.Test.YtoehbmlfnjlchaaGreatDoorRc
import Derived.Test.YtoehbmlfnjlchaaGreatDoorGI
import Derived.Test.YtoehbmlfnjlchaaGreatDoorGH
set_option linter.all false
set_option maxHeartbeats 10000000
namespace Go.Proofs.YtoehbmlfnjlchaaGreatDoor
section
open Go Go.RowKit Ab
def oP:=an @Bool.false_and (an @wi (an @bI (an @Nat.div_one (an @Nat.mul_one (an @aU (an @gU (an @gQ (an @fK (an @dD @xA)))))))))
def zI(s:Bool)(n:Nat):Int:=if s then -(n:Int)else(n:Int)
abbrev zL(s:Bool)(a:List Nat):V:= .g [.b s,.l 1 (W a)]
abbrev zN(z:Int):V:= .g [.b (decide (z<0)),.l 1 (W (dg B z.natAbs))]
def zv(s:Bool)(a:List Nat):Int:=zI s (nv B a)
theorem tY(s:Bool)(n:Nat):(zI s n).natAbs=n:=by unfold zI;split<;>omega
theorem mY(s:Bool)(a:List Nat):(zv s a).natAbs=nv B a:=tY s _
theorem zM(s:Bool)(n:Nat):decide (zI s n<0)=(s&&decide (0<n)):=by
 unfold zI;cases s
 ·simp
 ·simp
theorem zN_I(s:Bool)(n:Nat):zN (zI s n)= .g [.b (s&&decide (0<n)),.l 1 (W (dg B n))]:=by
 show V.g [.b (decide (zI s n<0)),.l 1 (W (dg B (zI s n).natAbs))]=_;rw[tY,zM]
theorem kW(z:Int):zv (decide (z<0)) (dg B z.natAbs)=z:=by
 unfold zv zI;rw[dE];by_cases h:z<0
 ·simp[h];omega
 ·simp[h];omega
theorem kK(z:Int):zI (decide (z<0)) z.natAbs=z:=by
 unfold zI;by_cases h:z<0
 ·simp[h];omega
 ·simp[h];omega
theorem qV{n:Nat}:((0:Int)<(((dg B n).length:Nat):Int))=(0<n):=by
 have h:=tJ (b:=B) B2 (v:=n);refine propext ⟨fun h1=>?_,fun h1=>?_⟩
 ·rcases Nat.eq_zero_or_pos n with h2|h2
  ·rw[h.2 h2]at h1;simp at h1
  ·exact h2
 ·rcases Nat.eq_zero_or_pos (dg B n).length with h2|h2
  ·have:=h.1 (List.eq_nil_of_length_eq_zero h2);omega
  ·omega
theorem V7{z:Int}{m:Nat}(h:z.natAbs<B^m):(dg B z.natAbs).length≤m:=dS h
def jy(z:Int):Int:=if z<0 then-1 else if 0<z then 1 else 0
def a40:AC:= .seq (.reg [qr 4 (.al 25 [(.b false),(.l 1 [])])]) (.seq (.reg [qm 5 0,qm 6 5,⟨some 7,some (6,true),.mv (.t 1)⟩,⟨some 8,some (6,true),.len (.t 7)⟩,⟨some 9,some (6,true),.bin .gtr (.t 8) (.k (.i .i64 0))⟩,qr 10 (.pick (.t 6) (.t 9) (.k (.b false))),qm 11 1,qr 12 (.sO [(.b false),(.l 1 [])] [(0,1,(.t 10)),(1,1,(.t 11))]),qn (.st 2 (.t 4) (.t 12))]) (.ret))
theorem EN(s:Bool)(n:Nat):aF Tryz.prog J0 40 [.b s,.l 1 (W (dg B n))] (zN (zI s n)):=by
 rw[zN_I];refine jO dB eY Tryz.func40 a40 [.c 4 true 2] ?_;unfold a40;simp only[ak,aH,qm,qr,qn];cases s
 ·refine aP (ai @aW @oP) ?_;exact rcQ (ai @aW @oP)
 ·by_cases h:0<n
  ·have e:decide (0<n)=true:=decide_eq_true h;rw[e];refine aP (ai @h (ai @qV (ai @aW @oP))) ?_;exact rcQ (ai @aW @oP)
  ·have e:decide (0<n)=false:=decide_eq_false h;rw[e];refine aP (ai @h (ai @qV (ai @aW @oP))) ?_;exact rcQ (ai @aW @oP)
def a11:AC:= .seq (.reg [qr 1 (.bx 25 (.t 0)),qr 2 (.al 25 [(.b false),(.l 1 [])])]) (.seq (.gp [qr 3 (.dQ 0 (.t 1)),qr 4 (.ld false 1 (.t 3)),qr 5 (.dQ 1 (.t 1)),qr 6 (.ld false 1 (.t 5)),qr 7 (.call 44 [(1,(.t 6))]),qr 8 (.call 40 [(1,(.t 4)),(1,(.t 7))]),qn (.st 2 (.t 2) (.t 8))]) (.ret))
theorem Hz(s:Bool)(a:List Nat)(ha:Wd a)(la:a.length≤1000000000):aF Tryz.prog J0 11 [zL s a] (zN (zv s a)):=by
 have h1:=(jl a ha om).frozen;have h2:=EN s (nv B a);refine jO dB eY Tryz.func11 a11 [.c 2 true 2] ?_;unfold a11;simp only[ak,aH,qm,qr,qn];repeat first|(refine hK _ ?_;clear hK K)|simp only[Sv,↓reduceIte,Nat.reduceEqDiff]|((first|refine aI (fun K hK=>?_)|refine aT (fun K hK=>?_)|refine aK (fun K hK=>?_)|refine oh ?_|refine kC (by assumption) ?_|refine oz ?_|(apply kD;assumption)|(apply kz;assumption));simp(disch:=(first|omega|assumption)) only[S1,↓reduceIte,Nat.reduceEqDiff,Nat.reduceAdd,Nat.reduceMul,Nat.reduceDiv,bY.sb,bY.mut,dH,↓Bool.false_eq_true,beq_self_eq_true,ite_self,Nat.reduceLeDiff,Int.reduceEq,Int.reduceSub,Int.reduceAdd,Int.reduceNeg,Int.reduceLT,Int.reduceLE,Nat.reduceLT,oP,List.length_nil,zv])
 simp(disch:=(first|omega|assumption)) only[uI,kN,jE,wY,wZ,qF,w_,xe,kP,qG,qH,jF,iO,fO,iD,iK,ku,gG,V.aV,and_true,true_and,S1,↓reduceIte,Nat.reduceEqDiff,Nat.reduceAdd,Nat.reduceMul,Nat.reduceDiv,bY.sb,bY.mut,dH,↓Bool.false_eq_true,beq_self_eq_true,ite_self,Nat.reduceLeDiff,Int.reduceEq,Int.reduceSub,Int.reduceAdd,Int.reduceNeg,Int.reduceLT,Int.reduceLE,Nat.reduceLT,oP,List.length_nil,zv]
def a45:AC:= .seq (.reg [qr 2 (.al 25 [(.b false),(.l 1 [])])]) (.seq (.seq (.reg [qm 3 0,qr 4 (.bin .lss (.t 3) (.k (.i .i64 0)))]) (.cond (.t 4) (.seq (.reg [qm 5 0,qr 6 (.Ad .u64 (.t 5)),qr 7 (.un .neg (.t 6)),qr 8 (.call 53 [(1,(.t 7))]),qr 9 (.call 40 [(1,(.k (.b true))),(1,(.t 8))]),qn (.st 2 (.t 2) (.t 9))]) (.ret)) (.skip))) (.seq (.reg [qm 10 0,qr 11 (.Ad .u64 (.t 10)),qr 12 (.call 53 [(1,(.t 11))]),qr 13 (.call 40 [(1,(.k (.b false))),(1,(.t 12))]),qn (.st 2 (.t 2) (.t 13))]) (.ret)))
theorem wJ(n:Int)(h1: -9223372036854775808≤n)(h2:n<9223372036854775808):aF Tryz.prog J0 45 [.i .i64 n] (zN n):=by
 have hof:=(pK n.natAbs om).frozen;have h3:=EN (decide (n<0)) n.natAbs;rw[kK]at h3;by_cases h:n<0
 ·have e1:decide (n<0)=true:=decide_eq_true h;rw[show zN n= .g [.b true,.l 1 (W (dg B n.natAbs))]from by show V.g [.b (decide (n<0)),_]=_;rw[e1]]at h3 ⊢;rw[e1]at h3;refine jO dB eY Tryz.func45 a45 [.c 2 true 2] ?_;unfold a45;simp only[ak,aH,qm,qr,qn];have e2:IntKind.u64.wrap (0-IntKind.u64.wrap n)=(n.natAbs:Int):=by rw[IntKind.wrap_u64,IntKind.wrap_u64];omega
  exact yO (ai @e1 (ai @e2 (ai @h (ai @aW @oP))))
 ·have e1:decide (n<0)=false:=decide_eq_false h;rw[show zN n= .g [.b false,.l 1 (W (dg B n.natAbs))]from by show V.g [.b (decide (n<0)),_]=_;rw[e1]]at h3 ⊢;rw[e1]at h3;refine jO dB eY Tryz.func45 a45 [.c 2 true 2] ?_;unfold a45;simp only[ak,aH,qm,qr,qn];have e2:IntKind.u64.wrap n=(n.natAbs:Int):=by rw[IntKind.wrap_u64];omega
  exact yO (ai @e1 (ai @e2 (ai @h (ai @aW @oP))))
def a46:AC:= .seq (.reg [qr 1 (.bx 25 (.t 0)),qr 2 (.mv (.k (.i .i64 0)))]) (.seq (.seq (.reg [qr 4 (.ld true 2 (.t 1)),qr 5 (.call 11 [(1,(.t 4))]),qr 3 (.al 25 [(.b false),(.l 1 [])]),qn (.st 2 (.t 3) (.t 5))]) (.blk 0 (.seq (.reg [qr 7 (.dQ 0 (.t 3)),qr 8 (.ld false 1 (.t 7)),qm 6 8]) (.cond (.t 6) (.seq (.reg [qr 2 (.mv (.k (.i .i64 (-1))))]) (.ret)) (.seq (.reg [qr 10 (.dQ 1 (.t 3)),qr 11 (.ld false 1 (.t 10)),qr 12 (.len (.t 11)),qr 13 (.bin .gtr (.t 12) (.k (.i .i64 0))),qm 9 13]) (.cond (.t 9) (.seq (.reg [qr 2 (.mv (.k (.i .i64 1)))]) (.ret)) (.skip))))))) (.seq (.reg [qr 2 (.mv (.k (.i .i64 0)))]) (.ret)))
theorem HY(s:Bool)(a:List Nat)(ha:Wd a)(la:a.length≤1000000000):aF Tryz.prog J0 46 [zL s a] (.i .i64 (jy (zv s a))):=by
 have h1:=Hz s a ha la;have hp:=qV (n:=(zv s a).natAbs);generalize zv s a=z at*
 refine ja dB eY Tryz.func46 a46 ?_;unfold a46;simp only[ak,aH,qm,qr,qn];by_cases h:z<0
 ·rw[show jy z= -1 from if_pos h];exact tC (ai @h (ai @aW @oP))
 ·by_cases h0:0<z
  ·have e:0<z.natAbs:=om;rw[show jy z=1 from(if_neg h).trans (if_pos h0)];exact tC (ai @e (ai @hp (ai @h (ai @aW @oP))))
  ·have e:¬0<z.natAbs:=om;rw[show jy z=0 from(if_neg h).trans (if_neg h0)];exact tC (ai @e (ai @hp (ai @h (ai @aW @oP))))
theorem sgz_I(s:Bool)(n:Nat):jy (zI s n)=if n=0 then 0 else if s then-1 else 1:=by
 unfold jy zI;cases s<;>simp only[Bool.false_eq_true,if_false,if_true]<;>(repeat' split)<;>omega
theorem Jw(z:Int): -1≤jy z∧jy z≤1:=by unfold jy;split;decide;split<;>decide
theorem Rk{a b:Int}(h1: -1≤a∧a≤1)(h2: -1≤b∧b≤1):IntKind.i64.wrap (a*b)=a*b:=by
 refine wi ?_;have ha:a= -1∨a=0∨a=1:=om;have hb:b= -1∨b=0∨b=1:=om;rcases ha with rfl|rfl|rfl<;>rcases hb with rfl|rfl|rfl<;>decide
def a10:AC:= .seq (.reg [qr 1 (.bx 25 (.t 0)),qr 2 (.al 25 [(.b false),(.l 1 [])])]) (.seq (.gp [qr 3 (.dQ 0 (.t 1)),qr 4 (.ld false 1 (.t 3)),qr 5 (.un .not (.t 4)),qr 6 (.dQ 1 (.t 1)),qr 7 (.ld false 1 (.t 6)),qr 8 (.call 44 [(1,(.t 7))]),qr 9 (.call 40 [(1,(.t 5)),(1,(.t 8))]),qn (.st 2 (.t 2) (.t 9))]) (.ret))
def a20:AC:= .seq (.reg [qr 1 (.bx 25 (.t 0)),qr 2 (.mv (.k .nl))]) (.seq (.reg [qr 3 (.dQ 1 (.t 1)),qr 4 (.ld false 1 (.t 3)),qr 5 (.call 44 [(1,(.t 4))]),qm 2 5]) (.ret))
theorem V8(s t:Bool)(u v:Nat):(s=t→zI s (u+v)=zI s u+zI t v)∧(s≠t→zI (!(s==decide (u<v))) (if u<v then v-u else u-v)=zI s u+zI t v):=by
 unfold zI;refine⟨fun h=>?_,fun h=>?_⟩
 ·subst h;cases s<;>simp<;>omega
 ·by_cases h2:u<v
  ·cases s<;>cases t<;>simp[h2]at h ⊢ <;>omega
  ·cases s<;>cases t<;>simp[h2]at h ⊢ <;>omega
def a7:AC:= .seq (.reg [qr 2 (.bx 25 (.t 0)),qr 3 (.bx 25 (.t 1)),qr 4 (.al 25 [(.b false),(.l 1 [])])]) (.seq (.seq (.reg [qr 7 (.dQ 0 (.t 2)),qr 8 (.ld false 1 (.t 7)),qr 9 (.dQ 0 (.t 3)),qr 10 (.ld false 1 (.t 9)),qr 11 (.BM false (.t 8) (.t 10))]) (.cond (.t 11) (.seq (.gp [qr 12 (.dQ 0 (.t 2)),qr 13 (.ld false 1 (.t 12)),qr 14 (.dQ 1 (.t 2)),qr 15 (.ld false 1 (.t 14)),qr 16 (.dQ 1 (.t 3)),qr 17 (.ld false 1 (.t 16)),qr 18 (.call 41 [(1,(.t 15)),(1,(.t 17))]),qr 19 (.call 40 [(1,(.t 13)),(1,(.t 18))]),qn (.st 2 (.t 4) (.t 19))]) (.ret)) (.skip))) (.seq (.reg [qr 21 (.dQ 1 (.t 2)),qr 22 (.ld false 1 (.t 21)),qr 23 (.dQ 1 (.t 3)),qr 24 (.ld false 1 (.t 23)),qr 25 (.call 42 [(1,(.t 22)),(1,(.t 24))]),qm 20 25,qr 26 (.ext (.t 20) 0),qr 27 (.ext (.t 20) 1),qm 5 26,qm 6 27]) (.seq (.reg [qr 28 (.dQ 0 (.t 2)),qr 29 (.ld false 1 (.t 28)),qm 30 6,qr 31 (.BM true (.t 29) (.t 30)),qm 32 5,qr 33 (.call 40 [(1,(.t 31)),(1,(.t 32))]),qn (.st 2 (.t 4) (.t 33))]) (.ret))))
def a8:AC:= .seq (.reg [qr 2 (.bx 25 (.t 0)),qr 3 (.bx 25 (.t 1)),qr 4 (.al 25 [(.b false),(.l 1 [])])]) (.seq (.gp [qr 5 (.ld true 2 (.t 2)),qr 6 (.ld true 2 (.t 3)),qr 7 (.call 10 [(1,(.t 6))]),qr 8 (.call 7 [(1,(.t 5)),(1,(.t 7))]),qn (.st 2 (.t 4) (.t 8))]) (.ret))
theorem V9(s t:Bool)(u v:Nat):zI (!(s==t)) (u*v)=zI s u*zI t v:=by
 unfold zI;cases s<;>cases t<;>simp[Int.natCast_mul,Int.neg_mul,Int.mul_neg]
def a9:AC:= .seq (.reg [qr 2 (.bx 25 (.t 0)),qr 3 (.bx 25 (.t 1)),qr 4 (.al 25 [(.b false),(.l 1 [])])]) (.seq (.gp [qr 5 (.dQ 0 (.t 2)),qr 6 (.ld false 1 (.t 5)),qr 7 (.dQ 0 (.t 3)),qr 8 (.ld false 1 (.t 7)),qr 9 (.BM true (.t 6) (.t 8)),qr 10 (.dQ 1 (.t 2)),qr 11 (.ld false 1 (.t 10)),qr 12 (.dQ 1 (.t 3)),qr 13 (.ld false 1 (.t 12)),qr 14 (.call 43 [(1,(.t 11)),(1,(.t 13))]),qr 15 (.call 40 [(1,(.t 9)),(1,(.t 14))]),qn (.st 2 (.t 4) (.t 15))]) (.ret))
end
section
open Go Go.RowKit Ab
def ZC:List (Bool×List Nat)→List V
 |[]=>[]
 |p::r=> .b p.1:: .l 1 (W p.2)::ZC r
theorem H7:∀l,(ZC l).length=l.length*2
 |[]=>rfl
 |p::r=>by simp only[ZC,List.length_cons,H7 r];omega
theorem Rl:∀(l:List (Bool×List Nat)) (i:Nat),i<l.length→((ZC l).drop (i*2)).take 2=[.b (l.getD i (false,[])).1,.l 1 (W (l.getD i (false,[])).2)]∧(ZC l).getD (i*2+1) .un= .l 1 (W (l.getD i (false,[])).2)
 |[],i,h=>by simp at h
 |p::r,0,h=>⟨rfl,rfl⟩
 |p::r,i+1,h=>by
  have:=Rl r i (by simpa using h);rw[show(i+1)*2=(i*2+1)+1 from om];exact this
def nfp(c:Int):Bool×List Nat:=(decide (c<0),dg B c.natAbs)
end
section
open Go Go.ChangeShapes Go.WideShapes Go.ChangeAt Go.RowKit Ab
abbrev QZ:List V→Nat→Prop:=QSt2 Qx QNat
theorem Rn{H:Type}{enc:TypeId×Value→H}{w:World}:qO enc Tryz.prog w 4 Qx:=Ho Tryz.underlying4
theorem Iw{H:Type}{enc:TypeId×Value→H}{w:World}:qO enc Tryz.prog w 25 QZ:=
 Ag (s1:=1) (s2:=1) Tryz.underlying25 rfl rfl (by kernel_rfl) (by kernel_rfl) (by kernel_rfl) Rn LM
theorem QZ_L{xs:List V}{n:Nat}(h:QZ xs n):∃(s:Bool) (a:List Nat),V.g xs=zL s a∧Wd a∧a.length≤n:=by
 obtain⟨x1,x2,n1,n2,rfl,⟨s,rfl,rfl⟩,h2,hn⟩:=h;obtain⟨a,rfl,wa,la⟩:=QNat_W h2;exact⟨s,a,rfl,wa,om⟩
end
section
open Go Go.RowKit Ab
theorem Ro:zN 0= .g [.b false,.l 1 []]:=rfl
theorem Jy(s t:Bool)(u v:Nat):zI (!(s==t)) (u/v)=(zI s u).tdiv (zI t v):=by
 unfold zI;cases s<;>cases t<;>simp[Int.neg_tdiv,Int.tdiv_neg]<;>rfl
theorem Jz(s t:Bool)(u v:Nat):zI s (u%v)=(zI s u).tmod (zI t v):=by
 unfold zI;cases s<;>cases t<;>simp[Int.neg_tmod,Int.tmod_neg]<;>rfl
theorem zv_z{s:Bool}{a:List Nat}:zv s a=0↔nv B a=0:=by unfold zv zI;cases s<;>simp
def zq(x y:Int):Int:=x.tdiv y
def zr(x y:Int):Int:=if y=0 then 0 else x.tmod y
def ze(y:Int):Int:=if y=0 then 1 else 0
theorem V_(x:Int):zr x 0=0:=if_pos rfl
theorem We(x:Int):zq x 0=0:=Int.tdiv_zero x
theorem EO{x y:Int}(h:y≠0):zr x y=x.tmod y:=if_neg h
theorem EP{y:Int}(h:y≠0):ze y=0:=if_neg h
def a14:AC:= .seq (.reg [qr 2 (.bx 25 (.t 0)),qr 3 (.bx 25 (.t 1)),qr 4 (.al 25 [(.b false),(.l 1 [])]),qr 5 (.al 25 [(.b false),(.l 1 [])]),qr 6 (.mv (.k (.i .i64 0)))]) (.seq (.reg [qr 11 (.dQ 1 (.t 2)),qr 12 (.ld false 1 (.t 11)),qr 13 (.dQ 1 (.t 3)),qr 14 (.ld false 1 (.t 13)),qr 15 (.call 47 [(1,(.t 12)),(1,(.t 14))]),qm 10 15,qr 16 (.ext (.t 10) 0),qr 17 (.ext (.t 10) 1),qr 18 (.ext (.t 10) 2),qm 7 16,qm 8 17,qm 9 18]) (.seq (.seq (.reg [qm 19 9,qr 20 (.bin .neq (.t 19) (.k (.i .i64 0)))]) (.cond (.t 20) (.seq (.reg [qr 21 (.sO [(.b false),(.l 1 [])] []),qr 22 (.sO [(.b false),(.l 1 [])] []),qm 23 9,qn (.st 2 (.t 4) (.t 21)),qn (.st 2 (.t 5) (.t 22)),qm 6 23]) (.ret)) (.skip))) (.seq (.gp [qr 24 (.dQ 0 (.t 2)),qr 25 (.ld false 1 (.t 24)),qr 26 (.dQ 0 (.t 3)),qr 27 (.ld false 1 (.t 26)),qr 28 (.BM true (.t 25) (.t 27)),qm 29 7,qr 30 (.call 40 [(1,(.t 28)),(1,(.t 29))]),qr 31 (.dQ 0 (.t 2)),qr 32 (.ld false 1 (.t 31)),qm 33 8,qr 34 (.call 40 [(1,(.t 32)),(1,(.t 33))]),qn (.st 2 (.t 4) (.t 30)),qn (.st 2 (.t 5) (.t 34)),qr 6 (.mv (.k (.i .i64 0)))]) (.ret))))
theorem zO(x y:Int):(zq x y).natAbs≤x.natAbs:=Int.natAbs_tdiv_le_natAbs x y
theorem zQ(x y:Int):(zr x y).natAbs≤x.natAbs:=by
 unfold zr;split
 ·exact Nat.zero_le _
 ·rw[Int.natAbs_tmod];exact Nat.mod_le _ _
theorem qW{s:Bool}{a:List Nat}{m:Nat}(ha:Wd a)(la:a.length≤m):(zv s a).natAbs<B^m:=by rw[mY];exact G8 ha la
theorem Rq{x:Int}{m:Nat}(h:x.natAbs<B^m):x.natAbs<B^(m+1):=pup h (Nat.le_succ m)
theorem H8(m:Nat):(1:Int).natAbs<B^(m+1):=by
 have:=Nat.pow_le_pow_right (by decide:0<B) (Nat.succ_le_succ (Nat.zero_le m));rw[Nat.pow_one]at this;exact Nat.lt_of_lt_of_le dc this
def a15:AC:= .seq (.reg [qr 2 (.bx 25 (.t 0)),qr 3 (.bx 25 (.t 1)),qr 4 (.al 25 [(.b false),(.l 1 [])]),qr 5 (.mv (.k (.i .i64 0)))]) (.seq (.reg [qr 10 (.ld true 2 (.t 2)),qr 11 (.ld true 2 (.t 3)),qr 12 (.call 14 [(1,(.t 10)),(1,(.t 11))]),qm 9 12,qr 13 (.ext (.t 9) 0),qr 14 (.ext (.t 9) 1),qr 15 (.ext (.t 9) 2),qr 6 (.al 25 [(.b false),(.l 1 [])]),qr 7 (.al 25 [(.b false),(.l 1 [])]),qn (.st 2 (.t 6) (.t 13)),qn (.st 2 (.t 7) (.t 14)),qm 8 15]) (.seq (.seq (.reg [qm 16 8,qr 17 (.bin .neq (.t 16) (.k (.i .i64 0)))]) (.cond (.t 17) (.seq (.reg [qr 18 (.sO [(.b false),(.l 1 [])] []),qm 19 8,qn (.st 2 (.t 4) (.t 18)),qm 5 19]) (.ret)) (.skip))) (.seq (.seq (.gp [qr 20 (.ld true 2 (.t 7)),qr 21 (.call 46 [(1,(.t 20))]),qr 22 (.bin .neq (.t 21) (.k (.i .i64 0))),qm 23 22,⟨some 24,some (23,true),.ld true 2 (.t 2)⟩,⟨some 25,some (23,true),.call 46 [(1,(.t 24))]⟩,⟨some 26,some (23,true),.ld true 2 (.t 3)⟩,⟨some 27,some (23,true),.call 46 [(1,(.t 26))]⟩,⟨some 28,some (23,true),.bin .neq (.t 25) (.t 27)⟩,qr 29 (.pick (.t 23) (.t 28) (.k (.b false)))]) (.cond (.t 29) (.gp [qr 30 (.ld true 2 (.t 6)),qr 31 (.call 45 [(1,(.k (.i .i64 1)))]),qr 32 (.call 8 [(1,(.t 30)),(1,(.t 31))]),qn (.st 2 (.t 6) (.t 32))]) (.skip))) (.seq (.reg [qr 33 (.ld true 2 (.t 6)),qn (.st 2 (.t 4) (.t 33)),qr 5 (.mv (.k (.i .i64 0)))]) (.ret)))))
theorem xY(x y:Int)(h:y≠0):x.fdiv y=if x.tmod y≠0∧jy x≠jy y then x.tdiv y-1 else x.tdiv y:=by
 rw[Int.fdiv_eq_tdiv];by_cases hd:y∣x
 ·rw[if_pos hd,if_neg (fun h=>h.1 (Int.tmod_eq_zero_of_dvd hd)),Int.sub_zero]
 ·have ht:x.tmod y≠0:=fun h=>hd (Int.dvd_of_tmod_eq_zero h)
  have hx0:x≠0:=fun h0=>hd (h0▸Int.dvd_zero y)
  rw[if_neg hd];have e:(x.tmod y≠0∧jy x≠jy y)=(jy x≠jy y):=propext ⟨And.right,fun h=>⟨ht,h⟩⟩;simp only[e];generalize x.tdiv y=q;have sn:∀z:Int,z<0→jy z= -1:=fun z h=>if_pos h
  have sp:∀z:Int,0<z→jy z=1:=fun z h=>(if_neg om).trans (if_pos h)
  rcases Int.lt_or_gt_of_ne h with hy|hy
  ·rw[Int.sign_eq_neg_one_of_neg hy,sn y hy];rcases Int.lt_or_gt_of_ne hx0 with h1|h1
   ·rw[sn x h1,if_neg om,if_neg om,if_neg dc];omega
   ·rw[sp x h1,if_pos om,if_neg om,if_pos dc]
  ·rw[Int.sign_eq_one_of_pos hy,sp y hy];rcases Int.lt_or_gt_of_ne hx0 with h1|h1
   ·rw[sn x h1,if_neg om,if_pos om,if_pos dc]
   ·rw[sp x h1,if_pos om,if_pos om,if_neg dc];omega
end
section
open Go Go.RowKit Ab
def qX:=an @aU (an @qJ (an @Nat.div_one (an @Nat.mul_one (an @bI (an @gU (an @Af (an @fK (an @sK (an @wi @mG)))))))))
theorem tn_pq(a b:Nat):((a:Int)+(b:Int)).toNat=a+b:=om
theorem JA{s i x y:Nat}(h:s≤65025*i)(hx:x<256)(hy:y<256):s+x*y≤65025*(i+1):=by
 have h1:x*y≤255*255:=Nat.mul_le_mul om om;omega
def a58:AC:= .seq (.reg [qr 4 (.mv (.k .nl))]) (.seq (.reg [qm 13 0,qr 14 (.call 81 [(1,(.t 13))]),qm 15 1,qr 16 (.call 81 [(1,(.t 15))]),qm 5 14,qm 6 16]) (.seq (.reg [qm 17 5,qr 18 (.len (.t 17)),qm 19 6,qr 20 (.len (.t 19)),qr 21 (.bin .add (.t 18) (.t 20)),qr 22 (.bin .add (.t 21) (.k (.i .i64 1))),qr 23 (.mk 3 1 8 [(.i .i64 0)] (.t 22) (.t 22)),qm 7 23]) (.seq (.seq (.reg [qr 8 (.mv (.k (.i .i64 0)))]) (.blk 0 (.loop (.seq (.seq (.reg [qm 24 8,qm 25 5,qr 26 (.len (.t 25)),qr 27 (.bin .lss (.t 24) (.t 26))]) (.cond (.t 27) (.skip) (.exit 0))) (.seq (.blk 1 (.seq (.reg [qr 9 (.mv (.k (.i .i64 0)))]) (.blk 2 (.loop (.seq (.seq (.reg [qm 30 9,qm 31 6,qr 32 (.len (.t 31)),qr 33 (.bin .lss (.t 30) (.t 32))]) (.cond (.t 33) (.skip) (.exit 2))) (.seq (.blk 3 (.gp [qm 36 7,qm 37 8,qm 38 9,qr 39 (.bin .add (.t 37) (.t 38)),qm 40 7,qm 41 8,qm 42 9,qr 43 (.bin .add (.t 41) (.t 42)),qr 44 (.idx 1 (.t 40) (.t 43)),qr 45 (.ld false 1 (.t 44)),qm 46 5,qm 47 8,qr 48 (.idx 1 (.t 46) (.t 47)),qr 49 (.ld false 1 (.t 48)),qm 50 6,qm 51 9,qr 52 (.idx 1 (.t 50) (.t 51)),qr 53 (.ld false 1 (.t 52)),qr 54 (.bin .mul (.t 49) (.t 53)),qr 55 (.bin .add (.t 45) (.t 54)),qr 56 (.idx 1 (.t 36) (.t 39)),qn (.st 1 (.t 56) (.t 55))])) (.reg [qm 34 9,qr 35 (.bin .add (.t 34) (.k (.i .i64 1))),qm 9 35]))))))) (.reg [qm 28 8,qr 29 (.bin .add (.t 28) (.k (.i .i64 1))),qm 8 29])))))) (.seq (.reg [qr 10 (.mv (.k (.i .i64 0)))]) (.seq (.seq (.reg [qr 11 (.mv (.k (.i .i64 0)))]) (.blk 4 (.loop (.seq (.seq (.reg [qm 57 11,qm 58 7,qr 59 (.len (.t 58)),qr 60 (.bin .lss (.t 57) (.t 59))]) (.cond (.t 60) (.skip) (.exit 4))) (.seq (.blk 5 (.seq (.reg [qm 63 7,qm 64 11,qr 65 (.idx 1 (.t 63) (.t 64)),qr 66 (.ld false 1 (.t 65)),qm 67 10,qr 68 (.bin .add (.t 66) (.t 67)),qm 12 68]) (.seq (.reg [qm 69 7,qm 70 11,qm 71 12,qr 72 (.bin .rem (.t 71) (.k (.i .i64 256))),qr 73 (.idx 1 (.t 69) (.t 70)),qn (.st 1 (.t 73) (.t 72))]) (.reg [qm 74 12,qr 75 (.bin .quo (.t 74) (.k (.i .i64 256))),qm 10 75])))) (.reg [qm 61 11,qr 62 (.bin .add (.t 61) (.k (.i .i64 1))),qm 11 62])))))) (.seq (.reg [qm 76 7,qr 77 (.call 79 [(1,(.t 76))]),qm 4 77]) (.ret)))))))
theorem LW(a b:List Nat)(ha:Wd a)(hb:Wd b)(la:a.length≤100000000)(lb:b.length≤100000000):
 aF Tryz.prog J0 58 [.l 1 (W a),.l 1 (W b)] (.o 54 1 (W (dg B (nv B a*nv B b)))):=by
 have da:=dG a ha om
 have db:=dG b hb om
 have lda:=gW ha
 have ldb:=gW hb
 have ea:=jd D2 (nv B a)
 have eb:=jd D2 (nv B b)
 have wa:=jM (b:=256) dc (nv B a)
 have wb:=jM (b:=256) dc (nv B b)
 generalize dg 256 (nv B a)=x at*
 generalize dg 256 (nv B b)=y at*
 rw[←ea,←eb]
 obtain⟨p,hp⟩:∃p,p=x.length:=⟨_,rfl⟩
 obtain⟨q,hq⟩:∃q,q=y.length:=⟨_,rfl⟩
 obtain⟨n,hn⟩:∃n,n=p+q+1:=⟨_,rfl⟩
 have hnI:(p:Int)+(q:Int)+1=(n:Int):=om
 have hn0:(0:Int)≤(n:Int):=om
 have hT:nv 256 x*nv 256 y<256^n:=by
  have h1:=b_ wa;have h2:=b_ wb;have h3:=Nat.mul_lt_mul_of_lt_of_lt h1 h2;rw[←Nat.pow_add]at h3;exact Nat.lt_of_lt_of_le h3 (Nat.pow_le_pow_right dc om)
 obtain⟨T,hTe⟩:∃T,T=nv 256 x*nv 256 y:=⟨_,rfl⟩
 rw[←hTe]at hT ⊢
 refine ja dB eY Tryz.func58 a58 ?_
 unfold a58
 simp only[ak,aH,qm,qr,qn]
 refine tu (ai @mk_D (ai @hnI (ai (Eq.symm hq) (ai (Eq.symm hp) @qX)))) ?_
 refine bD [] (Nat×List Nat) (fun s=>⟨[(5,.l 1 (D x)),(6,.l 1 (D y)),(7,.ow 1 0 n),(8,.i .i64 (s.1:Int))],
  [(0,some ⟨3,1,D s.2,true,false⟩)],1⟩)
  (fun s=>s.1≤p∧s.2.length=n∧nv 256 s.2=nv 256 (x.take s.1)*nv 256 y∧∀j,s.2.getD j 0≤65025*s.1) (fun s=>p-s.1) (0,List.replicate n 0)
  ⟨Nat.zero_le _,sy,by rw[tH,List.take_zero,show nv 256 []=0 from rfl,Nat.zero_mul],fun j=>by simp only[List.getD_eq_getElem?_getD,List.getElem?_replicate];split<;>simp⟩ (by exact ni) (by
  exact qj) ?_
 rintro⟨i,S⟩ ⟨hi,lS,vS,bS⟩ Q' hQ he hr
 simp only[]at hi lS vS bS ⊢
 by_cases hil:(i:Int)<(p:Int)
 ·have hxi:=nO wa dc i;refine aP (ai (Eq.symm hq) (ai (Eq.symm hp) (ai @hil @qX))) ?_;refine bD [] (Nat×List Nat) (fun s=>⟨[(5,.l 1 (D x)),(6,.l 1 (D y)),(7,.ow 1 0 n),(8,.i .i64 (i:Int)),(9,.i .i64 (s.1:Int))],
   [(0,some ⟨3,1,D s.2,true,false⟩)],1⟩)
   (fun s=>s.1≤q∧s.2.length=n∧nv 256 s.2=nv 256 (x.take i)*nv 256 y+256^i*(x.getD i 0*nv 256 (y.take s.1))∧(∀j,s.2.getD j 0≤65025*(i+1))∧∀j,i+s.1≤j→s.2.getD j 0≤65025*i) (fun s=>q-s.1) (0,S)
   ⟨Nat.zero_le _,lS,by simp only[List.take_zero,show nv 256 []=0 from rfl,Nat.mul_zero,Nat.add_zero];exact vS,fun j=>by have:=bS j;simp only;omega,fun j _=>bS j⟩ (by exact ni) (by
   exact qj) ?_
  rintro⟨k,U⟩ ⟨hk,lU,vU,bU,cU⟩ Q'' hQ' he' hr';simp only[]at hk lU vU bU cU ⊢;by_cases hkl:(k:Int)<(q:Int)
  ·have hyk:=nO wb dc k;have hik:=cU (i+k) (Nat.le_refl _);have hab:=JA hik hxi hyk;have htk:=fJ (b:=256) y k om;have hst:=zK (b:=256) U (i+k) (U.getD (i+k) 0+x.getD i 0*y.getD k 0) om;have hmI:(((U.getD (i+k) 0:Nat)):Int)+((x.getD i 0:Nat):Int)*((y.getD k 0:Nat):Int)=((U.getD (i+k) 0+x.getD i 0*y.getD k 0:Nat):Int):=by rw[Int.natCast_add,Int.natCast_mul]
   have hxy:x.getD i 0*y.getD k 0≤65025:=by have:=JA (s:=0) (i:=0) om hxi hyk;omega
   obtain⟨z,hz⟩:∃z,z=x.getD i 0*y.getD k 0:=⟨_,rfl⟩;have hzI:((x.getD i 0:Nat):Int)*((y.getD k 0:Nat):Int)=(z:Int):=by rw[hz,Int.natCast_mul]
   rw[←hz]at hab hst hmI hxy;rw[hzI]at hmI;refine aP (ai @xh (ai @hmI (ai @hzI (ai @lU (ai @tn_pq (ai (Eq.symm hq) (ai (Eq.symm hp) (ai @hkl @qX)))))))) ?_;refine hQ' _ (k+1,U.set (i+k) (U.getD (i+k) 0+z)) ⟨by simp only;omega,by simp only[List.length_set];exact lU,?_,fun j=>?_,fun j hj=>?_⟩ (by simp only;omega) ?_
   ·simp only[];have e:256^i*(x.getD i 0*(256^k*y.getD k 0))=256^(i+k)*z:=by rw[hz,Nat.pow_add,Nat.mul_assoc,Nat.mul_left_comm (x.getD i 0)]
    rw[htk,Nat.mul_add,Nat.mul_add,e,←Nat.add_assoc,←vU];rw[Nat.mul_add]at hst;omega
   ·simp only[];by_cases hj:i+k=j
    ·subst hj;rw[uP _ _ _ om];exact hab
    ·rw[getD_set_ne _ _ _ _ hj];exact bU j
   ·simp only[]at hj ⊢;rw[getD_set_ne _ _ _ _ om];exact cU j om
   ·refine iP trivial ?_;repeat' first|rfl|omega|(simp only[List.length_append,List.length_cons,List.length_nil];done)|apply And.intro
  ·obtain rfl:k=q:=om;rw[show y.take k=y from by rw[hq,List.take_length]]at vU;refine aP (ai (Eq.symm hq) (ai (Eq.symm hp) (ai @hkl @qX))) ?_;refine he' _ _ ?_;refine aP @qX ?_;refine hQ _ (i+1,U) ⟨by simp only;omega,lU,?_,bU⟩ (by simp only;omega) ?_
   ·simp only[];rw[vU,fJ (b:=256) x i om,Nat.add_mul,Nat.mul_assoc]
   ·refine iP trivial ?_;repeat' first|rfl|omega|(simp only[List.length_append,List.length_cons,List.length_nil];done)|apply And.intro
 ·obtain rfl:i=p:=om;rw[show x.take i=x from by rw[hp,List.take_length]]at vS;rw[←hTe]at vS;obtain⟨M,hM⟩:∃M,M=65025*i:=⟨_,rfl⟩;have hMb:M≤65025*800000000:=om;rw[←hM]at bS;refine aP (ai (Eq.symm hq) (ai (Eq.symm hp) (ai @hil @qX))) ?_;refine he _ _ ?_;refine aP @qX ?_;refine bD [] (Nat×List Nat×Nat) (fun s=>⟨[(7,.ow 1 0 n),(10,.i .i64 (s.2.2:Int)),(11,.i .i64 (s.1:Int))],
   [(0,some ⟨3,1,D (s.2.1++S.drop s.1),true,false⟩)],1⟩)
   (fun s=>s.1≤n∧s.2.1.length=s.1∧Lt 256 s.2.1∧s.2.2≤M∧nv 256 s.2.1+256^s.1*(s.2.2+nv 256 (S.drop s.1))=T) (fun s=>n-s.1) (0,[],0)
   ⟨Nat.zero_le _,rfl,PM,Nat.zero_le _,by simp[nv,vS]⟩ (by exact ni) (by
   exact qj) ?_
  rintro⟨j,E,c⟩ ⟨hj,lE,wE,hc,vE⟩ Q'' hQ' he' hr';simp only[]at hj lE wE hc vE ⊢;by_cases hjl:(j:Int)<(n:Int)
  ·have hjS:j<S.length:=om;have hll:(E++S.drop j).length=n:=by rw[List.length_append,lE,List.length_drop];omega
   have hget:(E++S.drop j).getD j 0=S.getD j 0:=by rw[List.getD_eq_getElem?_getD,List.getElem?_append_right om,lE,Nat.sub_self,List.getElem?_drop,Nat.add_zero,List.getD_eq_getElem?_getD]
   have hbj:=bS j;obtain⟨t,ht⟩:∃t,t=S.getD j 0+c:=⟨_,rfl⟩;have htI:((S.getD j 0:Nat):Int)+(c:Int)=(t:Int):=om;have hset:(E++S.drop j).set j (t%256)=(E++[t%256])++S.drop (j+1):=by
    rw[List.drop_eq_getElem_cons hjS,List.set_append_right _ _ om,lE,Nat.sub_self,List.set_cons_zero,List.append_assoc];rfl
   have hdr:=nG (b:=256) S j hjS;refine aP (ai @hset (ai @xh (ai @mQ (ai @mP (ai @htI (ai @hget (ai @hll (ai @hjl @qX)))))))) ?_;refine hQ' _ (j+1,E++[t%256],t/256) ⟨by simp only;omega,by simp[lE],BV.2 ⟨wE,fun z hz=>by rw[List.mem_singleton]at hz;omega⟩,by simp only;omega,?_⟩ (by simp only;omega) ?_
   ·simp only[];rw[mr,vW,lE,Nat.pow_succ,Nat.mul_assoc,Nat.add_assoc,←Nat.mul_add,←vE,hdr];rw[show t%256+256*(t/256+nv 256 (S.drop (j+1)))=c+(S.getD j 0+256*nv 256 (S.drop (j+1)))from by rw[Nat.mul_add];omega]
   ·refine iP trivial ?_;repeat' first|rfl|omega|(simp only[List.length_append,List.length_cons,List.length_nil];done)|apply And.intro
  ·obtain rfl:j=n:=om;have hd0:S.drop j=[]:=List.drop_of_length_le om;rw[hd0,show nv 256 []=0 from rfl,Nat.add_zero]at vE;have hc0:c=0:=by
    rcases Nat.eq_zero_or_pos c with h|h
    ·exact h
    ·have:=Nat.mul_le_mul_left (256^j) (show 1≤c from h);omega
   rw[hc0,Nat.mul_zero,Nat.add_zero]at vE;have hof:=pI E wE om;rw[vE]at hof;refine aP (ai @hjl @qX) ?_;refine he' _ _ ?_;repeat first|(refine hK _ ?_;clear hK K)|simp only[Sv,↓reduceIte,Nat.reduceEqDiff]|((first|refine aI (fun K hK=>?_)|refine aT (fun K hK=>?_)|refine aK (fun K hK=>?_)|refine oh ?_|refine kC (by assumption) ?_|refine oz ?_|(apply kD;assumption)|(apply kz;assumption));simp(disch:=(first|omega|assumption)) only[S1,↓reduceIte,Nat.reduceEqDiff,Nat.reduceAdd,Nat.reduceMul,Nat.reduceDiv,bY.sb,bY.mut,dH,↓Bool.false_eq_true,beq_self_eq_true,ite_self,Nat.reduceLeDiff,Int.reduceEq,Int.reduceSub,Int.reduceAdd,Int.reduceNeg,Int.reduceLT,Int.reduceLE,Nat.reduceLT,qX,hd0,List.append_nil])
   simp(disch:=(first|omega|assumption)) only[fO,iD,iK,ku,gG,V.aV,and_true,true_and,S1,↓reduceIte,Nat.reduceEqDiff,Nat.reduceAdd,Nat.reduceMul,Nat.reduceDiv,bY.sb,bY.mut,dH,↓Bool.false_eq_true,beq_self_eq_true,ite_self,Nat.reduceLeDiff,Int.reduceEq,Int.reduceSub,Int.reduceAdd,Int.reduceNeg,Int.reduceLT,Int.reduceLE,Nat.reduceLT,qX,hd0,List.append_nil]
end
section
open Go Go.RowKit Ab
def bJ:=an @aU (an @qJ (an @Nat.div_one (an @Nat.mul_one (an @bI (an @gU (an @Af (an @fK @sK)))))))
def a57:AC:= .seq (.reg [qr 4 (.mv (.k .nl)),qr 5 (.mv (.k (.b false)))]) (.seq (.seq (.reg [qm 6 0,qm 7 1,qr 8 (.call 82 [(1,(.t 6)),(1,(.t 7))]),qr 9 (.bin .lss (.t 8) (.k (.i .i64 0)))]) (.cond (.t 9) (.seq (.reg [qm 10 1,qr 11 (.call 81 [(1,(.t 10))]),qm 12 0,qr 13 (.call 81 [(1,(.t 12))]),qr 14 (.call 83 [(1,(.t 11)),(1,(.t 13))]),qr 15 (.call 79 [(1,(.t 14))]),qm 4 15,qr 5 (.mv (.k (.b true)))]) (.ret)) (.skip))) (.seq (.reg [qm 16 0,qr 17 (.call 81 [(1,(.t 16))]),qm 18 1,qr 19 (.call 81 [(1,(.t 18))]),qr 20 (.call 83 [(1,(.t 17)),(1,(.t 19))]),qr 21 (.call 79 [(1,(.t 20))]),qm 4 21,qr 5 (.mv (.k (.b false)))]) (.ret)))
theorem H9(a b:List Nat)(ha:Wd a)(hb:Wd b)(la:a.length≤100000000000)(lb:b.length≤100000000000):
 aF Tryz.prog J0 57 [.l 1 (W a),.l 1 (W b)] (.t [.l 1 (W (if nv B a<nv B b then dg B (nv B b-nv B a)else dg B (nv B a-nv B b))),.b (decide (nv B a<nv B b))]):=by
 refine ja dB eY Tryz.func57 a57 ?_
 unfold a57
 simp only[ak,aH,qm,qr,qn]
 by_cases h:nv B a<nv B b
 ·refine aP @bJ ?_;try simp only[Sv,↓reduceIte,Nat.reduceEqDiff]
  refine aI (fun K hK=>?_);refine dn @bJ ?_;refine jh @bJ (A_ a b ha hb la lb) ?_;refine dn (ai @h (ai @I_ @bJ)) ?_;refine hK _ ?_;clear hK K;try (refine hK _ ?_;clear hK K)
  refine aP @bJ ?_;obtain⟨x,hx⟩:∃x,x=dg 256 (nv B b):=⟨_,rfl⟩;obtain⟨y,hy⟩:∃y,y=dg 256 (nv B a):=⟨_,rfl⟩;have hla:=gW hb;have ea:=jd D2 (nv B b);have eb:=jd D2 (nv B a);have kx:Lt 256 x:=by rw[hx];exact jM dc _
  have ky:Lt 256 y:=by rw[hy];exact jM dc _
  have ty:tz y=y:=by rw[hy];exact PR _
  rw[←hx]at hla ea;rw[←hy]at eb;have sv:nv 256 (fl 256 x.length (nv 256 x+256^x.length-nv 256 (y.take x.length)))=nv B b-nv B a:=by rw[Ja kx ky om ty,ea,eb]
  try simp only[Sv,↓reduceIte,Nat.reduceEqDiff]
  refine aI (fun K hK=>?_);refine dn @bJ ?_;refine jh @bJ (dG b hb om) ?_;simp only[←hx];refine dn @bJ ?_;refine jh @bJ (dG a ha om) ?_;simp only[←hy];refine dn @bJ ?_;refine jh @bJ (A7 x y kx ky om) ?_;refine dn @bJ ?_;refine jh @bJ (pI (fl 256 x.length (nv 256 x+256^x.length-nv 256 (y.take x.length))) (jG dc _ _) (by rw[bC];omega)) ?_;refine dn (ai @sv @bJ) ?_;refine hK _ ?_;clear hK K;try (refine hK _ ?_;clear hK K)
  refine aP @bJ ?_;exact oC (ai @h @bJ)
 ·try (refine hK _ ?_;clear hK K)
  refine aP @bJ ?_;try simp only[Sv,↓reduceIte,Nat.reduceEqDiff]
  refine aI (fun K hK=>?_);refine dn @bJ ?_;refine jh @bJ (A_ a b ha hb la lb) ?_;refine dn (ai @h (ai @I_ @bJ)) ?_;refine hK _ ?_;clear hK K;try (refine hK _ ?_;clear hK K)
  refine aP @bJ ?_;obtain⟨x,hx⟩:∃x,x=dg 256 (nv B a):=⟨_,rfl⟩;obtain⟨y,hy⟩:∃y,y=dg 256 (nv B b):=⟨_,rfl⟩;have hla:=gW ha;have ea:=jd D2 (nv B a);have eb:=jd D2 (nv B b);have kx:Lt 256 x:=by rw[hx];exact jM dc _
  have ky:Lt 256 y:=by rw[hy];exact jM dc _
  have ty:tz y=y:=by rw[hy];exact PR _
  rw[←hx]at hla ea;rw[←hy]at eb;have sv:nv 256 (fl 256 x.length (nv 256 x+256^x.length-nv 256 (y.take x.length)))=nv B a-nv B b:=by rw[Ja kx ky om ty,ea,eb]
  try simp only[Sv,↓reduceIte,Nat.reduceEqDiff]
  refine aI (fun K hK=>?_);refine dn @bJ ?_;refine jh @bJ (dG a ha om) ?_;simp only[←hx];refine dn @bJ ?_;refine jh @bJ (dG b hb om) ?_;simp only[←hy];refine dn @bJ ?_;refine jh @bJ (A7 x y kx ky om) ?_;refine dn @bJ ?_;refine jh @bJ (pI (fl 256 x.length (nv 256 x+256^x.length-nv 256 (y.take x.length))) (jG dc _ _) (by rw[bC];omega)) ?_;refine dn (ai @sv @bJ) ?_;refine hK _ ?_;clear hK K;try (refine hK _ ?_;clear hK K)
  refine aP @bJ ?_;exact oC (ai @h @bJ)
end
section
open Go Go.RowKit Ab
def jV:=an @Bool.false_and (an @wi (an @bI (an @Nat.div_one (an @Nat.mul_one (an @aU (an @gU (an @gQ (an @fK (an @dD @xA)))))))))
def a36:AC:= .seq (.reg [qr 4 (.al 25 [(.b false),(.l 1 [])])]) (.seq (.reg [qm 5 1,qr 6 (.call 63 [(1,(.t 5))]),qm 1 6]) (.seq (.reg [qm 7 0,qm 8 7,⟨some 9,some (8,true),.mv (.t 1)⟩,⟨some 10,some (8,true),.len (.t 9)⟩,⟨some 11,some (8,true),.bin .gtr (.t 10) (.k (.i .i64 0))⟩,qr 12 (.pick (.t 8) (.t 11) (.k (.b false))),qm 13 1,qr 14 (.sO [(.b false),(.l 1 [])] [(0,1,(.t 12)),(1,1,(.t 13))]),qn (.st 2 (.t 4) (.t 14))]) (.ret)))
theorem pM(s:Bool)(a:List Nat)(ha:Wd a)(la:a.length≤1000000000):aF Tryz.prog J0 36 [.b s,.l 1 (W a)] (zN (zv s a)):=by
 have h1:=(yZ a ha om).frozen;have e:=zN_I s (nv B a);unfold zv;rw[e];generalize nv B a=n at*
 refine jO dB eY Tryz.func36 a36 [.c 4 true 2] ?_;unfold a36;simp only[ak,aH,qm,qr,qn];cases s
 ·have MM:=h1;exact yO (ai @aW @jV)
 ·by_cases h:0<n
  ·have e:decide (0<n)=true:=decide_eq_true h;rw[e];exact yO (ai @h (ai @qV (ai @aW @jV)))
  ·have e:decide (0<n)=false:=decide_eq_false h;rw[e];exact yO (ai @h (ai @qV (ai @aW @jV)))
theorem pO(s:Bool){n m:Nat}(h:n<B^m)(hm:m≤1000000000):aF Tryz.prog J0 36 [.b s,.l 1 (W (dg B n))] (zN (zI s n)):=by
 have:=pM s (dg B n) (bF _) (Nat.le_trans (dS h) hm);rwa[zv,dE]at this
def a6:AC:= .seq (.reg [qr 1 (.bx 25 (.t 0)),qr 2 (.al 25 [(.b false),(.l 1 [])])]) (.seq (.reg [qr 3 (.dQ 0 (.t 1)),qr 4 (.ld false 1 (.t 3)),qr 5 (.dQ 1 (.t 1)),qr 6 (.ld false 1 (.t 5)),qr 7 (.call 36 [(1,(.t 4)),(1,(.t 6))]),qn (.st 2 (.t 2) (.t 7))]) (.ret))
theorem g_(s:Bool)(a:List Nat)(ha:Wd a)(la:a.length≤1000000000):aF Tryz.prog J0 6 [zL s a] (zN (zv s a)):=by
 have h1:=pM s a ha la;refine jO dB eY Tryz.func6 a6 [.c 2 true 2] ?_;unfold a6;simp only[ak,aH,qm,qr,qn];exact yO (ai @aW @jV)
def a28:AC:= .seq (.reg [qr 2 (.bx 25 (.t 0)),qr 3 (.bx 25 (.t 1)),qr 4 (.mv (.k (.b false)))]) (.seq (.reg [qr 5 (.dQ 0 (.t 2)),qr 6 (.ld false 1 (.t 5)),qr 7 (.dQ 0 (.t 3)),qr 8 (.ld false 1 (.t 7)),qr 9 (.BM false (.t 6) (.t 8)),qm 10 9,⟨some 11,some (10,true),.dQ 1 (.t 2)⟩,⟨some 12,some (10,true),.ld false 1 (.t 11)⟩,⟨some 13,some (10,true),.dQ 1 (.t 3)⟩,⟨some 14,some (10,true),.ld false 1 (.t 13)⟩,⟨some 15,some (10,true),.call 35 [(1,(.t 12)),(1,(.t 14))]⟩,qr 16 (.pick (.t 10) (.t 15) (.k (.b false))),qm 4 16]) (.ret))
theorem H_(s t:Bool)(a b:List Nat)(la:a.length≤1000000000)(lb:b.length≤1000000000):aF Tryz.prog J0 28 [zL s a,zL t b] (.b ((s==t)&&decide (a=b))):=by
 have h1:=A8 a b om om;refine ja dB eY Tryz.func28 a28 ?_;unfold a28;simp only[ak,aH,qm,qr,qn];by_cases h:s=t
 ·have hb':(s==t)=true:=by rw[h];cases t<;>rfl
  rw[hb',Bool.true_and];exact tC (ai @hb' (ai @aW @jV))
 ·have hb':(s==t)=false:=by cases s<;>cases t<;>first|rfl|exact absurd rfl h
  rw[hb',Bool.false_and];refine aP (ai @hb' (ai @aW @jV)) ?_;exact oC (ai @aW @jV)
theorem pR{x y:Int}(h:x=y){m:Nat}(hx:x.natAbs<B^m)(hm:m≤1000000000):aF Tryz.prog J0 28 [zN x,zN y] (.b true):=by
 subst h;have:=H_ (decide (x<0)) (decide (x<0)) (dg B x.natAbs) (dg B x.natAbs) (Nat.le_trans (dS hx) hm) (Nat.le_trans (dS hx) hm);rwa[show((decide (x<0)==decide (x<0))&&decide (dg B x.natAbs=dg B x.natAbs))=true from sy]at this
def a12:AC:= .seq (.reg [qr 2 (.al 25 [(.b false),(.l 1 [])])]) (.seq (.seq (.reg [qm 3 0,qr 4 (.bin .lss (.t 3) (.k (.i .i64 0)))]) (.cond (.t 4) (.seq (.reg [qm 5 0,qr 6 (.bin .add (.t 5) (.k (.i .i64 1))),qr 7 (.un .neg (.t 6)),qr 8 (.Ad .u64 (.t 7)),qr 9 (.bin .add (.t 8) (.k (.i .u64 1))),qr 10 (.nz 54 1 1 [(.i .u64 0)] [(0,(.t 9))]),qr 11 (.call 36 [(1,(.k (.b true))),(1,(.t 10))]),qn (.st 2 (.t 2) (.t 11))]) (.ret)) (.skip))) (.seq (.reg [qm 12 0,qr 13 (.Ad .u64 (.t 12)),qr 14 (.nz 54 1 1 [(.i .u64 0)] [(0,(.t 13))]),qr 15 (.call 36 [(1,(.k (.b false))),(1,(.t 14))]),qn (.st 2 (.t 2) (.t 15))]) (.ret)))
theorem jH(n:Int)(h1: -9223372036854775808≤n)(h2:n<9223372036854775808):aF Tryz.prog J0 12 [.i .i64 n] (zN n):=by
 have hm:=pM (decide (n<0)) [n.natAbs] (Wd1 om) sy;rw[show zv (decide (n<0)) [n.natAbs]=n from by unfold zv;rw[vW,kK]]at hm;by_cases h:n<0
 ·have e1:decide (n<0)=true:=decide_eq_true h;rw[show zN n= .g [.b true,.l 1 (W (dg B n.natAbs))]from by show V.g [.b (decide (n<0)),_]=_;rw[e1]]at hm ⊢;rw[e1]at hm;refine jO dB eY Tryz.func12 a12 [.c 2 true 2] ?_;unfold a12;simp only[ak,aH,qm,qr,qn];have w1:IntKind.i64.wrap (n+1)=n+1:=wi om;have w2:IntKind.i64.wrap (0-(n+1))=0-(n+1):=wi om;have w3:IntKind.u64.wrap (0-(n+1))=0-(n+1):=by rw[IntKind.wrap_u64];omega
  have w4:IntKind.u64.wrap (0-(n+1)+1)=((n.natAbs:Nat):Int):=by rw[IntKind.wrap_u64];omega
  exact yO (ai @e1 (ai @W1 (ai @w4 (ai @w3 (ai @w2 (ai @w1 (ai @h (ai @aW @jV))))))))
 ·have e1:decide (n<0)=false:=decide_eq_false h;rw[show zN n= .g [.b false,.l 1 (W (dg B n.natAbs))]from by show V.g [.b (decide (n<0)),_]=_;rw[e1]]at hm ⊢;rw[e1]at hm;refine jO dB eY Tryz.func12 a12 [.c 2 true 2] ?_;unfold a12;simp only[ak,aH,qm,qr,qn];have w3:IntKind.u64.wrap n=((n.natAbs:Nat):Int):=by rw[IntKind.wrap_u64];omega
  exact yO (ai @e1 (ai @W1 (ai @w3 (ai @h (ai @aW @jV)))))
def a59:AC:= .seq (.reg [qr 1 (.bx 25 (.t 0)),qr 2 (.mv (.k (.i .i64 0)))]) (.seq (.blk 0 (.seq (.reg [qr 4 (.dQ 1 (.t 1)),qr 5 (.ld false 1 (.t 4)),qr 6 (.call 84 [(1,(.t 5))]),qr 7 (.bin .eql (.t 6) (.k (.i .i64 0))),qm 3 7]) (.cond (.t 3) (.seq (.reg [qr 2 (.mv (.k (.i .i64 0)))]) (.ret)) (.seq (.reg [qr 9 (.dQ 0 (.t 1)),qr 10 (.ld false 1 (.t 9)),qm 8 10]) (.cond (.t 8) (.seq (.reg [qr 2 (.mv (.k (.i .i64 (-1))))]) (.ret)) (.skip)))))) (.seq (.reg [qr 2 (.mv (.k (.i .i64 1)))]) (.ret)))
theorem qY(s:Bool)(a:List Nat)(ha:Wd a)(la:a.length≤1000000000):aF Tryz.prog J0 59 [zL s a] (.i .i64 (jy (zv s a))):=by
 have h1:=zo a ha om;have e:((((dg 2 (nv B a)).length:Nat):Int)=0)=(nv B a=0):=propext ⟨fun h=>(tJ (b:=2) dc).1 (List.eq_nil_of_length_eq_zero om),fun h=>by rw[h];rfl⟩;have es:=sgz_I s (nv B a);unfold zv;rw[es];by_cases h:nv B a=0
 ·rw[if_pos h];have e2:=e.mpr h;refine ja dB eY Tryz.func59 a59 ?_;unfold a59;simp only[ak,aH,qm,qr,qn];exact tC (ai @e2 (ai @aW @jV))
 ·rw[if_neg h];have e2:¬((((dg 2 (nv B a)).length:Nat):Int)=0):=fun h'=>h (e.mp h')
  cases s
  ·refine ja dB eY Tryz.func59 a59 ?_;unfold a59;simp only[ak,aH,qm,qr,qn];exact tC (ai @e2 (ai @aW @jV))
  ·refine ja dB eY Tryz.func59 a59 ?_;unfold a59;simp only[ak,aH,qm,qr,qn];exact tC (ai @e2 (ai @aW @jV))
def a27:AC:= .seq (.reg [qr 1 (.bx 25 (.t 0)),qr 2 (.al 25 [(.b false),(.l 1 [])])]) (.seq (.reg [qr 3 (.dQ 0 (.t 1)),qr 4 (.ld false 1 (.t 3)),qr 5 (.un .not (.t 4)),qr 6 (.dQ 1 (.t 1)),qr 7 (.ld false 1 (.t 6)),qr 8 (.call 36 [(1,(.t 5)),(1,(.t 7))]),qn (.st 2 (.t 2) (.t 8))]) (.ret))
theorem zT(s:Bool)(a:List Nat)(ha:Wd a)(la:a.length≤1000000000):aF Tryz.prog J0 27 [zL s a] (zN (-(zv s a))):=by
 have h1:=pM (!s) a ha la;rw[show zv (!s) a= -(zv s a)from by unfold zv zI;cases s<;>simp]at h1;refine jO dB eY Tryz.func27 a27 [.c 2 true 2] ?_;unfold a27;simp only[ak,aH,qm,qr,qn];exact yO (ai @aW @jV)
theorem JB(x y:Int):((decide (x<0)==decide (y<0))=true)↔(decide (x<0)=decide (y<0)):=sy
def a24:AC:= .seq (.reg [qr 2 (.bx 25 (.t 0)),qr 3 (.bx 25 (.t 1)),qr 4 (.al 25 [(.b false),(.l 1 [])])]) (.seq (.gp [qr 7 (.ld true 2 (.t 2)),qr 8 (.call 6 [(1,(.t 7))]),qr 9 (.ld true 2 (.t 3)),qr 10 (.call 6 [(1,(.t 9))]),qn (.st 2 (.t 2) (.t 8)),qn (.st 2 (.t 3) (.t 10))]) (.seq (.seq (.reg [qr 11 (.dQ 0 (.t 2)),qr 12 (.ld false 1 (.t 11)),qr 13 (.dQ 0 (.t 3)),qr 14 (.ld false 1 (.t 13)),qr 15 (.BM false (.t 12) (.t 14))]) (.cond (.t 15) (.seq (.sG [(16,19),(16,21)] [qr 16 (.dQ 0 (.t 2)),qr 17 (.ld false 1 (.t 16)),qr 18 (.dQ 1 (.t 2)),qr 19 (.ld false 1 (.t 18)),qr 20 (.dQ 1 (.t 3)),qr 21 (.ld false 1 (.t 20)),qr 22 (.call 56 [(1,(.t 19)),(1,(.t 21))]),qr 23 (.call 36 [(1,(.t 17)),(1,(.t 22))]),qn (.st 2 (.t 4) (.t 23))]) (.ret)) (.skip))) (.seq (.reg [qr 25 (.dQ 1 (.t 2)),qr 26 (.ld false 1 (.t 25)),qr 27 (.dQ 1 (.t 3)),qr 28 (.ld false 1 (.t 27)),qr 29 (.call 57 [(1,(.t 26)),(1,(.t 28))]),qm 24 29,qr 30 (.ext (.t 24) 0),qr 31 (.ext (.t 24) 1),qm 5 30,qm 6 31]) (.seq (.seq (.reg [qm 32 6]) (.cond (.t 32) (.seq (.reg [qr 33 (.dQ 0 (.t 3)),qr 34 (.ld false 1 (.t 33)),qm 35 5,qr 36 (.call 36 [(1,(.t 34)),(1,(.t 35))]),qn (.st 2 (.t 4) (.t 36))]) (.ret)) (.skip))) (.seq (.reg [qr 37 (.dQ 0 (.t 2)),qr 38 (.ld false 1 (.t 37)),qm 39 5,qr 40 (.call 36 [(1,(.t 38)),(1,(.t 39))]),qn (.st 2 (.t 4) (.t 40))]) (.ret))))))
theorem tZ(s t:Bool)(a b:List Nat)(ha:Wd a)(hb:Wd b)(la:a.length≤100000000)(lb:b.length≤100000000):aF Tryz.prog J0 24 [zL s a,zL t b] (zN (zv s a+zv t b)):=by
 have h1:=g_ s a ha om;have h2:=g_ t b hb om;have l1:=qW (s:=s) ha la;have l2:=qW (s:=t) hb lb;generalize zv s a=x at*
 generalize zv t b=y at*
 obtain⟨e1,e2⟩:=V8 (decide (x<0)) (decide (y<0)) x.natAbs y.natAbs;rw[kK,kK]at e1 e2;have d1:=dS l1;have d2:=dS l2;by_cases h:decide (x<0)=decide (y<0)
 ·have hb':(decide (x<0)==decide (y<0))=true:=(JB x y).2 h;have h3:=(Ba (dg B x.natAbs) (dg B y.natAbs) (bF _) (bF _) om om).frozen;rw[dE,dE]at h3;have h4:=pO (decide (x<0)) (Qa l1 l2) om;rw[e1 h]at h4;refine jO dB eY Tryz.func24 a24 [.c 4 true 2] ?_;unfold a24;simp only[ak,aH,qm,qr,qn];exact yO (ai @hb' (ai @aW @jV))
 ·have hb':(decide (x<0)==decide (y<0))=false:=by
   cases hq:(decide (x<0)==decide (y<0))with
   |false=>rfl
   |true=>exact absurd ((JB x y).1 hq) h
  have h3:=H9 (dg B x.natAbs) (dg B y.natAbs) (bF _) (bF _) om om;rw[dE,dE]at h3;have e2:=e2 h;by_cases h5:x.natAbs<y.natAbs
  ·rw[if_pos h5,decide_eq_true h5]at h3;rw[if_pos h5,decide_eq_true h5]at e2;have h4:=pO (decide (y<0)) (Nat.lt_of_le_of_lt (Nat.sub_le y.natAbs x.natAbs) l2) om;rw[show decide (y<0)=!(decide (x<0)==true)from by revert h;cases decide (x<0)<;>cases decide (y<0)<;>simp,e2]at h4;rw[show(!(decide (x<0)==true))=decide (y<0)from by revert h;cases decide (x<0)<;>cases decide (y<0)<;>simp]at h4;refine jO dB eY Tryz.func24 a24 [.c 4 true 2] ?_;unfold a24;simp only[ak,aH,qm,qr,qn];exact yO (ai @hb' (ai @aW @jV))
  ·rw[if_neg h5,decide_eq_false h5]at h3;rw[if_neg h5,decide_eq_false h5]at e2;have h4:=pO (decide (x<0)) (Nat.lt_of_le_of_lt (Nat.sub_le x.natAbs y.natAbs) l1) om;rw[show zI (decide (x<0)) (x.natAbs-y.natAbs)=x+y from by rw[←e2];congr 1;cases decide (x<0)<;>rfl]at h4;refine jO dB eY Tryz.func24 a24 [.c 4 true 2] ?_;unfold a24;simp only[ak,aH,qm,qr,qn];exact yO (ai @hb' (ai @aW @jV))
def a25:AC:= .seq (.reg [qr 2 (.bx 25 (.t 0)),qr 3 (.bx 25 (.t 1)),qr 4 (.al 25 [(.b false),(.l 1 [])])]) (.seq (.gp [qr 5 (.ld true 2 (.t 2)),qr 6 (.ld true 2 (.t 3)),qr 7 (.call 27 [(1,(.t 6))]),qr 8 (.call 24 [(1,(.t 5)),(1,(.t 7))]),qn (.st 2 (.t 4) (.t 8))]) (.ret))
theorem zU(s t:Bool)(a b:List Nat)(ha:Wd a)(hb:Wd b)(la:a.length≤100000000)(lb:b.length≤100000000):aF Tryz.prog J0 25 [zL s a,zL t b] (zN (zv s a-zv t b)):=by
 have h1:=zT t b hb om;have h2:=tZ s (decide (-(zv t b)<0)) a (dg B (-(zv t b)).natAbs) ha (bF _) la (by rw[Int.natAbs_neg,mY];exact Nat.le_trans (dS (b_ hb)) lb);rw[kW,←Int.sub_eq_add_neg]at h2;refine jO dB eY Tryz.func25 a25 [.c 4 true 2] ?_;unfold a25;simp only[ak,aH,qm,qr,qn];exact yO (ai @aW @jV)
def a26:AC:= .seq (.reg [qr 2 (.bx 25 (.t 0)),qr 3 (.bx 25 (.t 1)),qr 4 (.al 25 [(.b false),(.l 1 [])])]) (.seq (.gp [qr 5 (.ld true 2 (.t 2)),qr 6 (.call 6 [(1,(.t 5))]),qr 7 (.ld true 2 (.t 3)),qr 8 (.call 6 [(1,(.t 7))]),qn (.st 2 (.t 2) (.t 6)),qn (.st 2 (.t 3) (.t 8))]) (.seq (.sG [(9,15),(9,17),(11,15),(11,17)] [qr 9 (.dQ 0 (.t 2)),qr 10 (.ld false 1 (.t 9)),qr 11 (.dQ 0 (.t 3)),qr 12 (.ld false 1 (.t 11)),qr 13 (.BM true (.t 10) (.t 12)),qr 14 (.dQ 1 (.t 2)),qr 15 (.ld false 1 (.t 14)),qr 16 (.dQ 1 (.t 3)),qr 17 (.ld false 1 (.t 16)),qr 18 (.call 58 [(1,(.t 15)),(1,(.t 17))]),qr 19 (.call 36 [(1,(.t 13)),(1,(.t 18))]),qn (.st 2 (.t 4) (.t 19))]) (.ret)))
theorem Ia(s t:Bool)(a b:List Nat)(ha:Wd a)(hb:Wd b)(la:a.length≤100000000)(lb:b.length≤100000000):aF Tryz.prog J0 26 [zL s a,zL t b] (zN (zv s a*zv t b)):=by
 obtain⟨m,hm⟩:∃m,m=100000000:=⟨_,rfl⟩;rw[←hm]at la lb;have h1:=g_ s a ha om;have h2:=g_ t b hb om;have l1:=qW (s:=s) ha la;have l2:=qW (s:=t) hb lb;generalize zv s a=x at*
 generalize zv t b=y at*
 have d1:=dS l1;have d2:=dS l2;have h3:=(LW (dg B x.natAbs) (dg B y.natAbs) (bF _) (bF _) om om).frozen;rw[dE,dE]at h3;have pP:x.natAbs*y.natAbs<B^(m+m):=by rw[Nat.pow_add];exact Nat.mul_lt_mul_of_lt_of_lt l1 l2
 have h4:=pO (!(decide (x<0)==decide (y<0))) pP om;rw[V9,kK,kK]at h4;refine jO dB eY Tryz.func26 a26 [.c 4 true 2] ?_;unfold a26;simp only[ak,aH,qm,qr,qn];exact yO (ai @aW @jV)
end
section
open Go Go.RowKit Ab
def mZ:=an @Bool.false_and (an @wi (an @bI (an @Nat.div_one (an @Nat.mul_one (an @aU (an @gU (an @gQ (an @fK (an @dD @xA)))))))))
theorem Rt{x y:Int}{m:Nat}(hx:x.natAbs<B^m)(hy:y.natAbs<B^m)(hm:m≤100000000):aF Tryz.prog J0 24 [zN x,zN y] (zN (x+y)):=by
 have:=tZ (decide (x<0)) (decide (y<0)) (dg B x.natAbs) (dg B y.natAbs) (bF _) (bF _) (Nat.le_trans (dS hx) hm) (Nat.le_trans (dS hy) hm);rwa[kW,kW]at this
theorem Ib{x y:Int}{m:Nat}(hx:x.natAbs<B^m)(hy:y.natAbs<B^m)(hm:m≤100000000):aF Tryz.prog J0 25 [zN x,zN y] (zN (x-y)):=by
 have:=zU (decide (x<0)) (decide (y<0)) (dg B x.natAbs) (dg B y.natAbs) (bF _) (bF _) (Nat.le_trans (dS hx) hm) (Nat.le_trans (dS hy) hm);rwa[kW,kW]at this
theorem Wh{z:Int}{m:Nat}(hz:z.natAbs<B^m)(hm:m≤1000000000):aF Tryz.prog J0 59 [zN z] (.i .i64 (jy z)):=by
 have:=qY (decide (z<0)) (dg B z.natAbs) (bF _) (Nat.le_trans (dS hz) hm);rwa[kW]at this
theorem Wi{z:Int}:(jy z<0)=(z<0):=by
 unfold jy;split
 ·rename_i h;exact propext ⟨fun _=>h,fun _=>dc⟩
 ·rename_i h;split<;>exact propext ⟨fun h'=>absurd h' dc,fun h'=>absurd h' h⟩
def a31:AC:= .seq (.reg [qr 2 (.bx 25 (.t 0)),qr 3 (.bx 25 (.t 1)),qr 4 (.al 25 [(.b false),(.l 1 [])]),qr 5 (.al 25 [(.b false),(.l 1 [])]),qr 6 (.mv (.k (.i .i64 0)))]) (.seq (.gp [qr 10 (.ld true 2 (.t 2)),qr 11 (.call 6 [(1,(.t 10))]),qr 12 (.ld true 2 (.t 3)),qr 13 (.call 6 [(1,(.t 12))]),qn (.st 2 (.t 2) (.t 11)),qn (.st 2 (.t 3) (.t 13))]) (.seq (.reg [qr 15 (.dQ 1 (.t 2)),qr 16 (.ld false 1 (.t 15)),qr 17 (.dQ 1 (.t 3)),qr 18 (.ld false 1 (.t 17)),qr 19 (.call 60 [(1,(.t 16)),(1,(.t 18))]),qm 14 19,qr 20 (.ext (.t 14) 0),qr 21 (.ext (.t 14) 1),qr 22 (.ext (.t 14) 2),qm 7 20,qm 8 21,qm 9 22]) (.seq (.seq (.reg [qm 23 9,qr 24 (.bin .neq (.t 23) (.k (.i .i64 0)))]) (.cond (.t 24) (.seq (.reg [qr 25 (.sO [(.b false),(.l 1 [])] []),qr 26 (.sO [(.b false),(.l 1 [])] []),qn (.st 2 (.t 4) (.t 25)),qn (.st 2 (.t 5) (.t 26)),qr 6 (.mv (.k (.i .i64 1)))]) (.ret)) (.skip))) (.seq (.gp [qr 27 (.dQ 0 (.t 2)),qr 28 (.ld false 1 (.t 27)),qr 29 (.dQ 0 (.t 3)),qr 30 (.ld false 1 (.t 29)),qr 31 (.BM true (.t 28) (.t 30)),qm 32 7,qr 33 (.call 36 [(1,(.t 31)),(1,(.t 32))]),qr 34 (.dQ 0 (.t 2)),qr 35 (.ld false 1 (.t 34)),qm 36 8,qr 37 (.call 36 [(1,(.t 35)),(1,(.t 36))]),qn (.st 2 (.t 4) (.t 33)),qn (.st 2 (.t 5) (.t 37)),qr 6 (.mv (.k (.i .i64 0)))]) (.ret)))))
theorem t_(s t:Bool)(a b:List Nat)(ha:Wd a)(hb:Wd b)(la:a.length≤100000000)(lb:b.length≤100000000):
 aF Tryz.prog J0 31 [zL s a,zL t b] (.t [zN (zq (zv s a) (zv t b)),zN (zr (zv s a) (zv t b)),.i .i64 (ze (zv t b))]):=by
 obtain⟨m,hm⟩:∃m,m=100000000:=⟨_,rfl⟩
 rw[←hm]at la lb
 have h1:=g_ s a ha om
 have h2:=g_ t b hb om
 have l1:=qW (s:=s) ha la
 have l2:=qW (s:=t) hb lb
 generalize zv s a=x at*
 generalize zv t b=y at*
 have d1:=dS l1
 have d2:=dS l2
 have hq:=Bj (dg B x.natAbs) (dg B y.natAbs) (bF _) (bF _) om om
 rw[dE,dE]at hq
 by_cases h0:y=0
 ·subst h0;rw[show(0:Int).natAbs=0 from rfl,Qq,Qr,Qs]at hq;rw[We,V_,show ze 0=1 from rfl];refine jO dB eY Tryz.func31 a31 [.c 4 true 2,.c 5 true 2,.t 6] ?_;unfold a31;simp only[ak,aH,qm,qr,qn];exact yO (ai @Ro (ai @aW @mZ))
 ·have hp:0<y.natAbs:=om;rw[EO h0,EP h0];rw[Hf hp,LH hp,qQ]at hq;have h3:=pO (!(decide (x<0)==decide (y<0))) (Nat.lt_of_le_of_lt (Nat.div_le_self x.natAbs y.natAbs) l1) om;have h4:=pO (decide (x<0)) (Nat.lt_of_le_of_lt (Nat.mod_le x.natAbs y.natAbs) l1) om;rw[Jy,kK,kK]at h3;rw[Jz (decide (x<0)) (decide (y<0)),kK,kK]at h4;refine jO dB eY Tryz.func31 a31 [.c 4 true 2,.c 5 true 2,.t 6] ?_;unfold a31;simp only[ak,aH,qm,qr,qn];repeat first|(refine hK _ ?_;clear hK K)|simp only[Sv,↓reduceIte,Nat.reduceEqDiff]|((first|refine aI (fun K hK=>?_)|refine aT (fun K hK=>?_)|refine aK (fun K hK=>?_)|refine oh ?_|refine kC (by assumption) ?_|refine oz ?_|(apply kD;assumption)|(apply kz;assumption));simp(disch:=(first|omega|assumption)) only[S1,↓reduceIte,Nat.reduceEqDiff,Nat.reduceAdd,Nat.reduceMul,Nat.reduceDiv,bY.sb,bY.mut,dH,↓Bool.false_eq_true,beq_self_eq_true,ite_self,Nat.reduceLeDiff,Int.reduceEq,Int.reduceSub,Int.reduceAdd,Int.reduceNeg,Int.reduceLT,Int.reduceLE,Nat.reduceLT,mZ,List.length_nil,zq])
  simp(disch:=(first|omega|assumption)) only[uI,kN,jE,wY,wZ,qF,w_,xe,kP,qG,qH,jF,iO,fO,iD,iK,ku,gG,V.aV,and_true,true_and,S1,↓reduceIte,Nat.reduceEqDiff,Nat.reduceAdd,Nat.reduceMul,Nat.reduceDiv,bY.sb,bY.mut,dH,↓Bool.false_eq_true,beq_self_eq_true,ite_self,Nat.reduceLeDiff,Int.reduceEq,Int.reduceSub,Int.reduceAdd,Int.reduceNeg,Int.reduceLT,Int.reduceLE,Nat.reduceLT,mZ,List.length_nil,zq]
def a32:AC:= .seq (.reg [qr 2 (.bx 25 (.t 0)),qr 3 (.bx 25 (.t 1)),qr 4 (.al 25 [(.b false),(.l 1 [])]),qr 5 (.mv (.k (.i .i64 0)))]) (.seq (.reg [qr 10 (.ld true 2 (.t 2)),qr 11 (.ld true 2 (.t 3)),qr 12 (.call 31 [(1,(.t 10)),(1,(.t 11))]),qm 9 12,qr 13 (.ext (.t 9) 0),qr 14 (.ext (.t 9) 1),qr 15 (.ext (.t 9) 2),qr 6 (.al 25 [(.b false),(.l 1 [])]),qr 7 (.al 25 [(.b false),(.l 1 [])]),qn (.st 2 (.t 6) (.t 13)),qn (.st 2 (.t 7) (.t 14)),qm 8 15]) (.seq (.seq (.reg [qm 16 8,qr 17 (.bin .neq (.t 16) (.k (.i .i64 0)))]) (.cond (.t 17) (.seq (.reg [qr 18 (.sO [(.b false),(.l 1 [])] []),qm 19 8,qn (.st 2 (.t 4) (.t 18)),qm 5 19]) (.ret)) (.skip))) (.seq (.seq (.gp [qr 20 (.ld true 2 (.t 7)),qr 21 (.call 59 [(1,(.t 20))]),qr 22 (.ld true 2 (.t 3)),qr 23 (.call 59 [(1,(.t 22))]),qr 24 (.bin .mul (.t 21) (.t 23)),qr 25 (.bin .lss (.t 24) (.k (.i .i64 0)))]) (.cond (.t 25) (.gp [qr 26 (.ld true 2 (.t 6)),qr 27 (.call 12 [(1,(.k (.i .i64 1)))]),qr 28 (.call 25 [(1,(.t 26)),(1,(.t 27))]),qn (.st 2 (.t 6) (.t 28))]) (.skip))) (.seq (.reg [qr 29 (.ld true 2 (.t 6)),qn (.st 2 (.t 4) (.t 29)),qr 5 (.mv (.k (.i .i64 0)))]) (.ret)))))
theorem ER(x y:Int)(h:y≠0):x.fdiv y=if jy (x.tmod y)*jy y<0 then x.tdiv y-1 else x.tdiv y:=by
 rw[xY x y h];have sn:∀z:Int,z<0→jy z= -1:=fun z h=>if_pos h
 have sp:∀z:Int,0<z→jy z=1:=fun z h=>(if_neg om).trans (if_pos h)
 by_cases h1:x.tmod y=0
 ·rw[if_neg (fun h=>h.1 h1),h1,if_neg (by show¬jy 0*_<0;rw[show jy 0=0 from rfl,Int.zero_mul];decide)]
 ·have hx:jy (x.tmod y)=jy x:=by
   rcases Int.lt_or_gt_of_ne h1 with h2|h2
   ·have:x<0:=by
     rcases Int.lt_or_le x 0 with h3|h3
     ·exact h3
     ·have:=Int.tmod_nonneg y h3;omega
    rw[sn _ h2,sn _ this]
   ·have:0<x:=by
     rcases Int.lt_or_le 0 x with h3|h3
     ·exact h3
     ·have h4:(-x).tmod y= -(x.tmod y):=Int.neg_tmod x y;have:=Int.tmod_nonneg y (show 0≤ -x by omega);omega
    rw[sp _ h2,sp _ this]
  have hx0:x≠0:=fun h0=>h1 (by rw[h0,Int.zero_tmod])
  rw[hx];rcases Int.lt_or_gt_of_ne h with hy|hy<;>rcases Int.lt_or_gt_of_ne hx0 with h3|h3
  ·rw[sn x h3,sn y hy,if_neg (fun h=>h.2 rfl),if_neg dc]
  ·rw[sp x h3,sn y hy,if_pos ⟨h1,dc⟩,if_pos dc]
  ·rw[sn x h3,sp y hy,if_pos ⟨h1,dc⟩,if_pos dc]
  ·rw[sp x h3,sp y hy,if_neg (fun h=>h.2 rfl),if_neg dc]
theorem C_(s t:Bool)(a b:List Nat)(m:Nat)(hm:m≤10000000)(ha:Wd a)(hb:Wd b)(la:a.length≤m)(lb:b.length≤m):
 aF Tryz.prog J0 32 [zL s a,zL t b] (.t [zN ((zv s a).fdiv (zv t b)),.i .i64 (ze (zv t b))]):=by
 have hq:=t_ s t a b ha hb om om
 have hl:=qW (s:=s) ha la
 have hl1:=Nat.lt_of_le_of_lt (zO (zv s a) (zv t b)) hl
 have hl2:=Nat.lt_of_le_of_lt (zQ (zv s a) (zv t b)) hl
 have FB:=Wh hl2 om
 have hsb:=qY t b hb om
 have hone:=jH 1 dc dc
 have hsu:=Ib (Rq hl1) (H8 m) om
 generalize zv s a=x at*
 generalize zv t b=y at*
 by_cases h0:y=0
 ·subst h0;rw[We,V_,show ze 0=1 from rfl]at hq;rw[Int.fdiv_zero,show ze 0=1 from rfl];refine jO dB eY Tryz.func32 a32 [.c 4 true 2,.t 5] ?_;unfold a32;simp only[ak,aH,qm,qr,qn];exact yO (ai @Ro (ai @aW @mZ))
 ·rw[ER x y h0,EP h0];rw[EP h0,EO h0]at hq;rw[EO h0]at FB;have hw:=Rk (Jw (x.tmod y)) (Jw y);generalize jy (x.tmod y)=u at*
  generalize jy y=v at*
  by_cases h2:u*v<0
  ·rw[if_pos h2];refine jO dB eY Tryz.func32 a32 [.c 4 true 2,.t 5] ?_;unfold a32;simp only[ak,aH,qm,qr,qn];repeat first|(refine hK _ ?_;clear hK K)|simp only[Sv,↓reduceIte,Nat.reduceEqDiff]|((first|refine aI (fun K hK=>?_)|refine aT (fun K hK=>?_)|refine aK (fun K hK=>?_)|refine oh ?_|refine kC (by assumption) ?_|refine oz ?_|(apply kD;assumption)|(apply kz;assumption));simp(disch:=(first|omega|assumption)) only[S1,↓reduceIte,Nat.reduceEqDiff,Nat.reduceAdd,Nat.reduceMul,Nat.reduceDiv,bY.sb,bY.mut,dH,↓Bool.false_eq_true,beq_self_eq_true,ite_self,Nat.reduceLeDiff,Int.reduceEq,Int.reduceSub,Int.reduceAdd,Int.reduceNeg,Int.reduceLT,Int.reduceLE,Nat.reduceLT,mZ,List.length_nil,hw,h2,zq])
   simp(disch:=(first|omega|assumption)) only[uI,kN,jE,wY,wZ,qF,w_,xe,kP,qG,qH,jF,iO,fO,iD,iK,ku,gG,V.aV,and_true,true_and,S1,↓reduceIte,Nat.reduceEqDiff,Nat.reduceAdd,Nat.reduceMul,Nat.reduceDiv,bY.sb,bY.mut,dH,↓Bool.false_eq_true,beq_self_eq_true,ite_self,Nat.reduceLeDiff,Int.reduceEq,Int.reduceSub,Int.reduceAdd,Int.reduceNeg,Int.reduceLT,Int.reduceLE,Nat.reduceLT,mZ,List.length_nil,hw,h2,zq]
  ·rw[if_neg h2];refine jO dB eY Tryz.func32 a32 [.c 4 true 2,.t 5] ?_;unfold a32;simp only[ak,aH,qm,qr,qn];repeat first|(refine hK _ ?_;clear hK K)|simp only[Sv,↓reduceIte,Nat.reduceEqDiff]|((first|refine aI (fun K hK=>?_)|refine aT (fun K hK=>?_)|refine aK (fun K hK=>?_)|refine oh ?_|refine kC (by assumption) ?_|refine oz ?_|(apply kD;assumption)|(apply kz;assumption));simp(disch:=(first|omega|assumption)) only[S1,↓reduceIte,Nat.reduceEqDiff,Nat.reduceAdd,Nat.reduceMul,Nat.reduceDiv,bY.sb,bY.mut,dH,↓Bool.false_eq_true,beq_self_eq_true,ite_self,Nat.reduceLeDiff,Int.reduceEq,Int.reduceSub,Int.reduceAdd,Int.reduceNeg,Int.reduceLT,Int.reduceLE,Nat.reduceLT,mZ,List.length_nil,hw,h2,zq])
   simp(disch:=(first|omega|assumption)) only[uI,kN,jE,wY,wZ,qF,w_,xe,kP,qG,qH,jF,iO,fO,iD,iK,ku,gG,V.aV,and_true,true_and,S1,↓reduceIte,Nat.reduceEqDiff,Nat.reduceAdd,Nat.reduceMul,Nat.reduceDiv,bY.sb,bY.mut,dH,↓Bool.false_eq_true,beq_self_eq_true,ite_self,Nat.reduceLeDiff,Int.reduceEq,Int.reduceSub,Int.reduceAdd,Int.reduceNeg,Int.reduceLT,Int.reduceLE,Nat.reduceLT,mZ,List.length_nil,hw,h2,zq]
theorem JC(x y:Int)(h:y≠0):(x.tmod y<0→x.ediv y=x.tdiv y-jy y∧x.emod y=x.tmod y+y.natAbs)∧(¬x.tmod y<0→x.ediv y=x.tdiv y∧x.emod y=x.tmod y):=by
 have sg1:y.sign=jy y:=by
  rcases Int.lt_or_gt_of_ne h with hy|hy
  ·rw[Int.sign_eq_neg_one_of_neg hy];exact(if_pos hy).symm
  ·rw[Int.sign_eq_one_of_pos hy];exact((if_neg om).trans (if_pos hy)).symm
 refine⟨fun hn=>?_,fun hn=>?_⟩
 ·have hx:¬(0≤x∨y∣x):=by
   rintro(h1|h1)
   ·have:=Int.tmod_nonneg y h1;omega
   ·rw[Int.tmod_eq_zero_of_dvd h1]at hn;omega
  refine⟨?_,?_⟩
  ·show x/y=_;rw[Int.ediv_eq_tdiv,if_neg hx,sg1]
  ·show x%y=_;rw[Int.emod_eq_tmod,if_neg hx]
 ·have hx:0≤x∨y∣x:=by
   rcases Int.lt_or_le x 0 with h1|h1
   ·right;have h2:(-x).tmod y= -(x.tmod y):=Int.neg_tmod x y;have:=Int.tmod_nonneg y (show 0≤ -x by omega);exact Int.dvd_of_tmod_eq_zero om
   ·exact .inl h1
  refine⟨?_,?_⟩
  ·show x/y=_;rw[Int.ediv_eq_tdiv,if_pos hx,Int.sub_zero]
  ·show x%y=_;rw[Int.emod_eq_tmod,if_pos hx];simp
def FC(x y:Int):Nat:=if y=0 then 0 else(x.emod y).natAbs
def a30:AC:= .seq (.reg [qr 2 (.bx 25 (.t 0)),qr 3 (.bx 25 (.t 1)),qr 4 (.al 25 [(.b false),(.l 1 [])]),qr 5 (.mv (.k .nl)),qr 6 (.mv (.k (.i .i64 0)))]) (.seq (.reg [qr 11 (.ld true 2 (.t 2)),qr 12 (.ld true 2 (.t 3)),qr 13 (.call 31 [(1,(.t 11)),(1,(.t 12))]),qm 10 13,qr 14 (.ext (.t 10) 0),qr 15 (.ext (.t 10) 1),qr 16 (.ext (.t 10) 2),qr 7 (.al 25 [(.b false),(.l 1 [])]),qr 8 (.al 25 [(.b false),(.l 1 [])]),qn (.st 2 (.t 7) (.t 14)),qn (.st 2 (.t 8) (.t 15)),qm 9 16]) (.seq (.seq (.reg [qm 17 9,qr 18 (.bin .neq (.t 17) (.k (.i .i64 0)))]) (.cond (.t 18) (.seq (.reg [qr 19 (.sO [(.b false),(.l 1 [])] []),qm 20 9,qn (.st 2 (.t 4) (.t 19)),qr 5 (.mv (.k .nl)),qm 6 20]) (.ret)) (.skip))) (.seq (.seq (.reg [qr 21 (.dQ 0 (.t 8)),qr 22 (.ld false 1 (.t 21))]) (.cond (.t 22) (.seq (.reg [qr 23 (.ld true 2 (.t 3)),qr 24 (.call 59 [(1,(.t 23))]),qr 25 (.bin .lss (.t 24) (.k (.i .i64 0)))]) (.cond (.t 25) (.gp [qr 26 (.ld true 2 (.t 7)),qr 27 (.call 12 [(1,(.k (.i .i64 1)))]),qr 28 (.call 24 [(1,(.t 26)),(1,(.t 27))]),qr 29 (.ld true 2 (.t 8)),qr 30 (.ld true 2 (.t 3)),qr 31 (.call 25 [(1,(.t 29)),(1,(.t 30))]),qn (.st 2 (.t 7) (.t 28)),qn (.st 2 (.t 8) (.t 31))]) (.gp [qr 32 (.ld true 2 (.t 7)),qr 33 (.call 12 [(1,(.k (.i .i64 1)))]),qr 34 (.call 25 [(1,(.t 32)),(1,(.t 33))]),qr 35 (.ld true 2 (.t 8)),qr 36 (.ld true 2 (.t 3)),qr 37 (.call 24 [(1,(.t 35)),(1,(.t 36))]),qn (.st 2 (.t 7) (.t 34)),qn (.st 2 (.t 8) (.t 37))]))) (.skip))) (.seq (.sG [(39,4),(39,38)] [qr 38 (.ld true 2 (.t 7)),qr 39 (.dQ 1 (.t 8)),qr 40 (.ld false 1 (.t 39)),qn (.st 2 (.t 4) (.t 38)),qm 5 40,qr 6 (.mv (.k (.i .i64 0)))]) (.ret)))))
theorem Ic(s t:Bool)(a b:List Nat)(m:Nat)(hm:m≤10000000)(ha:Wd a)(hb:Wd b)(la:a.length≤m)(lb:b.length≤m):
 aF Tryz.prog J0 30 [zL s a,zL t b] (.t [zN ((zv s a).ediv (zv t b)),.l 1 (W (dg B (FC (zv s a) (zv t b)))),.i .i64 (ze (zv t b))]):=by
 have hq:=t_ s t a b ha hb om om
 have hl:=qW (s:=s) ha la
 have hlb:=qW (s:=t) hb lb
 have hl1:=Nat.lt_of_le_of_lt (zO (zv s a) (zv t b)) hl
 have hl2:=Nat.lt_of_le_of_lt (zQ (zv s a) (zv t b)) hl
 have hsb:=qY t b hb om
 have ho1:=jH 1 dc dc
 have had0:=tZ (decide (zr (zv s a) (zv t b)<0)) t (dg B (zr (zv s a) (zv t b)).natAbs) b (bF _) hb (Nat.le_trans (dS hl2) om) om
 have hsu0:=zU (decide (zr (zv s a) (zv t b)<0)) t (dg B (zr (zv s a) (zv t b)).natAbs) b (bF _) hb (Nat.le_trans (dS hl2) om) om
 rw[kW]at had0 hsu0
 generalize zv s a=x at*
 generalize zv t b=y at*
 by_cases h0:y=0
 ·subst h0;rw[We,V_,show ze 0=1 from rfl]at hq;rw[show x.ediv 0=0 from Int.ediv_zero x,show FC x 0=0 from rfl,iq,show ze 0=1 from rfl];refine jO dB eY Tryz.func30 a30 [.c 4 true 2,.t 5,.t 6] ?_;unfold a30;simp only[ak,aH,qm,qr,qn];exact yO (ai @Ro (ai @aW @mZ))
 ·obtain⟨e1,e2⟩:=JC x y h0;rw[EP h0,EO h0]at hq;rw[EO h0]at had0 hsu0;rw[EP h0,show FC x y=(x.emod y).natAbs from if_neg h0];by_cases h1:x.tmod y<0
  ·obtain⟨e3,e4⟩:=e1 h1;rw[e3,e4];have hb1:decide (x.tmod y<0)=true:=decide_eq_true h1;rw[hb1]at had0 hsu0;by_cases h2:y<0
   ·have hs:jy y= -1:=if_pos h2;have hsu:=Rt (y:=1) (Rq hl1) (H8 m) om;rw[hs]at hsb ⊢;rw[show x.tdiv y- -1=x.tdiv y+1 from om,show x.tmod y+(y.natAbs:Int)=x.tmod y-y from om];refine jO dB eY Tryz.func30 a30 [.c 4 true 2,.t 5,.t 6] ?_;unfold a30;simp only[ak,aH,qm,qr,qn];repeat first|(refine hK _ ?_;clear hK K)|simp only[Sv,↓reduceIte,Nat.reduceEqDiff]|((first|refine aI (fun K hK=>?_)|refine aT (fun K hK=>?_)|refine aK (fun K hK=>?_)|refine oh ?_|refine kC (by assumption) ?_|refine oz ?_|(apply kD;assumption)|(apply kz;assumption));simp(disch:=(first|omega|assumption)) only[S1,↓reduceIte,Nat.reduceEqDiff,Nat.reduceAdd,Nat.reduceMul,Nat.reduceDiv,bY.sb,bY.mut,dH,↓Bool.false_eq_true,beq_self_eq_true,ite_self,Nat.reduceLeDiff,Int.reduceEq,Int.reduceSub,Int.reduceAdd,Int.reduceNeg,Int.reduceLT,Int.reduceLE,Nat.reduceLT,mZ,List.length_nil,hb1,zq])
    simp(disch:=(first|omega|assumption)) only[uI,kN,jE,wY,wZ,qF,w_,xe,kP,qG,qH,jF,iO,fO,iD,iK,ku,gG,V.aV,and_true,true_and,S1,↓reduceIte,Nat.reduceEqDiff,Nat.reduceAdd,Nat.reduceMul,Nat.reduceDiv,bY.sb,bY.mut,dH,↓Bool.false_eq_true,beq_self_eq_true,ite_self,Nat.reduceLeDiff,Int.reduceEq,Int.reduceSub,Int.reduceAdd,Int.reduceNeg,Int.reduceLT,Int.reduceLE,Nat.reduceLT,mZ,List.length_nil,hb1,zq]
   ·have hs:jy y=1:=(if_neg h2).trans (if_pos om);have hsu:=Ib (y:=1) (Rq hl1) (H8 m) om;rw[hs]at hsb ⊢;rw[show x.tmod y+(y.natAbs:Int)=x.tmod y+y from om];refine jO dB eY Tryz.func30 a30 [.c 4 true 2,.t 5,.t 6] ?_;unfold a30;simp only[ak,aH,qm,qr,qn];repeat first|(refine hK _ ?_;clear hK K)|simp only[Sv,↓reduceIte,Nat.reduceEqDiff]|((first|refine aI (fun K hK=>?_)|refine aT (fun K hK=>?_)|refine aK (fun K hK=>?_)|refine oh ?_|refine kC (by assumption) ?_|refine oz ?_|(apply kD;assumption)|(apply kz;assumption));simp(disch:=(first|omega|assumption)) only[S1,↓reduceIte,Nat.reduceEqDiff,Nat.reduceAdd,Nat.reduceMul,Nat.reduceDiv,bY.sb,bY.mut,dH,↓Bool.false_eq_true,beq_self_eq_true,ite_self,Nat.reduceLeDiff,Int.reduceEq,Int.reduceSub,Int.reduceAdd,Int.reduceNeg,Int.reduceLT,Int.reduceLE,Nat.reduceLT,mZ,List.length_nil,hb1,zq])
    simp(disch:=(first|omega|assumption)) only[uI,kN,jE,wY,wZ,qF,w_,xe,kP,qG,qH,jF,iO,fO,iD,iK,ku,gG,V.aV,and_true,true_and,S1,↓reduceIte,Nat.reduceEqDiff,Nat.reduceAdd,Nat.reduceMul,Nat.reduceDiv,bY.sb,bY.mut,dH,↓Bool.false_eq_true,beq_self_eq_true,ite_self,Nat.reduceLeDiff,Int.reduceEq,Int.reduceSub,Int.reduceAdd,Int.reduceNeg,Int.reduceLT,Int.reduceLE,Nat.reduceLT,mZ,List.length_nil,hb1,zq]
  ·obtain⟨e3,e4⟩:=e2 h1;rw[e3,e4];have hb1:decide (x.tmod y<0)=false:=decide_eq_false h1;refine jO dB eY Tryz.func30 a30 [.c 4 true 2,.t 5,.t 6] ?_;unfold a30;simp only[ak,aH,qm,qr,qn];repeat first|(refine hK _ ?_;clear hK K)|simp only[Sv,↓reduceIte,Nat.reduceEqDiff]|((first|refine aI (fun K hK=>?_)|refine aT (fun K hK=>?_)|refine aK (fun K hK=>?_)|refine oh ?_|refine kC (by assumption) ?_|refine oz ?_|(apply kD;assumption)|(apply kz;assumption));simp(disch:=(first|omega|assumption)) only[S1,↓reduceIte,Nat.reduceEqDiff,Nat.reduceAdd,Nat.reduceMul,Nat.reduceDiv,bY.sb,bY.mut,dH,↓Bool.false_eq_true,beq_self_eq_true,ite_self,Nat.reduceLeDiff,Int.reduceEq,Int.reduceSub,Int.reduceAdd,Int.reduceNeg,Int.reduceLT,Int.reduceLE,Nat.reduceLT,mZ,List.length_nil,hb1,zq])
   simp(disch:=(first|omega|assumption)) only[uI,kN,jE,wY,wZ,qF,w_,xe,kP,qG,qH,jF,iO,fO,iD,iK,ku,gG,V.aV,and_true,true_and,S1,↓reduceIte,Nat.reduceEqDiff,Nat.reduceAdd,Nat.reduceMul,Nat.reduceDiv,bY.sb,bY.mut,dH,↓Bool.false_eq_true,beq_self_eq_true,ite_self,Nat.reduceLeDiff,Int.reduceEq,Int.reduceSub,Int.reduceAdd,Int.reduceNeg,Int.reduceLT,Int.reduceLE,Nat.reduceLT,mZ,List.length_nil,hb1,zq]
end
section
open Go
def ct(v:Nat):Nat:=if h:v=0 then 0 else if v%2=1 then 0 else ct (v/2)+1
termination_by v
decreasing_by omega
theorem ct_0:ct 0=0:=by unfold ct;rfl
theorem XF(k m:Nat):ct (2^k*(2*m+1))=k:=by
 induction k with
 |zero=>unfold ct;rw[dif_neg sy,if_pos sy]
 |succ k ih=>
  have h0:2^(k+1)*(2*m+1)=2*(2^k*(2*m+1)):=by rw[Nat.pow_succ,Nat.mul_comm (2^k) 2,Nat.mul_assoc]
  have hp:0<2^k*(2*m+1):=Nat.mul_pos (Nat.pow_pos dc) om;unfold ct;rw[h0,dif_neg om,if_neg om,Nat.mul_div_cancel_left _ dc,ih]
theorem ES{v:Nat}(h:v≠0):∃m,v=2^ct v*(2*m+1):=by
 induction v using Nat.strongRecOn with
 |_ v ih=>
  by_cases h1:v%2=1
  ·refine⟨v/2,?_⟩;have:ct v=0:=by unfold ct;rw[dif_neg h,if_pos h1]
   rw[this,Nat.pow_zero,Nat.one_mul];omega
  ·obtain⟨m,hm⟩:=ih (v/2) om om;refine⟨m,?_⟩;have:ct v=ct (v/2)+1:=by rw[ct];rw[dif_neg h,if_neg h1]
   rw[this,Nat.pow_succ,Nat.mul_comm (2^ct (v/2)) 2,Nat.mul_assoc,←hm];omega
theorem JD{v n:Nat}(h:v<2^n)(h0:v≠0):ct v<n:=by
 obtain⟨m,hm⟩:=ES h0;rcases Nat.lt_or_ge (ct v) n with h1|h1
 ·exact h1
 ·have h2:=Nat.pow_le_pow_right (show 0<2 by decide) h1;have h3:2^ct v*1≤2^ct v*(2*m+1):=Nat.mul_le_mul_left _ om;omega
theorem ct_add{w u n:Nat}(h0:w≠0)(hw:w<2^n):ct (w+2^n*u)=ct w:=by
 obtain⟨m,hm⟩:=ES h0;have hl:=JD hw h0;generalize ct w=k at*
 have:w+2^n*u=2^k*(2*(m+2^(n-k-1)*u)+1):=by
  have e:2^n=2^k*(2*2^(n-k-1)):=by rw[←Nat.pow_succ',←Nat.pow_add];congr 1;omega
  rw[hm,e,Nat.mul_assoc,←Nat.mul_add];congr 1;rw[Nat.mul_add,Nat.mul_assoc];omega
 rw[this,XF]
theorem Ru{v n:Nat}(h0:v≠0):ct (2^n*v)=n+ct v:=by
 obtain⟨m,hm⟩:=ES h0;generalize ct v=k at*
 rw[hm,←Nat.mul_assoc,←Nat.pow_add,XF]
theorem Wj{x:Nat}(h0:x≠0)(h:x<18446744073709551616):x&&&(18446744073709551616-x)=2^ct x:=by
 obtain⟨m,hm⟩:=ES h0;have hl:=JD (n:=64) h h0;generalize ct x=k at*
 have hp:0<2^k:=Nat.pow_pos dc;have e:18446744073709551616=2^k*(2*2^(63-k)):=by rw[←Nat.pow_succ',←Nat.pow_add,show k+(63-k).succ=64 from om]
 have Ue:m<2^(63-k):=by
  rw[hm,e]at h;have:=Nat.lt_of_mul_lt_mul_left h;omega
 have e2:18446744073709551616-x=2^k*(2*(2^(63-k)-(m+1))+1):=by
  rw[e,hm,←Nat.mul_sub];congr 1;omega
 rw[e2,hm,Nat.mul_comm (2^k) (2*m+1),Nat.mul_comm (2^k) (2*(2^(63-k)-(m+1))+1),←Nat.shiftLeft_eq,←Nat.shiftLeft_eq,←Nat.shiftLeft_and_distrib];have:(2*m+1)&&&(2*(2^(63-k)-(m+1))+1)=1:=by
  apply Nat.eq_of_testBit_eq;intro i;rw[Nat.testBit_and];cases i with
  |zero=>simp
  |succ i=>
   rw[Nat.testBit_succ,Nat.testBit_succ,Nat.testBit_succ,show(2*m+1)/2=m from om,show(2*(2^(63-k)-(m+1))+1)/2=2^(63-k)-(m+1)from om,Nat.testBit_two_pow_sub_succ Ue];cases m.testBit i<;>simp
 rw[this,Nat.one_shiftLeft]
end
section
open Go Go.RowKit Ab
def Rw:=an @wi (an @bI (an @Nat.div_one (an @Nat.mul_one (an @aU (an @gU (an @gQ (an @fK @dD)))))))
theorem bl_dvd{a:List Nat}(ha:Wd a)(h0:0<(tz a).length):((((tz a).length:Nat):Int)-1)*64+((bl (a.getD ((tz a).length-1) 0):Nat):Int)=((bl (nv B a):Nat):Int):=by
 have hne:tz a≠[]:=fun h=>by rw[h]at h0;simp at h0
 have ht:=yT (b:=B) (Ed a) hne;rw[uK]at ht;have hl:=b_ (qI ha);rw[uK]at hl;obtain⟨t,hT⟩:∃t,(tz a).length=t+1:=⟨(tz a).length-1,om⟩;rw[hT]at ht hl ⊢;rw[Nat.add_sub_cancel]at ht ⊢;have hd:=iQ (b:=B) dc ha t;rw[Nat.mod_eq_of_lt ((Nat.div_lt_iff_lt_mul (Nat.pow_pos dc)).2 (by rw[←Nat.pow_succ'];exact hl))]at hd;have hp:B^t=2^(64*t):=by rw[Xj,←Nat.pow_mul]
 have:=Cj (x:=nv B a) (n:=64*t) (by rw[←hp];exact ht);rw[hd,this,←hp];omega
def a102:AC:= .seq (.reg [qr 2 (.mv (.k (.i .i64 0)))]) (.seq (.reg [qm 4 0,qr 5 (.call 101 [(1,(.t 4))]),qm 3 5]) (.seq (.seq (.reg [qm 6 3,qr 7 (.bin .eql (.t 6) (.k (.i .i64 0)))]) (.cond (.t 7) (.seq (.reg [qr 2 (.mv (.k (.i .i64 0)))]) (.ret)) (.skip))) (.seq (.reg [qm 8 3,qr 9 (.bin .sub (.t 8) (.k (.i .i64 1))),qr 10 (.bin .mul (.t 9) (.k (.i .i64 64))),qm 11 0,qm 12 3,qr 13 (.bin .sub (.t 12) (.k (.i .i64 1))),qr 14 (.idx 1 (.t 11) (.t 13)),qr 15 (.ld false 1 (.t 14)),qr 16 (.call 114 [(1,(.t 15))]),qr 17 (.bin .add (.t 10) (.t 16)),qm 2 17]) (.ret))))
theorem Ah(a:List Nat)(ha:Wd a)(la:a.length≤10000000000):aF Tryz.prog J0 102 [.l 1 (W a)] (.i .i64 ((bl (nv B a):Nat):Int)):=by
 have ht:=oG a om;have hl:=mF a;refine ja dB eY Tryz.func102 a102 ?_;unfold a102;simp only[ak,aH,qm,qr,qn];by_cases h0:(((tz a).length:Nat):Int)=0
 ·have e:bl (nv B a)=0:=by rw[←uK,List.eq_nil_of_length_eq_zero (by omega:(tz a).length=0)];rfl
  rw[e];exact tC (ai @h0 (ai @aW @Rw))
 ·have e:=bl_dvd ha om;have hb:=dI ha ((tz a).length-1);have h64:=pY hb;have hg:=zg (a.getD ((tz a).length-1) 0) hb;have hidx:((((tz a).length:Nat):Int)-1).toNat=(tz a).length-1:=om;exact tC (ai @e (ai @hidx (ai @h0 (ai @aW @Rw))))
def a75:AC:= .seq (.reg [qr 2 (.mv (.k (.i .i64 0)))]) (.seq (.reg [qm 3 0,qr 4 (.call 102 [(1,(.t 3))]),qm 2 4]) (.ret))
theorem Dc(a:List Nat)(ha:Wd a)(la:a.length≤10000000000):aF Tryz.prog J0 75 [.l 1 (W a)] (.i .i64 ((bl (nv B a):Nat):Int)):=by
 have h:=Ah a ha la;refine ja dB eY Tryz.func75 a75 ?_;unfold a75;simp only[ak,aH,qm,qr,qn];exact tC (ai @aW @Rw)
theorem bl_len{a:List Nat}(ha:Wd a):bl (nv B a)≤64*a.length:=by
 rcases Nat.eq_zero_or_pos (nv B a)with h|h
 ·rw[h];exact Nat.zero_le _
 ·obtain⟨h1,h2⟩:=Eg (x:=nv B a) om;have h3:=b_ ha;rw[Xj,←Nat.pow_mul]at h3;have:=(Nat.pow_lt_pow_iff_right (by decide:1<2)).1 (Nat.lt_of_le_of_lt h1 h3);omega
end
section
open Go Go.RowKit Ab
def bz_Z6:=an @Bool.false_and (an @Bool.true_and (an @wi (an @bI (an @Nat.div_one (an @Nat.mul_one (an @aU (an @gU (an @gQ (an @fK (an @dD @xA))))))))))
def a50:AC:= .seq (.reg [qr 1 (.bx 25 (.t 0)),qr 2 (.mv (.k (.i .i64 0)))]) (.seq (.reg [qr 3 (.dQ 1 (.t 1)),qr 4 (.ld false 1 (.t 3)),qr 5 (.call 75 [(1,(.t 4))]),qm 2 5]) (.ret))
theorem Ie(s:Bool)(a:List Nat)(ha:Wd a)(la:a.length≤1000000000):aF Tryz.prog J0 50 [zL s a] (.i .i64 ((bl (nv B a):Nat):Int)):=by
 have h:=Dc a ha om;refine ja dB eY Tryz.func50 a50 ?_;unfold a50;simp only[ak,aH,qm,qr,qn];exact tC (ai @aW @bz_Z6)
end
section
open Go Go.RowKit Ab
def gf(l:List (Bool×List Nat)):Nat:=l.foldl (fun g p=>Nat.gcd g (nv B p.2)) 0
theorem JE{l:List (Bool×List Nat)}{i:Nat}(h:i<l.length):gf (l.take (i+1))=Nat.gcd (gf (l.take i)) (nv B (l.getD i (false,[])).2):=by
 unfold gf;rw[List.take_succ_eq_append_getElem h,List.foldl_append,List.getD_eq_getElem?_getD,List.getElem?_eq_getElem h];rfl
theorem XG{l:List (Bool×List Nat)}{m:Nat}(h:∀p,p∈l→Wd p.2∧p.2.length≤m):gf l<B^m:=by
 have key:∀(l:List (Bool×List Nat)) (g:Nat),g<B^m→(∀p,p∈l→Wd p.2∧p.2.length≤m)→l.foldl (fun g p=>Nat.gcd g (nv B p.2)) g<B^m:=by
  intro l;induction l with
  |nil=>intro g hg _;exact hg
  |cons p r ih=>
   intro g hg hp;refine ih _ ?_ fun q hq=>hp q (List.mem_cons_of_mem _ hq)
   obtain⟨h1,h2⟩:=hp p List.mem_cons_self;rcases Nat.eq_zero_or_pos g with h0|h0
   ·show Nat.gcd g (nv B p.2)<B^m;rw[h0,Nat.gcd_zero_left];exact G8 h1 h2
   ·exact Nat.lt_of_le_of_lt (Nat.le_of_dvd h0 (Nat.gcd_dvd_left _ _)) hg
 exact key l 0 (Nat.pow_pos dc) h
def a22:AC:= .seq (.reg [qr 2 (.mv (.k .nl))]) (.seq (.reg [qr 6 (.nz 54 1 0 [] []),qm 3 6]) (.seq (.seq (.reg [qm 7 0,qr 8 (.len (.t 7)),qr 9 (.mv (.k (.i .i64 0)))]) (.blk 0 (.loop (.seq (.reg [qr 10 (.bin .lss (.t 9) (.t 8))]) (.seq (.cond (.t 10) (.skip) (.exit 0)) (.seq (.blk 1 (.seq (.reg [qr 11 (.idx 2 (.t 7) (.t 9)),qr 12 (.ld true 2 (.t 11)),qr 5 (.al 25 [(.b false),(.l 1 [])]),qn (.st 2 (.t 5) (.t 12))]) (.reg [qm 13 3,qr 14 (.dQ 1 (.t 5)),qr 15 (.ld false 1 (.t 14)),qr 16 (.call 55 [(1,(.t 13)),(1,(.t 15))]),qm 3 16]))) (.reg [qr 17 (.bin .add (.t 9) (.k (.i .i64 1))),qm 9 17]))))))) (.seq (.reg [qm 18 3,qm 2 18]) (.ret))))
end
section
open Go Go.RowKit Ab
def qZ:=an @Bool.false_and (an @wi (an @bI (an @Nat.div_one (an @Nat.mul_one (an @aU (an @gU (an @gQ (an @fK (an @dD @xA)))))))))
def gV:Bool→Nat→V
 |false,_=> .nl
 |true,g=> .l 1 (W (dg B g))
theorem Rx{s:St}{r:List (Nat×Nat)}{nx t:Nat}{f:Bool}{g:Nat}:Au s r nx t (gV f g)=(s.get t=gV f g):=by cases f<;>rfl
def a37:AC:= .seq (.reg [qr 2 (.mv (.k .nl))]) (.seq (.reg [qr 3 (.mv (.k .nl))]) (.seq (.seq (.reg [qr 4 (.mv (.k (.i .i64 0)))]) (.blk 0 (.loop (.seq (.seq (.reg [qm 8 4,qm 9 0,qr 10 (.len (.t 9)),qr 11 (.bin .lss (.t 8) (.t 10))]) (.cond (.t 11) (.skip) (.exit 0))) (.seq (.blk 1 (.seq (.reg [qm 14 0,qm 15 4,qr 16 (.idx 2 (.t 14) (.t 15)),qr 17 (.dQ 1 (.t 16)),qr 18 (.ld false 1 (.t 17)),qr 19 (.call 63 [(1,(.t 18))]),qm 5 19]) (.blk 2 (.loop (.seq (.seq (.reg [qm 20 5,qr 21 (.len (.t 20)),qr 22 (.bin .gtr (.t 21) (.k (.i .i64 0)))]) (.cond (.t 22) (.skip) (.exit 2))) (.blk 3 (.seq (.reg [qm 24 3,qm 25 5,qr 26 (.call 64 [(1,(.t 24)),(1,(.t 25))]),qm 23 26,qr 27 (.ext (.t 23) 0),qr 28 (.ext (.t 23) 1),qm 6 27,qm 7 28]) (.reg [qm 29 5,qm 30 6,qm 3 29,qm 5 30])))))))) (.reg [qm 12 4,qr 13 (.bin .add (.t 12) (.k (.i .i64 1))),qm 4 13])))))) (.seq (.reg [qm 31 3,qm 2 31]) (.ret))))
theorem Ig(l:List (Bool×List Nat))(m:Nat)(hm:m≤1000000000)(ll:l.length≤1000000000)(hl:∀p,p∈l→Wd p.2∧p.2.length≤m):
 aF Tryz.prog J0 37 [.l 2 (ZC l)] (.l 1 (W (dg B (gf l)))):=by
 have hlen:(ZC l).length/2=l.length:=by rw[H7];omega
 have hmo:=fun x y (hx:x<B^m) (hy:y<B^m)=>LJ (dg B x) (dg B y) (bF _) (bF _) (Nat.le_trans (dS hx) hm) (Nat.le_trans (dS hy) hm)
 simp only[dE]at hmo
 have e0:W (dg B 0)=[]:=by rw[iq];rfl
 refine ja dB eY Tryz.func37 a37 ?_
 unfold a37
 simp only[ak,aH,qm,qr,qn]
 refine aP (ai @aW @qZ) ?_
 refine bD [] (Nat×Bool) (fun s=>⟨[(0,.l 2 (ZC l)),(3,gV s.2 (gf (l.take s.1))),(4,.i .i64 (s.1:Int))],[],0⟩)
  (fun s=>s.1≤l.length∧(s.2=false→gf (l.take s.1)=0)) (fun s=>l.length-s.1) (0,false) ⟨Nat.zero_le _,fun _=>rfl⟩ (by exact ni) (by
  simp(disch:=(first|omega|assumption)) only[Sl,Sa,Sw,↓reduceIte,Nat.reduceEqDiff,Nat.reduceLT,List.all_nil,List.all_cons,Nat.reduceBneDiff,Nat.reduceAdd,bne_iff_ne,ne_eq,reduceCtorEq,not_false_eq_true,not_true_eq_false,Bool.and_true,Bool.true_and,and_true,true_and,and_self,iE,gV]
  try rfl) ?_
 rintro⟨i,f⟩ ⟨hi,hf⟩ Q' hQ he hr
 simp only[]at hi hf ⊢
 by_cases h:(i:Int)<(l.length:Int)
 ·have h0:i<l.length:=om;obtain⟨r1,r2⟩:=Rl l i h0;have hz:=H7 l;have hmem:l.getD i (false,[])∈l:=by rw[List.getD_eq_getElem?_getD,List.getElem?_eq_getElem h0];exact List.getElem_mem h0
  obtain⟨wa,la⟩:=hl _ hmem;have hgs:=JE h0;have hgl:=XG (l:=l.take i) (m:=m) fun p hp=>hl p (List.mem_of_mem_take hp)
  have hn:=(yZ (l.getD i (false,[])).2 wa om).frozen;have hb:=G8 wa la;generalize l.getD i (false,[])=p at*
  have hd:l.length*2/2=l.length:=om;refine tu (ai @iE (ai @hz (ai @r2 (ai @h (ai @hd (ai @hlen (ai @aW @qZ))))))) ?_;refine bD [] (Bool×Nat×Nat) (fun s=>⟨[(0,.l 2 (ZC l)),(3,gV s.1 s.2.1),(4,.i .i64 (i:Int)),(5,.l 1 (W (dg B s.2.2)))],[],0⟩)
   (fun s=>s.2.1<B^m∧s.2.2<B^m∧Nat.gcd s.2.1 s.2.2=gf (l.take (i+1))∧(s.1=false→s.2.1=0)) (fun s=>s.2.2) (f,gf (l.take i),nv B p.2) ⟨hgl,hb,hgs.symm,hf⟩ (by exact ni) (by
   simp(disch:=(first|omega|assumption)) only[Sl,Sa,Sw,↓reduceIte,Nat.reduceEqDiff,Nat.reduceLT,List.all_nil,List.all_cons,Nat.reduceBneDiff,Nat.reduceAdd,bne_iff_ne,ne_eq,reduceCtorEq,not_false_eq_true,not_true_eq_false,Bool.and_true,Bool.true_and,and_true,true_and,and_self,iE,Rx]
   try rfl) ?_
  rintro⟨f',x,y⟩ ⟨hx,hy,hg,hf'⟩ Q2 hQ2 he2 hr2;simp only[]at hx hy hg hf' ⊢;by_cases h1:y=0
  ·subst h1;rw[Nat.gcd_zero_right]at hg;have hp:¬(0:Int)<(((dg B 0).length:Nat):Int):=by rw[iq];decide
   refine aP (ai @hp (ai @aW @qZ)) ?_;refine he2 _ _ ?_;refine aP (ai @aW @qZ) ?_;refine hQ _ (i+1,f') ⟨h0,fun h=>by rw[←hg];exact hf' h⟩ (by simp only;omega) ?_;simp only[];rw[←hg];refine iP @Rx ?_;repeat' first|rfl|omega|(simp only[List.length_append,List.length_cons,List.length_nil];done)|apply And.intro
  ·have hp:0<y:=Nat.pos_of_ne_zero h1;have hc:=hmo x y hx hy;rw[LH hp,Hf hp]at hc;have hp2:=qV (n:=y);have hlt:=Nat.mod_lt x hp;cases f' with
   |false=>
    obtain rfl:=hf' rfl;rw[e0]at hc;simp only[gV];refine tu (ai @hp (ai @hp2 (ai @aW @qZ))) ?_;refine hQ2 _ (true,y,0%y) ⟨hy,Nat.lt_trans hlt hy,?_,fun h=>by cases h⟩ hlt ?_
    ·simp only[];rw[←hg,Nat.gcd_comm 0 y,Nat.gcd_rec y 0,Nat.gcd_comm]
    ·simp(disch:=(first|omega|assumption)) only[Sl,Sa,Sw,↓reduceIte,Nat.reduceEqDiff,Nat.reduceLT,List.all_nil,List.all_cons,Nat.reduceBneDiff,Nat.reduceAdd,bne_iff_ne,ne_eq,reduceCtorEq,not_false_eq_true,not_true_eq_false,Bool.and_true,Bool.true_and,and_true,true_and,and_self,iE,gV];repeat' first|rfl|omega|(simp only[List.length_append,List.length_cons,List.length_nil];done)|apply And.intro
   |true=>
    simp only[gV];refine tu (ai @hp (ai @hp2 (ai @aW @qZ))) ?_;refine hQ2 _ (true,y,x%y) ⟨hy,Nat.lt_trans hlt hy,?_,fun h=>by cases h⟩ hlt ?_
    ·simp only[];rw[←hg,Nat.gcd_comm x y,Nat.gcd_rec y x,Nat.gcd_comm]
    ·simp(disch:=(first|omega|assumption)) only[Sl,Sa,Sw,↓reduceIte,Nat.reduceEqDiff,Nat.reduceLT,List.all_nil,List.all_cons,Nat.reduceBneDiff,Nat.reduceAdd,bne_iff_ne,ne_eq,reduceCtorEq,not_false_eq_true,not_true_eq_false,Bool.and_true,Bool.true_and,and_true,true_and,and_self,iE,gV];repeat' first|rfl|omega|(simp only[List.length_append,List.length_cons,List.length_nil];done)|apply And.intro
 ·have hil:i=l.length:=om;have ht:l.take i=l:=by rw[hil,List.take_length]
  rw[ht]at hf ⊢;refine aP (ai @h (ai @hlen (ai @aW @qZ))) ?_;refine he _ _ ?_;cases f with
  |false=>
   rw[hf rfl,e0];repeat first
    |(refine hK _ ?_;clear hK K)
    |((first|refine aI (fun K hK=>?_)|refine aT (fun K hK=>?_)|refine aK (fun K hK=>?_));simp(disch:=(first|omega|assumption)) only[S1,↓reduceIte,Nat.reduceEqDiff,Nat.reduceAdd,Nat.reduceMul,Nat.reduceDiv,bY.sb,bY.mut,dH,↓Bool.false_eq_true,beq_self_eq_true,ite_self,Nat.reduceLeDiff,Int.reduceEq,Int.reduceSub,Int.reduceAdd,Int.reduceNeg,Int.reduceLT,Int.reduceLE,Nat.reduceLT,qZ,List.length_nil,gV];refine hK _ ?_;clear hK K)
    |simp only[Sv,↓reduceIte,Nat.reduceEqDiff]
   exact oC (ai @aW @qZ)
  |true=>
   repeat first
    |(refine hK _ ?_;clear hK K)
    |((first|refine aI (fun K hK=>?_)|refine aT (fun K hK=>?_)|refine aK (fun K hK=>?_));simp(disch:=(first|omega|assumption)) only[S1,↓reduceIte,Nat.reduceEqDiff,Nat.reduceAdd,Nat.reduceMul,Nat.reduceDiv,bY.sb,bY.mut,dH,↓Bool.false_eq_true,beq_self_eq_true,ite_self,Nat.reduceLeDiff,Int.reduceEq,Int.reduceSub,Int.reduceAdd,Int.reduceNeg,Int.reduceLT,Int.reduceLE,Nat.reduceLT,qZ,List.length_nil,gV];refine hK _ ?_;clear hK K)
    |simp only[Sv,↓reduceIte,Nat.reduceEqDiff]
   exact oC (ai @aW @qZ)
end
section
open Go Go.RowKit Ab
def wK:=an @aU (an @qJ (an @d_ (an @Nat.div_one (an @Nat.mul_one (an @bI (an @gU (an @Af (an @gY (an @fK (an @sK (an @ed (an @wi @dE))))))))))))
theorem mn(a b:Nat):min (a:Int) (b:Int)=((min a b:Nat):Int):=om
def a61:AC:= .seq (.reg [qr 4 (.mv (.k .nl)),qr 5 (.mv (.k (.i .i64 0)))]) (.seq (.seq (.reg [qm 7 1,qr 8 (.bin .lss (.t 7) (.k (.i .i64 0))),qm 9 8,⟨some 10,some (9,false),.mv (.t 1)⟩,⟨some 11,some (9,false),.bin .gtr (.t 10) (.k (.i .i64 1048576))⟩,qr 12 (.pick (.t 9) (.k (.b true)) (.t 11))]) (.cond (.t 12) (.seq (.reg [qr 4 (.mv (.k .nl)),qr 5 (.mv (.k (.i .i64 3)))]) (.ret)) (.skip))) (.seq (.reg [qm 13 0,qr 14 (.call 86 [(1,(.t 13))]),qm 6 14]) (.seq (.seq (.reg [qm 15 6,qr 16 (.len (.t 15)),qr 17 (.bin .eql (.t 16) (.k (.i .i64 0)))]) (.cond (.t 17) (.seq (.reg [qr 4 (.mv (.k .nl)),qr 5 (.mv (.k (.i .i64 0)))]) (.ret)) (.skip))) (.seq (.reg [qm 18 1,qr 19 (.mk 4 1 1 [(.b false)] (.t 18) (.t 18)),qm 20 6,qr 21 (.app 4 1 1 (.t 19) (.t 20)),qr 22 (.call 88 [(1,(.t 21))]),qm 4 22,qr 5 (.mv (.k (.i .i64 0)))]) (.ret)))))
theorem LX(a:List Nat)(n:Int)(ha:Wd a)(la:a.length≤1000000000):aF Tryz.prog J0 61 [.l 1 (W a),.i .i64 n] (.t [.l 1 (W (mV (nv B a) n).1),.i .i64 (mV (nv B a) n).2]):=by
 refine ja dB eY Tryz.func61 a61 ?_;unfold a61;simp only[ak,aH,qm,qr,qn];by_cases h1:n<0
 ·rw[show mV (nv B a) n=([],3)from if_pos (.inl h1)];exact Tu (ai @h1 @wK)
 ·by_cases h2:1048576<n
  ·rw[show mV (nv B a) n=([],3)from if_pos (.inr h2)];exact Tu (ai @h2 (ai @h1 @wK))
  ·rw[show mV (nv B a) n=(dg B (nv B a*2^n.toNat),0)from if_neg om];obtain⟨k,rfl⟩:∃k:Nat,n=(k:Int):=⟨n.toNat,om⟩;rw[show((k:Nat):Int).toNat=k from rfl];have hl:=CS ha;have hr:=uN a ha om;have hb:Lt 2 (dg 2 (nv B a)):=jM dc _;have hv:nv 2 (dg 2 (nv B a))=nv B a:=jd dc _;generalize dg 2 (nv B a)=row at hl hr hb hv;by_cases h0:(row.length:Int)=0
   ·have hn:row=[]:=List.eq_nil_of_length_eq_zero om;have e:dg B (nv B a*2^k)=[]:=by rw[←hv,hn];simp[nv,iq]
    exact tC (ai @e (ai @h0 (ai @h2 (ai @h1 @wK))))
   ·have e:nv 2 (List.replicate k 0++row)=nv B a*2^k:=by rw[mr,tH,List.length_replicate,hv,Nat.zero_add,Nat.mul_comm]
    have G7:(List.replicate k 0).length=k:=sy;have MM:=pJ (List.replicate k 0++row) (BV.2 ⟨yP dc,hb⟩) (by rw[List.length_append,G7];omega);exact tC (ai @e (ai @Vp (ai @aay (ai @G7 (ai @Xv (ai @h0 (ai @h2 (ai @h1 @wK))))))))
def a62:AC:= .seq (.reg [qr 4 (.mv (.k .nl)),qr 5 (.mv (.k .nl)),qr 6 (.mv (.k (.i .i64 0)))]) (.seq (.seq (.reg [qm 8 1,qr 9 (.bin .lss (.t 8) (.k (.i .i64 0)))]) (.cond (.t 9) (.seq (.reg [qr 4 (.mv (.k .nl)),qr 5 (.mv (.k .nl)),qr 6 (.mv (.k (.i .i64 3)))]) (.ret)) (.skip))) (.seq (.reg [qm 10 0,qr 11 (.call 86 [(1,(.t 10))]),qm 7 11]) (.seq (.reg [qm 12 1,qm 13 7,qr 14 (.len (.t 13)),qr 15 (.mm false (.t 12) (.t 14)),qm 1 15]) (.seq (.gp [qm 16 7,qm 17 1,qr 18 (.sub 1 (.t 16) (some (.t 17)) none),qr 19 (.call 88 [(1,(.t 18))]),qm 20 7,qm 21 1,qr 22 (.sub 1 (.t 20) none (some (.t 21))),qr 23 (.call 88 [(1,(.t 22))]),qm 4 19,qm 5 23,qr 6 (.mv (.k (.i .i64 0)))]) (.ret)))))
theorem LY(a:List Nat)(n:Int)(ha:Wd a)(la:a.length≤1000000000)(hn:n<9223372036854775808):aF Tryz.prog J0 62 [.l 1 (W a),.i .i64 n] (.t [.l 1 (W (xC (nv B a) n).1),.l 1 (W (Lj (nv B a) n)),.i .i64 (xC (nv B a) n).2]):=by
 refine ja dB eY Tryz.func62 a62 ?_;unfold a62;simp only[ak,aH,qm,qr,qn];by_cases h1:n<0
 ·have e:xC (nv B a) n=([],3):=if_pos h1;have e2:Lj (nv B a) n=[]:=if_pos h1;rw[e,e2];exact Tu (ai @h1 @wK)
 ·have e:xC (nv B a) n=(dg B (nv B a/2^n.toNat),0):=if_neg h1;have e2:Lj (nv B a) n=dg B (nv B a%2^n.toNat):=if_neg h1;rw[e,e2];obtain⟨k,rfl⟩:∃k:Nat,n=(k:Int):=⟨n.toNat,om⟩;rw[show((k:Nat):Int).toNat=k from rfl];have hl:=CS ha;have hr:=uN a ha om;have hb:Lt 2 (dg 2 (nv B a)):=jM dc _;have hv:nv 2 (dg 2 (nv B a))=nv B a:=jd dc _;generalize dg 2 (nv B a)=row at hl hr hb hv;have hvl:=b_ hb;have f1:nv 2 (row.drop (min k row.length))=nv B a/2^k:=by
   rw[←hv];rcases Nat.le_total k row.length with h|h
   ·rw[Nat.min_eq_left h,G5 dc hb]
   ·rw[Nat.min_eq_right h,List.drop_length,Nat.div_eq_of_lt (Nat.lt_of_lt_of_le hvl (Nat.pow_le_pow_right dc h))];rfl
  have f2:nv 2 (row.take (min k row.length))=nv B a%2^k:=by
   rw[←hv];rcases Nat.le_total k row.length with h|h
   ·rw[Nat.min_eq_left h,Qb dc hb]
   ·rw[Nat.min_eq_right h,List.take_length,Nat.mod_eq_of_lt (Nat.lt_of_lt_of_le hvl (Nat.pow_le_pow_right dc h))]
  have hml:min k row.length≤row.length:=Nat.min_le_right _ _;generalize hm:min k row.length=m at f1 f2 hml;have zc2:=pJ (row.drop m) (BZ hb _) (by rw[List.length_drop];omega);have zc3:=pJ (row.take m) (BX hb _) (by rw[List.length_take];omega);exact tC (ai @f2 (ai @Jb (ai @f1 (ai @Vo (ai @hm (ai @mn (ai @h1 @wK)))))))
end
section
open Go Go.RowKit Ab
theorem band1(k:Nat)(h:k<9223372036854775808):bits .and .i64 (k:Int) 1=((k%2:Nat):Int):=by
 have e:(BitVec.ofNat 64 k&&&BitVec.ofNat 64 1).toNat=k%2:=by
  rw[BitVec.toNat_and,BitVec.toNat_ofNat,BitVec.toNat_ofNat,Nat.mod_eq_of_lt (by omega:k<2^64)];exact Nat.and_one_is_mod k
 have q:bits .and .i64 (k:Int) 1=IntKind.i64.wrap (((BitVec.ofInt 64 (k:Int)&&&BitVec.ofInt 64 ((1:Nat):Int)).toNat:Nat):Int):=rfl;rw[q,BitVec.ofInt_natCast,BitVec.ofInt_natCast,e];exact wi om
end
section
open Go Go.RowKit Ab
def wL:=an @Bool.false_and (an @wi (an @bI (an @Nat.div_one (an @Nat.mul_one (an @aU (an @gU (an @gQ (an @fK (an @dD @xA)))))))))
theorem Df{v n:Nat}(h:n≤1048576):mV v (n:Int)=(dg B (v*2^n),0):=by unfold mV;rw[if_neg om];rfl
theorem JF{v n:Nat}:xC v (n:Int)=(dg B (v/2^n),0):=by unfold xC;rw[if_neg om];rfl
theorem Wl{v n:Nat}:Lj v (n:Int)=dg B (v%2^n):=by unfold Lj;rw[if_neg om];rfl
theorem JG(s:Bool)(u n:Nat):zI s (u*2^n)=zI s u*2^n:=by
 unfold zI;cases s<;>simp[Int.natCast_mul,Int.neg_mul]
def zlV(x:Int)(n:Int):Int:=if n<0∨1048576<n then 0 else x*2^n.toNat
def zlE(n:Int):Int:=if n<0∨1048576<n then 3 else 0
theorem ET{u m n e:Nat}(hu:u<B^m)(hn:n≤64*e):u*2^n<B^(m+e):=by
 have h2n:2^n≤B^e:=by
  rw[Xj,←Nat.pow_mul];exact Nat.pow_le_pow_right dc hn
 rw[Nat.pow_add];exact Nat.lt_of_lt_of_le (Nat.mul_lt_mul_of_pos_right hu (Nat.two_pow_pos n)) (Nat.mul_le_mul_left _ h2n)
theorem Wn{u m:Nat}{n:Nat}(hu:u<B^m)(hn:n≤1048576):u*2^n<B^(m+16384):=ET hu om
def a17:AC:= .seq (.reg [qr 2 (.bx 25 (.t 0)),qr 4 (.al 25 [(.b false),(.l 1 [])]),qr 5 (.mv (.k (.i .i64 0)))]) (.seq (.seq (.reg [qm 8 1,qr 9 (.bin .lss (.t 8) (.k (.i .i64 0))),qm 10 9,⟨some 11,some (10,false),.mv (.t 1)⟩,⟨some 12,some (10,false),.bin .gtr (.t 11) (.k (.i .i64 1048576))⟩,qr 13 (.pick (.t 10) (.k (.b true)) (.t 12))]) (.cond (.t 13) (.seq (.reg [qr 14 (.sO [(.b false),(.l 1 [])] []),qn (.st 2 (.t 4) (.t 14)),qr 5 (.mv (.k (.i .i64 3)))]) (.ret)) (.skip))) (.seq (.reg [qr 16 (.dQ 1 (.t 2)),qr 17 (.ld false 1 (.t 16)),qm 18 1,qr 19 (.call 49 [(1,(.t 17)),(1,(.t 18))]),qm 15 19,qr 20 (.ext (.t 15) 0),qr 21 (.ext (.t 15) 1),qm 6 20,qm 7 21]) (.seq (.seq (.reg [qm 22 7,qr 23 (.bin .neq (.t 22) (.k (.i .i64 0)))]) (.cond (.t 23) (.seq (.reg [qr 24 (.sO [(.b false),(.l 1 [])] []),qn (.st 2 (.t 4) (.t 24)),qr 5 (.mv (.k (.i .i64 3)))]) (.ret)) (.skip))) (.seq (.reg [qr 25 (.dQ 0 (.t 2)),qr 26 (.ld false 1 (.t 25)),qm 27 6,qr 28 (.call 40 [(1,(.t 26)),(1,(.t 27))]),qn (.st 2 (.t 4) (.t 28)),qr 5 (.mv (.k (.i .i64 0)))]) (.ret)))))
def a33:AC:= .seq (.reg [qr 2 (.bx 25 (.t 0)),qr 4 (.al 25 [(.b false),(.l 1 [])]),qr 5 (.mv (.k (.i .i64 0)))]) (.seq (.reg [qr 9 (.dQ 1 (.t 2)),qr 10 (.ld false 1 (.t 9)),qm 11 1,qr 12 (.call 61 [(1,(.t 10)),(1,(.t 11))]),qm 8 12,qr 13 (.ext (.t 8) 0),qr 14 (.ext (.t 8) 1),qm 6 13,qm 7 14]) (.seq (.seq (.reg [qm 15 7,qr 16 (.bin .neq (.t 15) (.k (.i .i64 0)))]) (.cond (.t 16) (.seq (.reg [qr 17 (.sO [(.b false),(.l 1 [])] []),qn (.st 2 (.t 4) (.t 17)),qr 5 (.mv (.k (.i .i64 3)))]) (.ret)) (.skip))) (.seq (.reg [qr 18 (.dQ 0 (.t 2)),qr 19 (.ld false 1 (.t 18)),qm 20 6,qr 21 (.call 36 [(1,(.t 19)),(1,(.t 20))]),qn (.st 2 (.t 4) (.t 21)),qr 5 (.mv (.k (.i .i64 0)))]) (.ret))))
theorem Ih(s:Bool)(a:List Nat)(n:Int)(ha:Wd a)(la:a.length≤900000000):aF Tryz.prog J0 33 [zL s a,.i .i64 n] (.t [zN (zlV (zv s a) n),.i .i64 (zlE n)]):=by
 have h:=LX a n ha om;rw[show zv s a=zI s (nv B a)from rfl];by_cases h1:n<0∨1048576<n
 ·rw[show zlV (zI s (nv B a)) n=0 from if_pos h1,show zlE n=3 from if_pos h1];rw[show mV (nv B a) n=([],3)from if_pos h1]at h;refine jO dB eY Tryz.func33 a33 [.c 4 true 2,.t 5] ?_;unfold a33;simp only[ak,aH,qm,qr,qn];exact yO (ai @Ro (ai @aW @wL))
 ·obtain⟨k,rfl⟩:∃k:Nat,n=(k:Int):=⟨n.toNat,om⟩;rw[Df om]at h;have hof:=pO s (m:=a.length+16384) (Wn (b_ ha) (by omega:k≤1048576)) om;rw[JG]at hof;rw[show zlV (zI s (nv B a)) (k:Int)=zI s (nv B a)*2^k from if_neg h1,show zlE (k:Int)=0 from if_neg h1];generalize zI s (nv B a)*2^k=z at*
  refine jO dB eY Tryz.func33 a33 [.c 4 true 2,.t 5] ?_;unfold a33;simp only[ak,aH,qm,qr,qn];exact yO (ai @aW @wL)
def zrV(x:Int)(n:Int):Int:=if n<0 then 0 else x.fdiv (2^n.toNat)
def zrE(n:Int):Int:=if n<0 then 3 else 0
theorem xZ(s:Bool)(u n:Nat):(zI s u).fdiv (2^n)=zI s (u/2^n+if s=true∧u%2^n≠0 then 1 else 0):=by
 have hp:=Nat.two_pow_pos n;have e:((2:Int)^n)=((2^n:Nat):Int):=by rw[Int.natCast_pow];rfl
 rw[e];generalize 2^n=d at*
 rw[Int.fdiv_eq_ediv_of_nonneg _ om];cases s
 ·simp[zI]
 ·simp only[zI,if_true,true_and];have hd:=Nat.div_add_mod u d;have hm:=Nat.mod_lt u hp;generalize u/d=q at*
  generalize u%d=r at*
  by_cases hr:r=0
  ·subst hr;rw[if_neg sy,←hd];rw[show(-(((d*q+0:Nat):Int)))=(d:Int)*(-(q:Int))from by rw[Nat.add_zero,Int.natCast_mul,Int.mul_neg]];rw[Int.mul_ediv_cancel_left _ om];rfl
  ·rw[if_pos hr,←hd];have e2:(-(((d*q+r:Nat):Int)))=((d:Int)-r)+(d:Int)*(-(((q+1:Nat):Int))):=by
    rw[Int.natCast_add,Int.natCast_mul,Int.natCast_add,Int.mul_neg,Int.mul_add];simp only[Int.natCast_one,Int.mul_one];omega
   rw[e2,Int.add_mul_ediv_left _ _ om,Int.ediv_eq_zero_of_lt om om,Int.zero_add]
theorem Wp(s:Bool)(u n:Nat):(zI s u).fdiv (2^min n (bl u+1))=(zI s u).fdiv (2^n):=by
 rcases Nat.le_total n (bl u+1)with h|h
 ·rw[Nat.min_eq_left h]
 ·rw[Nat.min_eq_right h,xZ,xZ];have h1:=Ef u;have h2:u<2^(bl u+1):=Nat.lt_of_lt_of_le h1 (Nat.pow_le_pow_right dc om);have h3:u<2^n:=Nat.lt_of_lt_of_le h2 (Nat.pow_le_pow_right dc h);rw[Nat.div_eq_of_lt h2,Nat.div_eq_of_lt h3,Nat.mod_eq_of_lt h2,Nat.mod_eq_of_lt h3]
theorem mod_ct{u n:Nat}(h:u≠0):(u%2^n≠0)↔ct u<n:=by
 obtain⟨m,hm⟩:=ES h;generalize ct u=k at*
 have hk:=Nat.two_pow_pos k;constructor
 ·intro h1;rcases Nat.lt_or_ge k n with h2|h2
  ·exact h2
  ·exfalso;apply h1;rw[hm,show 2^k=2^n*2^(k-n)from by rw[←Nat.pow_add];congr 1;omega,Nat.mul_assoc,Nat.mul_mod_right]
 ·intro h1 h2;have h3:2^n=2^k*(2*2^(n-k-1)):=by rw[←Nat.pow_succ',←Nat.pow_add];congr 1;omega
  rw[hm,h3,Nat.mul_mod_mul_left]at h2;have h4:(2*m+1)%(2*2^(n-k-1))%2=(2*m+1)%2:=Nat.mod_mul_right_mod _ _ _;rcases Nat.mul_eq_zero.1 h2 with h5|h5
  ·omega
  ·rw[h5]at h4;omega
theorem shr_le{u m n:Nat}(hu:u<B^m)(t:Bool):u/2^n+(if t=true∧u%2^n≠0 then 1 else 0)<B^(m+1):=by
 have h1:=Nat.div_le_self u (2^n);have h2:B^m*2≤B^(m+1):=Nat.mul_le_mul_left _ dc;split<;>omega
def a18:AC:= .seq (.reg [qr 2 (.bx 25 (.t 0)),qr 4 (.al 25 [(.b false),(.l 1 [])]),qr 5 (.mv (.k (.i .i64 0)))]) (.seq (.seq (.reg [qm 8 1,qr 9 (.bin .lss (.t 8) (.k (.i .i64 0)))]) (.cond (.t 9) (.seq (.reg [qr 10 (.sO [(.b false),(.l 1 [])] []),qn (.st 2 (.t 4) (.t 10)),qr 5 (.mv (.k (.i .i64 3)))]) (.ret)) (.skip))) (.seq (.reg [qm 11 1,qr 12 (.ld true 2 (.t 2)),qr 13 (.call 50 [(1,(.t 12))]),qr 14 (.bin .add (.t 13) (.k (.i .i64 1))),qr 15 (.mm false (.t 11) (.t 14)),qm 1 15]) (.seq (.reg [qr 17 (.dQ 1 (.t 2)),qr 18 (.ld false 1 (.t 17)),qm 19 1,qr 20 (.call 51 [(1,(.t 18)),(1,(.t 19))]),qm 16 20,qr 21 (.ext (.t 16) 0),qr 22 (.ext (.t 16) 1),qm 6 21,qm 7 22]) (.seq (.seq (.reg [qm 23 7,qr 24 (.bin .neq (.t 23) (.k (.i .i64 0)))]) (.cond (.t 24) (.seq (.reg [qr 25 (.sO [(.b false),(.l 1 [])] []),qn (.st 2 (.t 4) (.t 25)),qr 5 (.mv (.k (.i .i64 3)))]) (.ret)) (.skip))) (.seq (.seq (.reg [qr 26 (.ld true 2 (.t 2)),qr 27 (.call 46 [(1,(.t 26))]),qr 28 (.bin .lss (.t 27) (.k (.i .i64 0))),qm 29 28,⟨some 30,some (29,true),.dQ 1 (.t 2)⟩,⟨some 31,some (29,true),.ld false 1 (.t 30)⟩,⟨some 32,some (29,true),.call 52 [(1,(.t 31))]⟩,⟨some 33,some (29,true),.mv (.t 1)⟩,⟨some 34,some (29,true),.bin .lss (.t 32) (.t 33)⟩,qr 35 (.pick (.t 29) (.t 34) (.k (.b false)))]) (.cond (.t 35) (.reg [qm 36 6,qr 37 (.call 53 [(1,(.k (.i .u64 1)))]),qr 38 (.call 41 [(1,(.t 36)),(1,(.t 37))]),qm 6 38]) (.skip))) (.seq (.reg [qr 39 (.dQ 0 (.t 2)),qr 40 (.ld false 1 (.t 39)),qm 41 6,qr 42 (.call 40 [(1,(.t 40)),(1,(.t 41))]),qn (.st 2 (.t 4) (.t 42)),qr 5 (.mv (.k (.i .i64 0)))]) (.ret)))))))
def a34:AC:= .seq (.reg [qr 2 (.bx 25 (.t 0)),qr 4 (.al 25 [(.b false),(.l 1 [])]),qr 5 (.mv (.k (.i .i64 0)))]) (.seq (.reg [qr 10 (.dQ 1 (.t 2)),qr 11 (.ld false 1 (.t 10)),qm 12 1,qr 13 (.call 62 [(1,(.t 11)),(1,(.t 12))]),qm 9 13,qr 14 (.ext (.t 9) 0),qr 15 (.ext (.t 9) 1),qr 16 (.ext (.t 9) 2),qm 6 14,qm 7 15,qm 8 16]) (.seq (.seq (.reg [qm 17 8,qr 18 (.bin .neq (.t 17) (.k (.i .i64 0)))]) (.cond (.t 18) (.seq (.reg [qr 19 (.sO [(.b false),(.l 1 [])] []),qn (.st 2 (.t 4) (.t 19)),qr 5 (.mv (.k (.i .i64 3)))]) (.ret)) (.skip))) (.seq (.seq (.reg [qr 20 (.dQ 0 (.t 2)),qr 21 (.ld false 1 (.t 20)),qm 22 21,⟨some 23,some (22,true),.mv (.t 7)⟩,⟨some 24,some (22,true),.len (.t 23)⟩,⟨some 25,some (22,true),.bin .gtr (.t 24) (.k (.i .i64 0))⟩,qr 26 (.pick (.t 22) (.t 25) (.k (.b false)))]) (.cond (.t 26) (.reg [qm 27 6,qr 28 (.nz 54 1 1 [(.i .u64 0)] [(0,(.k (.i .u64 1)))]),qr 29 (.call 56 [(1,(.t 27)),(1,(.t 28))]),qm 6 29]) (.skip))) (.seq (.reg [qr 30 (.dQ 0 (.t 2)),qr 31 (.ld false 1 (.t 30)),qm 32 6,qr 33 (.call 36 [(1,(.t 31)),(1,(.t 32))]),qn (.st 2 (.t 4) (.t 33)),qr 5 (.mv (.k (.i .i64 0)))]) (.ret)))))
theorem Ii(s:Bool)(a:List Nat)(n:Int)(ha:Wd a)(la:a.length≤100000000)(hn:n<9223372036854775808):aF Tryz.prog J0 34 [zL s a,.i .i64 n] (.t [zN (zrV (zv s a) n),.i .i64 (zrE n)]):=by
 have h:=LY a n ha om hn;rw[show zv s a=zI s (nv B a)from rfl];by_cases h1:n<0
 ·rw[show zrV (zI s (nv B a)) n=0 from if_pos h1,show zrE n=3 from if_pos h1];rw[show xC (nv B a) n=([],3)from if_pos h1,show Lj (nv B a) n=[]from if_pos h1]at h;refine jO dB eY Tryz.func34 a34 [.c 4 true 2,.t 5] ?_;unfold a34;simp only[ak,aH,qm,qr,qn];exact yO (ai @Ro (ai @aW @wL))
 ·obtain⟨k,rfl⟩:∃k:Nat,n=(k:Int):=⟨n.toNat,om⟩;rw[show zrV (zI s (nv B a)) (k:Int)=(zI s (nv B a)).fdiv (2^k)from if_neg h1,show zrE (k:Int)=0 from if_neg h1,xZ];rw[JF,Wl]at h;have hu:=b_ ha;have hlen:=dS (Nat.lt_of_le_of_lt (Nat.div_le_self (nv B a) (2^k)) hu);have hadd:=(Ba (dg B (nv B a/2^k)) [1] (bF _) (Wd1 dc) om sy).frozen;rw[dE,show nv B [1]=1 from rfl]at hadd;have hmk:=pO s (m:=a.length+1) (shr_le (n:=k) hu s) om;have hl0:((0:Int)<((dg B (nv B a%2^k)).length:Int))=(nv B a%2^k≠0):=by
   refine propext ⟨fun h e=>?_,fun h=>?_⟩
   ·rw[e,iq]at h;simp at h
   ·rcases Nat.eq_zero_or_pos (dg B (nv B a%2^k)).length with h2|h2
    ·exact absurd ((tJ B2).1 (List.eq_nil_of_length_eq_zero h2)) h
    ·omega
  by_cases hc:s=true∧nv B a%2^k≠0
  ·obtain⟨rfl,hc⟩:=hc;rw[if_pos ⟨rfl,hc⟩]at hmk ⊢;rw[eq_true hc]at hl0;refine jO dB eY Tryz.func34 a34 [.c 4 true 2,.t 5] ?_;unfold a34;simp only[ak,aH,qm,qr,qn];exact yO (ai @W1 (ai @hl0 (ai @aW @wL)))
  ·rw[if_neg hc,Nat.add_zero]at hmk ⊢;cases s with
   |false=>
    refine jO dB eY Tryz.func34 a34 [.c 4 true 2,.t 5] ?_;unfold a34;simp only[ak,aH,qm,qr,qn];exact yO (ai @aW @wL)
   |true=>
    rw[eq_false (fun h=>hc ⟨rfl,h⟩)]at hl0;refine jO dB eY Tryz.func34 a34 [.c 4 true 2,.t 5] ?_;unfold a34;simp only[ak,aH,qm,qr,qn];exact yO (ai @hl0 (ai @aW @wL))
theorem rzmulN{x y:Int}{m:Nat}(hx:x.natAbs<B^m)(hy:y.natAbs<B^m)(hm:m≤100000000):aF Tryz.prog J0 26 [zN x,zN y] (zN (x*y)):=by
 have:=Ia (decide (x<0)) (decide (y<0)) (dg B x.natAbs) (dg B y.natAbs) (bF _) (bF _) (Nat.le_trans (dS hx) hm) (Nat.le_trans (dS hy) hm);rwa[kW,kW]at this
end
