import Derived.Test.YtoehbmlfnjlchaaGreatDoorGF
import Derived.Test.YtoehbmlfnjlchaaGreatDoorGE
set_option linter.all false
set_option maxHeartbeats 10000000
namespace Go.Proofs.YtoehbmlfnjlchaaGreatDoor
open Go Go.RowKit Ab
theorem Ew{R c P:Nat}(hP:0<P):
 2*(R/P%256)+(2*(R%P)+c)/P=(2*(R%(P*256))+c)/P∧(2*R+c)/P%256=(2*(R/P%256)+(2*(R%P)+c)/P)%256∧
 (2*(R/P%256)+(2*(R%P)+c)/P)/256=(2*(R%(P*256))+c)/(P*256):=by
 have e1:R%(P*256)=R%P+P*(R/P%256):=Nat.mod_mul
 have h1:(2*(R%(P*256))+c)/P=2*(R/P%256)+(2*(R%P)+c)/P:=by
  rw[e1,show 2*(R%P+P*(R/P%256))+c=(2*(R%P)+c)+P*(2*(R/P%256))from by rw[Nat.mul_add,Nat.mul_left_comm];omega,Nat.add_mul_div_left _ _ hP];omega
 refine⟨h1.symm,?_,?_⟩
 ·rw[←h1];have e2:=Nat.div_add_mod R (P*256);have:2*R+c=(2*(R%(P*256))+c)+P*(512*(R/(P*256))):=by
   have e3:P*(512*(R/(P*256)))=2*(P*256*(R/(P*256))):=by rw[Nat.mul_assoc P 256,Nat.mul_left_comm 2 P];congr 1;omega
   omega
  rw[this,Nat.add_mul_div_left _ _ hP];omega
 ·rw[←h1,Nat.div_div_eq_div_mul]
def Lr(n R c k:Nat):List Nat:=fl 256 k (2*R+c)++(fl 256 n R).drop k
def Lu(R c k:Nat):Nat:=(2*(R%256^k)+c)/256^k
theorem Jh{n R c k:Nat}(h:k≤n):(Lr n R c k).length=n:=by unfold Lr;rw[List.length_append,List.length_drop,bC,bC];omega
theorem Ji{n R c k:Nat}(h:k<n):(Lr n R c k).getD k 0=R/256^k%256:=by
 unfold Lr;rw[List.getD_eq_getElem?_getD,List.getElem?_append_right (by rw[bC];exact Nat.le_refl _),bC,Nat.sub_self,List.getElem?_drop,Nat.add_zero,←List.getD_eq_getElem?_getD,wH _ _ _ h]
theorem Jj{n R c k:Nat}(h:k<n):(Lr n R c k).set k ((2*(R/256^k%256)+Lu R c k)%256)=Lr n R c (k+1):=by
 have h2:=(Ew (R:=R) (c:=c) (P:=256^k) (Nat.pow_pos dc)).2.1;unfold Lr Lu;rw[←h2,dP,List.set_append_right _ _ (by rw[bC];exact Nat.le_refl _),bC,Nat.sub_self,List.drop_eq_getElem_cons (by rw[bC];exact h),List.set_cons_zero,List.append_assoc];rfl
theorem Ey{R c k:Nat}:(2*(R/256^k%256)+Lu R c k)/256=Lu R c (k+1):=by
 have h2:=(Ew (R:=R) (c:=c) (P:=256^k) (Nat.pow_pos dc)).2.2;unfold Lu;rw[h2,Nat.pow_succ]
theorem Qm{R c k:Nat}(hc:c≤1):Lu R c k≤1:=by
 unfold Lu;have hP:=Nat.pow_pos (n:=k) (by decide:0<256);have:=Nat.mod_lt R hP;exact Nat.le_of_lt_succ ((Nat.div_lt_iff_lt_mul hP).2 om)
theorem Xo{n R c:Nat}:Lr n R c 0=fl 256 n R:=by simp[Lr,fl]
theorem Xp{R c:Nat}:Lu R c 0=c:=by unfold Lu;simp[Nat.mod_one]
theorem Xq{n R c:Nat}:Lr n R c n=fl 256 n (2*R+c):=by unfold Lr;rw[List.drop_of_length_le (by rw[bC];exact Nat.le_refl _),List.append_nil]
def LC(n R Y k:Nat):List Nat:=fl 256 k (R+256^n-Y)++(fl 256 n R).drop k
def LD(R Y k:Nat):Nat:=if R%256^k<Y%256^k then 1 else 0
theorem Jk{n R Y k:Nat}(h:k≤n):(LC n R Y k).length=n:=by unfold LC;rw[List.length_append,List.length_drop,bC,bC];omega
theorem Jl{n R Y k:Nat}(h:k<n):(LC n R Y k).getD k 0=R/256^k%256:=by
 unfold LC;rw[List.getD_eq_getElem?_getD,List.getElem?_append_right (by rw[bC];exact Nat.le_refl _),bC,Nat.sub_self,List.getElem?_drop,Nat.add_zero,←List.getD_eq_getElem?_getD,wH _ _ _ h]
theorem CP{n R Y k:Nat}(hY:Y<256^n)(h:k<n):
 (R+256^n-Y)/256^k%256=(R/256^k%256+256-(Y/256^k%256+LD R Y k))%256∧LD R Y (k+1)=if R/256^k%256<Y/256^k%256+LD R Y k then 1 else 0:=by
 have hP:=Nat.pow_pos (n:=k) (by decide:0<256)
 obtain⟨s1,s2,s3⟩:=yS (b:=256) hP (Nat.mod_lt R hP) (Nat.mod_lt Y hP) (Nat.mod_lt (R/256^k) dc) (Nat.mod_lt (Y/256^k) dc)
 have e1:R%(256^k*256)=R%256^k+256^k*(R/256^k%256):=Nat.mod_mul
 have e2:Y%(256^k*256)=Y%256^k+256^k*(Y/256^k%256):=Nat.mod_mul
 rw[←e1,←e2]at s1 s3
 refine⟨?_,?_⟩
 ·show _=(R/256^k%256+256-(Y/256^k%256+if R%256^k<Y%256^k then 1 else 0))%256;rw[←s1];have hQ:256^k*256=256^(k+1):=(Nat.pow_succ ..).symm;have hN:256^n=256^(k+1)*256^(n-(k+1)):=by rw[←Nat.pow_add];congr 1;omega
  rw[hQ];have d1:=Nat.div_add_mod R (256^(k+1));have d2:=Nat.div_add_mod Y (256^(k+1));have l1:=Nat.mod_lt R (Nat.pow_pos (n:=k+1) (by decide:0<256));have l2:=Nat.mod_lt Y (Nat.pow_pos (n:=k+1) (by decide:0<256));have hyq:Y/256^(k+1)<256^(n-(k+1)):=(Nat.div_lt_iff_lt_mul (Nat.pow_pos dc)).2 (by rw[Nat.mul_comm,←hN];exact hY);rw[←Nat.mod_mul_right_div_self,←Nat.mod_mul_right_div_self,hQ];congr 1;generalize Y/256^(k+1)=yq at*
  generalize R/256^(k+1)=rq at*
  generalize R%256^(k+1)=rm at*
  generalize Y%256^(k+1)=ym at*
  obtain⟨z,hz⟩:∃z,256^(n-(k+1))=yq+1+z:=⟨256^(n-(k+1))-yq-1,om⟩;rw[hN,hz];have e3:R+256^(k+1)*(yq+1+z)-Y=(rm+256^(k+1)-ym)+256^(k+1)*(rq+z):=by
   rw[Nat.mul_add,Nat.mul_add,Nat.mul_add,Nat.mul_one];generalize 256^(k+1)*yq=u1 at*
   generalize 256^(k+1)*rq=u2 at*
   generalize 256^(k+1)*z=u3 at*
   omega
  rw[e3,Nat.add_mul_mod_self_left]
 ·unfold LD;rw[Nat.pow_succ];simp only[s3]
theorem Jm{n R Y k:Nat}(hY:Y<256^n)(h:k<n):(LC n R Y k).set k ((R/256^k%256+256-(Y/256^k%256+LD R Y k))%256)=LC n R Y (k+1):=by
 rw[←(CP hY h).1];unfold LC;rw[dP,List.set_append_right _ _ (by rw[bC];exact Nat.le_refl _),bC,Nat.sub_self,List.drop_eq_getElem_cons (by rw[bC];exact h),List.set_cons_zero,List.append_assoc];rfl
theorem Qn{R Y k:Nat}:LD R Y k≤1:=by unfold LD;split<;>omega
theorem Xr{n R Y:Nat}:LC n R Y 0=fl 256 n R:=by simp[LC,fl]
theorem Xt{R Y:Nat}:LD R Y 0=0:=by unfold LD;simp[Nat.mod_one]
theorem Xu{n R Y:Nat}(h:Y≤R):LC n R Y n=fl 256 n (R-Y):=by
 unfold LC;rw[List.drop_of_length_le (by rw[bC];exact Nat.le_refl _),List.append_nil];refine dZ dc ?_;generalize 256^n=P;rw[show R+P-Y=(R-Y)+P from om,Nat.add_mod_right]
theorem Jn{V b c:Nat}(hb:0<b)(hc:c≤1):
 (b≤2*(V%b)+c→(2*V+c)/b=2*(V/b)+1∧(2*V+c)%b=2*(V%b)+c-b)∧(2*(V%b)+c<b→(2*V+c)/b=2*(V/b)∧(2*V+c)%b=2*(V%b)+c):=by
 have e:=Nat.div_add_mod V b
 have hm:=Nat.mod_lt V hb
 have h:2*V+c=(2*(V%b)+c)+b*(2*(V/b)):=by rw[Nat.mul_left_comm];omega
 rw[h,Nat.add_mul_div_left _ _ hb,Nat.add_mul_mod_self_left]
 refine⟨fun h1=>?_,fun h1=>?_⟩
 ·have h2:(2*(V%b)+c)/b=1:=by
   rw[show 2*(V%b)+c=(2*(V%b)+c-b)+b from om,Nat.add_div_right _ hb,Nat.div_eq_of_lt om]
  have h3:(2*(V%b)+c)%b=2*(V%b)+c-b:=by
   conv=>lhs;rw[show 2*(V%b)+c=(2*(V%b)+c-b)+b from om]
   rw[Nat.add_mod_right,Nat.mod_eq_of_lt om]
  rw[h2,h3];omega
 ·rw[Nat.div_eq_of_lt h1,Nat.mod_eq_of_lt h1];omega
def Bh(A b L i:Nat):List Nat:=List.replicate i 0++fl 2 (L-i) (A/2^i/b)
theorem CQ{A b L i:Nat}(h:i≤L):(Bh A b L i).length=L:=by unfold Bh;rw[List.length_append,List.length_replicate,bC];omega
theorem zi{A b L i:Nat}(h:i+1≤L)(d:Nat)(h1:A/2^i/b%2=d)(h2:A/2^i/b/2=A/2^(i+1)/b):(Bh A b L (i+1)).set i d=Bh A b L i:=by
 unfold Bh;rw[show L-i=(L-(i+1))+1 from om,fl,h1,h2,List.replicate_succ',List.append_assoc,List.set_append_right _ _ (by rw[List.length_replicate];exact Nat.le_refl _),List.length_replicate,Nat.sub_self];rfl
theorem Ez{A b L i:Nat}(h:i+1≤L)(h1:A/2^i/b%2=0)(h2:A/2^i/b/2=A/2^(i+1)/b):Bh A b L (i+1)=Bh A b L i:=by
 rw[←zi h 0 h1 h2];unfold Bh;rw[List.replicate_succ',List.append_assoc,List.set_append_right _ _ (by rw[List.length_replicate];exact Nat.le_refl _),List.length_replicate,Nat.sub_self];rfl
theorem LG(A i:Nat):A/2^i=2*(A/2^(i+1))+A/2^i%2:=by
 rw[Nat.pow_succ,←Nat.div_div_eq_div_mul];omega
theorem Qo{x y:List Nat}(hx:Lt 256 x)(hy:Lt 256 y)(i:Nat)(h:∀j,i+1≤j→x.getD j 0=y.getD j 0)(hne:x.getD i 0≠y.getD i 0):(y.getD i 0<x.getD i 0)=(nv 256 y≤nv 256 x):=by
 obtain⟨e1,e2⟩:=mM (B:=256) (l:=x) (r:=y) (i+1) h;rcases Nat.lt_or_ge (x.getD i 0) (y.getD i 0)with h1|h1
 ·have:=e1.1 (vZ dc hx hy i h1);exact propext ⟨fun h=>om,fun h=>om⟩
 ·have h2:y.getD i 0<x.getD i 0:=om;have h3:=vZ (by decide:0<256) hy hx i h2;have:¬nv 256 x<nv 256 y:=fun h=>by have:=e1.2 h;omega
  exact propext ⟨fun h=>om,fun _=>h2⟩
theorem Qp{x y:List Nat}(hl:x.length=y.length)(h:∀j,0≤j→x.getD j 0=y.getD j 0):x=y:=by
 refine List.ext_getElem hl fun n h3 h4=>?_
 have:=h n (Nat.zero_le _);simpa[List.getD_eq_getElem?_getD,h3,h4]using this
end Go.Proofs.YtoehbmlfnjlchaaGreatDoor
namespace Go.Proofs.YtoehbmlfnjlchaaGreatDoor
open Go Go.RowKit Ab
def qQ(u v:Nat):List Nat:=dg B (u/v)
def qR(u v:Nat):List Nat:=if v=0 then[]else dg B (u%v)
def qE(v:Nat):Int:=if v=0 then 1 else 0
theorem Qq(u:Nat):qQ u 0=[]:=by unfold qQ;rw[Nat.div_zero];rfl
theorem Qr(u:Nat):qR u 0=[]:=if_pos rfl
theorem Qs:qE 0=1:=rfl
theorem LH{u v:Nat}(h:0<v):qR u v=dg B (u%v):=if_neg om
theorem Hf{v:Nat}(h:0<v):qE v=0:=if_neg om
theorem W1(x:Nat):W [x]=[.i .u64 (x:Int)]:=rfl
theorem Vz{b:List Nat}(h:b.length=1):b.getD 0 0=nv B b:=by
 match b,h with
 |[x],_=>simp[nv]
theorem Qu{u v:Nat}:(((qR u v).length:Nat):Int)=0↔(v=0∨u%v=0):=by
 unfold qR;split
 ·rename_i h;simp[h]
 ·rename_i h;constructor
  ·intro h1;exact .inr ((tJ B2).1 (List.eq_nil_of_length_eq_zero om))
  ·intro h1;rw[(tJ B2).2 om];rfl
def Tz(u v:Nat):List Nat:=if v=0 then[]else if u%v=0 then dg B (u/v)else[]
def VA(u v:Nat):Int:=if v=0 then 1 else if u%v=0 then 0 else 4
theorem jl(a:List Nat)(ha:Wd a)(la:a.length≤1099511627776):aF Tryz.prog J0 44 [.l 1 (W a)] (.o 54 1 (W (dg B (nv B a)))):=by
 have:=oJ a la;rwa[AA B2 ha]at this
end Go.Proofs.YtoehbmlfnjlchaaGreatDoor
namespace Go.Proofs.YtoehbmlfnjlchaaGreatDoor
open Go Go.RowKit Ab
theorem Qv(a:List Nat)(i:Nat):(W a).set i (.i .u64 0)=W (a.set i 0):=je a i 0
theorem kn_un(t c:Nat)(h:c=t+1):(if t<c then 1 else 0:Nat)=1:=if_pos om
theorem kn_m1(t c:Nat)(h:c=t+1):(t+18446744073709551616-c)%18446744073709551616=18446744073709551615:=by
 rw[h,show t+18446744073709551616-(t+1)=18446744073709551615 from om]
theorem kn_d1(g d:Nat)(h:g=d+1):(g:Int)-1=(d:Int):=om
theorem wuN(n:Nat)(h:n<18446744073709551616):IntKind.wrap .u64 (n:Int)=(n:Int):=wu ⟨Int.natCast_nonneg _,om⟩
theorem W_setM(a:List Nat)(i:Nat):(W a).set i (.i .u64 18446744073709551615)=W (a.set i 18446744073709551615):=je a i 18446744073709551615
theorem wrapM:IntKind.wrap .u64 18446744073709551616=0:=dc
theorem kJ(a b:Nat):((a:Int)+(b:Int)).toNat=a+b:=om
theorem zk(a b:Nat)(h:1≤b):((a:Int)+(b:Int)-1).toNat=a+(b-1):=om
theorem zn(a b:Nat)(h:2≤b):((a:Int)+(b:Int)-2).toNat=a+(b-2):=om
theorem Bi(b:Nat):((b:Int)-1).toNat=b-1:=om
theorem Qw(b:Nat):((b:Int)-2).toNat=b-2:=om
def a72:AC:= .seq (.reg [qr 4 (.mv (.k .nl)),qr 5 (.mv (.k .nl))]) (.seq (.reg [qm 25 1,qr 26 (.len (.t 25)),qm 6 26]) (.seq (.reg [qm 27 1,qm 28 6,qr 29 (.bin .sub (.t 28) (.k (.i .i64 1))),qr 30 (.idx 1 (.t 27) (.t 29)),qr 31 (.ld false 1 (.t 30)),qr 32 (.call 96 [(1,(.t 31))]),qm 7 32]) (.seq (.reg [qm 34 1,qm 35 7,qr 36 (.call 49 [(1,(.t 34)),(1,(.t 35))]),qm 33 36,qr 37 (.ext (.t 33) 0),qr 38 (.ext (.t 33) 1),qm 8 37,qm 9 38]) (.seq (.reg [qm 40 0,qm 41 7,qr 42 (.call 49 [(1,(.t 40)),(1,(.t 41))]),qm 39 42,qr 43 (.ext (.t 39) 0),qr 44 (.ext (.t 39) 1),qm 10 43,qm 11 44]) (.seq (.reg [qm 45 10,qm 46 0,qr 47 (.len (.t 46)),qr 48 (.bin .add (.t 47) (.k (.i .i64 1))),qm 49 10,qr 50 (.len (.t 49)),qr 51 (.bin .sub (.t 48) (.t 50)),qr 52 (.mk 54 1 8 [(.i .u64 0)] (.t 51) (.t 51)),qr 53 (.nz 23 1 2 [(.l 1 []),(.l 1 [])] [(0,(.t 45)),(1,(.t 52))]),qr 54 (.call 97 [(1,(.t 53))]),qm 12 54]) (.seq (.reg [qm 55 12,qr 56 (.len (.t 55)),qm 57 6,qr 58 (.bin .sub (.t 56) (.t 57)),qr 59 (.mk 54 1 8 [(.i .u64 0)] (.t 58) (.t 58)),qm 13 59]) (.seq (.seq (.reg [qm 60 13,qr 61 (.len (.t 60)),qr 62 (.bin .sub (.t 61) (.k (.i .i64 1))),qm 14 62]) (.blk 0 (.loop (.seq (.seq (.reg [qm 63 14,qr 64 (.bin .geq (.t 63) (.k (.i .i64 0)))]) (.cond (.t 64) (.skip) (.exit 0))) (.seq (.blk 1 (.seq (.gp [qm 67 12,qm 68 14,qm 69 6,qr 70 (.bin .add (.t 68) (.t 69)),qr 71 (.idx 1 (.t 67) (.t 70)),qr 72 (.ld false 1 (.t 71)),qm 73 12,qm 74 14,qm 75 6,qr 76 (.bin .add (.t 74) (.t 75)),qr 77 (.bin .sub (.t 76) (.k (.i .i64 1))),qr 78 (.idx 1 (.t 73) (.t 77)),qr 79 (.ld false 1 (.t 78)),qm 80 12,qm 81 14,qm 82 6,qr 83 (.bin .add (.t 81) (.t 82)),qr 84 (.bin .sub (.t 83) (.k (.i .i64 2))),qr 85 (.idx 1 (.t 80) (.t 84)),qr 86 (.ld false 1 (.t 85)),qm 87 8,qm 88 6,qr 89 (.bin .sub (.t 88) (.k (.i .i64 1))),qr 90 (.idx 1 (.t 87) (.t 89)),qr 91 (.ld false 1 (.t 90)),qm 92 8,qm 93 6,qr 94 (.bin .sub (.t 93) (.k (.i .i64 2))),qr 95 (.idx 1 (.t 92) (.t 94)),qr 96 (.ld false 1 (.t 95)),qr 97 (.call 98 [(1,(.t 72)),(1,(.t 79)),(1,(.t 86)),(1,(.t 91)),(1,(.t 96))]),qm 15 97]) (.seq (.reg [qm 99 12,qm 100 14,qm 101 14,qm 102 6,qr 103 (.bin .add (.t 101) (.t 102)),qr 104 (.sub 1 (.t 99) (some (.t 100)) (some (.t 103))),qm 105 8,qm 106 15,qr 107 (.call 99 [(1,(.t 104)),(1,(.t 105)),(1,(.t 106))]),qm 98 107,qr 108 (.ext (.t 98) 0),qr 109 (.ext (.t 98) 1),qr 110 (.ext (.t 98) 2),qm 16 108,qm 17 109,qm 18 110]) (.seq (.reg [qm 112 12,qm 113 14,qm 114 6,qr 115 (.bin .add (.t 113) (.t 114)),qr 116 (.idx 1 (.t 112) (.t 115)),qr 117 (.ld false 1 (.t 116)),qm 118 17,qr 119 (.jU 100 [(.t 117),(.t 118),(.k (.i .u64 0))]),qm 111 119,qr 120 (.ext (.t 111) 0),qr 121 (.ext (.t 111) 1),qm 19 120,qm 20 121]) (.seq (.reg [qm 122 12,qm 123 14,qr 124 (.sub 1 (.t 122) (some (.t 123)) none),qm 125 16,qr 126 (.Fq 1 (.t 124) (.t 125))]) (.seq (.reg [qm 127 12,qm 128 14,qm 129 6,qr 130 (.bin .add (.t 128) (.t 129)),qm 131 19,qr 132 (.idx 1 (.t 127) (.t 130)),qn (.st 1 (.t 132) (.t 131))]) (.seq (.seq (.reg [qm 133 20,qr 134 (.bin .eql (.t 133) (.k (.i .u64 1)))]) (.cond (.t 134) (.seq (.reg [qm 135 15,qr 136 (.bin .sub (.t 135) (.k (.i .u64 1))),qm 15 136]) (.seq (.reg [qm 138 12,qm 139 14,qm 140 14,qm 141 6,qr 142 (.bin .add (.t 140) (.t 141)),qr 143 (.sub 1 (.t 138) (some (.t 139)) (some (.t 142))),qm 144 8,qr 145 (.call 65 [(1,(.t 143)),(1,(.t 144))]),qm 137 145,qr 146 (.ext (.t 137) 0),qr 147 (.ext (.t 137) 1),qm 21 146,qm 22 147]) (.seq (.reg [qm 148 12,qm 149 14,qr 150 (.sub 1 (.t 148) (some (.t 149)) none),qm 151 21,qr 152 (.Fq 1 (.t 150) (.t 151))]) (.reg [qm 153 12,qm 154 14,qm 155 6,qr 156 (.bin .add (.t 154) (.t 155)),qr 157 (.idx 1 (.t 153) (.t 156)),qr 158 (.ld false 1 (.t 157)),qm 159 22,qr 160 (.bin .add (.t 158) (.t 159)),qr 161 (.idx 1 (.t 153) (.t 156)),qn (.st 1 (.t 161) (.t 160))])))) (.skip))) (.reg [qm 162 13,qm 163 14,qm 164 15,qr 165 (.idx 1 (.t 162) (.t 163)),qn (.st 1 (.t 165) (.t 164))])))))))) (.reg [qm 65 14,qr 66 (.bin .sub (.t 65) (.k (.i .i64 1))),qm 14 66])))))) (.seq (.reg [qm 167 12,qm 168 6,qr 169 (.sub 1 (.t 167) none (some (.t 168))),qm 170 7,qr 171 (.call 51 [(1,(.t 169)),(1,(.t 170))]),qm 166 171,qr 172 (.ext (.t 166) 0),qr 173 (.ext (.t 166) 1),qm 23 172,qm 24 173]) (.seq (.reg [qm 174 13,qr 175 (.call 44 [(1,(.t 174))]),qm 176 23,qm 4 175,qm 5 176]) (.ret))))))))))
end Go.Proofs.YtoehbmlfnjlchaaGreatDoor
namespace Go.Proofs.YtoehbmlfnjlchaaGreatDoor
open Go Go.RowKit Ab
def bz_M9:=an @wi (an @bI (an @Nat.div_one (an @Nat.mul_one (an @aU (an @gU (an @gQ (an @fK @dD)))))))
def a53:AC:= .seq (.reg [qr 2 (.mv (.k .nl))]) (.seq (.reg [qm 3 0,qr 4 (.nz 54 1 1 [(.i .u64 0)] [(0,(.t 3))]),qr 5 (.call 66 [(1,(.t 4))]),qm 2 5]) (.ret))
theorem pK(w:Nat)(hw:w<18446744073709551616):aF Tryz.prog J0 53 [.i .u64 (w:Int)] (.o 54 1 (W (dg B w))):=by
 have ho:=CG [w] (fun x hx=>by rw[List.mem_singleton]at hx;subst hx;exact hw) sy;rw[vW]at ho;refine ja dB eY Tryz.func53 a53 ?_;unfold a53;simp only[ak,aH,qm,qr,qn];exact tC (ai @W1 (ai @PI (ai @aW @bz_M9)))
def a71:AC:= .seq (.reg [qr 4 (.mv (.k .nl)),qr 5 (.mv (.k (.i .u64 0))),qr 6 (.mv (.k (.i .i64 0)))]) (.seq (.reg [qm 11 0,qm 12 1,qr 13 (.call 95 [(1,(.t 11)),(1,(.t 12))]),qm 10 13,qr 14 (.ext (.t 10) 0),qr 15 (.ext (.t 10) 1),qr 16 (.ext (.t 10) 2),qm 7 14,qm 8 15,qm 9 16]) (.seq (.seq (.reg [qm 17 9,qr 18 (.bin .neq (.t 17) (.k (.i .i64 0)))]) (.cond (.t 18) (.seq (.reg [qm 19 9,qr 4 (.mv (.k .nl)),qr 5 (.mv (.k (.i .u64 0))),qm 6 19]) (.ret)) (.skip))) (.seq (.reg [qm 20 7,qr 21 (.call 44 [(1,(.t 20))]),qm 22 8,qm 4 21,qm 5 22,qr 6 (.mv (.k (.i .i64 0)))]) (.ret))))
