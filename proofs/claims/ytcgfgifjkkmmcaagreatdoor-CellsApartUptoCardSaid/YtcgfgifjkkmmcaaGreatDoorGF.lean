import Derived.Lib.Mul64
import Derived.Lib.Walk
import Derived.Lib.AppendZerosOnto
import Derived.Test.YtcgfgifjkkmmcaaGreatDoorGD
set_option linter.all false
set_option maxRecDepth 2000000
set_option maxHeartbeats 10000000
namespace Go.Proofs.YtcgfgifjkkmmcaaGreatDoor
open Go Go.RowKit Ab
def wI:=an @wi (an @aO (an @Nat.div_one @Nat.mul_one))
theorem jQ(a b:Nat):IntKind.u64.wrap ((a:Int)*(b:Int))=((a*b%18446744073709551616:Nat):Int):=by
 rw[IntKind.wrap_u64,←Int.natCast_mul];omega
theorem iT(a b:Nat):IntKind.u64.wrap ((a:Int)+(b:Int))=(((a+b)%18446744073709551616:Nat):Int):=by
 rw[IntKind.wrap_u64];omega
theorem YL(a:Nat)(h:a<18446744073709551616):bits .and .u64 (a:Int) 4294967295=((a%4294967296:Nat):Int):=by
 rw[show(4294967295:Int)=((4294967295:Nat):Int)from rfl,QH a _ h dc,show(4294967295:Nat)=2^32-1 from rfl,Nat.and_two_pow_sub_one_eq_mod]
theorem kQ(a:Nat):(a:Int).fdiv (2^(min (32:Int).toNat IntKind.u64.bits))=((a/4294967296:Nat):Int):=jT a 32 dc
theorem Au(x y:Nat)(hx:x<18446744073709551616)(hy:y<18446744073709551616):ah Tryz.prog J0 150 [.i .u64 (x:Int),.i .u64 (y:Int)] (.t [.i .u64 ((x*y/18446744073709551616:Nat):Int),.i .u64 ((x*y%18446744073709551616:Nat):Int)]):=by
 obtain⟨h1,h2,h3,h4⟩:=Lib.mul64_hi x y hx hy;have h5:x*y/18446744073709551616<18446744073709551616:=(Nat.div_lt_iff_lt_mul dc).2 (Nat.mul_lt_mul_of_lt_of_lt hx hy);rw[←h4]at h5;rw[←h4];refine d_ aX bV Tryz.func150 ?_;refine aJ (ai @iT (ai @jQ (ai @kQ (ai @YL @wI)))) ?_;refine uI (ai @iV @wI) ?_;rw[Nat.mod_eq_of_lt h1];have e2:x/4294967296*(y%4294967296)%18446744073709551616=x/4294967296*(y%4294967296):=Nat.mod_eq_of_lt om;have e3:x%4294967296*(y/4294967296)%18446744073709551616=x%4294967296*(y/4294967296):=Nat.mod_eq_of_lt om;have e4:x/4294967296*(y/4294967296)%18446744073709551616=x/4294967296*(y/4294967296):=Nat.mod_eq_of_lt om;rw[e2,e3,e4,Nat.mod_eq_of_lt h2,Nat.mod_eq_of_lt h3];generalize x/4294967296*(y/4294967296)=a at*
 generalize x/4294967296*(y%4294967296)=b at*
 generalize x%4294967296*(y/4294967296)=c at*
 generalize x%4294967296*(y%4294967296)=d at*
 omega
theorem zt{x y a b:Nat}(hx:x<18446744073709551616)(hy:y<18446744073709551616)(ha:a<18446744073709551616)(hb:b<18446744073709551616):(x*y+a+b)/18446744073709551616<18446744073709551616:=by
 refine(Nat.div_lt_iff_lt_mul dc).2 ?_;have:=Nat.mul_le_mul (Nat.le_sub_one_of_lt hx) (Nat.le_sub_one_of_lt hy);omega
theorem tJ(x y a b:Nat)(hx:x<18446744073709551616)(hy:y<18446744073709551616)(ha:a<18446744073709551616)(hb:b<18446744073709551616):
 ah Tryz.prog J0 139 [.i .u64 (x:Int),.i .u64 (y:Int),.i .u64 (a:Int),.i .u64 (b:Int)] (.t [.i .u64 (((x*y+a+b)/18446744073709551616:Nat):Int),.i .u64 (((x*y+a+b)%18446744073709551616:Nat):Int)]):=by
 have hlt:=zt hx hy ha hb
 refine d_ aX bV Tryz.func139 ?_
 have U6:=Au x y hx hy
 have zc2:=pJ (x*y%18446744073709551616) a b om ha hb
 refine qc (ai @iT @wI) ?_
 refine uI (ai @iV @wI) ?_
 generalize x*y=p at*
 omega
def Oy(A V w P:Nat):Nat:=(V*w+(P-1-A))/P
theorem Ws{A V w P o c:Nat}(ho:o<P)(hA:A<P)(h:o+V*w=A+P*c):c=Oy A V w P∧o=A+P*Oy A V w P-V*w:=by
 have e:Oy A V w P=c:=by
  unfold Oy;rw[show V*w+(P-1-A)=(P-1-o)+P*c from om,Nat.add_mul_div_left _ _ om,Nat.div_eq_of_lt om,Nat.zero_add]
 rw[e];exact⟨rfl,om⟩
theorem QQ{A V w P o c:Nat}(hV:V<P)(hA:A<P)(ho:o<P)(h:o+V*w=A+P*c):c≤w:=by
 rcases Nat.lt_or_ge w c with hc|hc
 ·have h1:P*(w+1)≤P*c:=Nat.mul_le_mul_left P hc;have h2:V*w≤P*w:=Nat.mul_le_mul_right w (Nat.le_of_lt hV);rw[Nat.mul_succ]at h1;omega
 ·exact hc
theorem Wu{A V w P o c x y:Nat}(h:o+V*w=A+P*c)(hx:x<B):
 o+P*((x+B-(y*w+c)%B)%B)+(V+P*y)*w=(A+P*x)+P*B*((y*w+c)/B+if x<(y*w+c)%B then 1 else 0):=by
 have h1:=Nat.div_add_mod (y*w+c) B
 have h2:=Nat.mod_lt (y*w+c) (by decide:0<B)
 have e:(x+B-(y*w+c)%B)%B+(y*w+c)=x+B*((y*w+c)/B+if x<(y*w+c)%B then 1 else 0):=by
  generalize (y*w+c)/B=q at*
  generalize (y*w+c)%B=r at*
  unfold B at*
  split<;>omega
 have e2:(V+P*y)*w=V*w+P*(y*w):=by rw[Nat.add_mul,Nat.mul_assoc]
 have e3:=congrArg (P*·) e
 simp only[Nat.mul_add]at e3
 rw[e2,Nat.mul_assoc P B,Nat.mul_add B]
 rw[Nat.mul_add]
 generalize P*((x+B-(y*w+c)%B)%B)=u1 at*
 generalize P*(y*w)=u2 at*
 generalize P*c=u3 at*
 generalize P*x=u4 at*
 generalize P*(B*((y*w+c)/B))=u5 at*
 generalize P*(B*if x<(y*w+c)%B then 1 else 0)=u6 at*
 omega
theorem F7(a b:List Nat)(w:Nat)(ha:Wd a)(hb:Wd b)(hw:w<18446744073709551616)(la:a.length≤1099511627776)(lb:b.length≤a.length):
 ah Tryz.prog J0 156 [.l 1 (W a),.l 1 (W b),.i .u64 (w:Int)]
  (.fr (.t [.l 1 (W (fl B a.length (nv B a+B^a.length*Oy (nv B a) (nv B b) w (B^a.length)-nv B b*w))),.i .u64 ((Oy (nv B a) (nv B b) w (B^a.length):Nat):Int),.i .i64 0])):=by
 refine d_ aX bV Tryz.func156 ?_
 have g0:¬(a.length:Int)<b.length:=om
 have zc3:=kF a om
 repeat first|(refine hK _ ?_;clear hK K)|simp only[Sv,↓reduceIte,Nat.reduceEqDiff]|((first|refine ay (fun K hK=>?_)|refine aB (fun K hK=>?_)|refine au (fun K hK=>?_)|refine kL ?_|refine iL (by assumption) ?_|refine kM ?_|(apply iM;assumption)|(apply iP;assumption));simp(disch:=(first|omega|assumption)) only[S1,seval,-Int.reduceToNat,-List.reduceReplicate,a_.sb,a_.mut,bZ,↓Bool.false_eq_true,beq_self_eq_true,ite_self,wI,aH,g0,eY])
 refine aF [] (Nat×List Nat×Nat) (fun x=>⟨[(1,.l 1 (W b)),(2,.i .u64 (w:Int)),(9,.ow 1 0 a.length),(10,.i .u64 (x.2.2:Int)),(24,.i .i64 (a.length:Int)),(25,.i .i64 (x.1:Int))],
  [(0,some ⟨31,1,W (x.2.1++a.drop x.1),true,false⟩)],1⟩)
  (fun x=>x.1≤a.length∧x.2.1.length=x.1∧Wd x.2.1∧nv B x.2.1+nv B (b.take x.1)*w=nv B (a.take x.1)+B^x.1*x.2.2) (fun x=>a.length-x.1) (0,[],0)
  ⟨Nat.zero_le _,rfl,I9,by simp[nv]⟩ (by exact mF) (by
  exact jO) ?_
 rintro⟨i,o,c⟩ ⟨hi,lo,wo,hrel⟩ Q' hQ he hr
 simp only[]at hi lo wo hrel ⊢
 have hol:=bY wo
 rw[lo]at hol
 by_cases hlt:(i:Int)<a.length
 ·have hlt':i<a.length:=om;have hcw:=QQ (aZ (b:=B) dc hb i) (aZ (b:=B) dc ha i) hol hrel;have hai:=dA ha i;have hbi:=dA hb i;have hget:(o++a.drop i).getD i 0=a.getD i 0:=by rw[List.getD_eq_getElem?_getD,List.getElem?_append_right om,lo,Nat.sub_self,List.getElem?_drop,List.getD_eq_getElem?_getD];rfl
  have hll:(o++a.drop i).length=a.length:=by rw[List.length_append,lo,List.length_drop];omega
  have hst:=Wu (y:=b.getD i 0) hrel hai;have hmw:=tJ (b.getD i 0) w c 0 hbi hw om dc;have hlw:=zt hbi hw (show c<18446744073709551616 by omega) (show 0<18446744073709551616 by decide);rw[Nat.add_zero]at hmw hlw;generalize b.getD i 0*w+c=t at*
  have hsw:=CJ (a.getD i 0) (t%18446744073709551616) 0 hai om dc;simp only[Nat.add_zero]at hsw;have hw2:Wd (o++[(a.getD i 0+18446744073709551616-t%18446744073709551616)%18446744073709551616]):=QG wo (fun x hx=>by rw[List.mem_singleton]at hx;subst hx;unfold B;omega);have YM:nv B (o++[(a.getD i 0+18446744073709551616-t%18446744073709551616)%18446744073709551616])+nv B (b.take (i+1))*w=nv B (a.take (i+1))+B^(i+1)*(t/18446744073709551616+if a.getD i 0<t%18446744073709551616 then 1 else 0):=by
   rw[qj,I8,lo,af,af,Nat.pow_succ];exact hst
  have hl2:(o++[(a.getD i 0+18446744073709551616-t%18446744073709551616)%18446744073709551616]).length=i+1:=by rw[List.length_append,lo,List.length_singleton]
  have hol2:=bY hw2;rw[hl2]at hol2;have hcw2:=QQ (aZ (b:=B) dc hb (i+1)) (aZ (b:=B) dc ha (i+1)) hol2 YM;have hset:(o++a.drop i).set i ((a.getD i 0+18446744073709551616-t%18446744073709551616)%18446744073709551616)=o++[(a.getD i 0+18446744073709551616-t%18446744073709551616)%18446744073709551616]++a.drop (i+1):=by
   rw[List.drop_eq_getElem_cons hlt',List.set_append_right _ _ om,lo,Nat.sub_self,List.set_cons_zero,List.append_assoc];rfl
  have zc4:=jr b i;refine qc (ai @hset (ai @iQ (ai @iT (ai @hget (ai @cZ (ai @hll (ai @aH (ai @hlt @wI)))))))) ?_;refine hQ _ (i+1,o++[(a.getD i 0+18446744073709551616-t%18446744073709551616)%18446744073709551616],t/18446744073709551616+if a.getD i 0<t%18446744073709551616 then 1 else 0) ⟨by simp only;omega,hl2,hw2,YM⟩ (by simp only;omega) ?_;refine nO trivial ?_;refine⟨?_,om⟩;rw[Nat.mod_eq_of_lt om]
 ·obtain rfl:i=a.length:=om;refine aJ (ai @hlt @wI) ?_;refine he _ _ ?_;rw[List.take_of_length_le om,List.take_of_length_le (Nat.le_refl _)]at hrel;obtain⟨e1,e2⟩:=Ws hol (bY ha) hrel;have e3:fl B a.length (nv B a+B^a.length*Oy (nv B a) (nv B b) w (B^a.length)-nv B b*w)=o:=by rw[←e2,←lo,vK wo]
  rw[e3,←e1];refine aJ @wI ?_;simp(disch:=(first|omega|assumption)) only[fM,iW,jb,lY,iC,V.aQ,and_true,true_and,S1,seval,-Int.reduceToNat,-List.reduceReplicate,a_.sb,a_.mut,bZ,↓Bool.false_eq_true,beq_self_eq_true,ite_self,wI,List.drop_length,List.append_nil,eY]
end Go.Proofs.YtcgfgifjkkmmcaaGreatDoor
namespace Go.Proofs.YtcgfgifjkkmmcaaGreatDoor
open Go Go.RowKit Ab
def kR:=an @wi (an @aO (an @Nat.div_one @Nat.mul_one))
def bt:List UInt8:=(List.range 256).map fun i=>UInt8.ofNat (bl i)
theorem lM:([0,1,2,2,3,3,3,3,4,4,4,4,4,4,4,4,5,5,5,5,5,5,5,5,5,5,5,5,5,5,5,5,6,6,6,6,6,6,6,6,6,6,6,6,6,6,6,6,6,6,6,6,6,6,6,6,6,6,6,6,6,6,6,6,7,7,7,7,7,7,7,7,7,7,7,7,7,7,7,7,7,7,7,7,7,7,7,7,7,7,7,7,7,7,7,7,7,7,7,7,7,7,7,7,7,7,7,7,7,7,7,7,7,7,7,7,7,7,7,7,7,7,7,7,7,7,7,7,8,8,8,8,8,8,8,8,8,8,8,8,8,8,8,8,8,8,8,8,8,8,8,8,8,8,8,8,8,8,8,8,8,8,8,8,8,8,8,8,8,8,8,8,8,8,8,8,8,8,8,8,8,8,8,8,8,8,8,8,8,8,8,8,8,8,8,8,8,8,8,8,8,8,8,8,8,8,8,8,8,8,8,8,8,8,8,8,8,8,8,8,8,8,8,8,8,8,8,8,8,8,8,8,8,8,8,8,8,8,8,8,8,8,8,8,8,8,8,8,8,8,8,8,8,8,8,8]:List UInt8)=bt:=by decide+kernel
theorem jd:bt.length=256:=by decide+kernel
theorem bt_all:∀i,i<256→(bt.getD i 0).toNat=bl i:=by decide+kernel
theorem je(x:Nat)(h:x<256):(((bt.getD x 0).toNat:Nat):Int)=((bl x:Nat):Int):=by rw[bt_all x h]
theorem lN(a:Nat):(a:Int).fdiv (2^(min (16:Int).toNat IntKind.u64.bits))=((a/65536:Nat):Int):=jT a 16 dc
theorem uq(a:Nat):(a:Int).fdiv (2^(min (8:Int).toNat IntKind.u64.bits))=((a/256:Nat):Int):=jT a 8 dc
theorem w8(a:Nat)(h:a<256):IntKind.u8.wrap (a:Int)=(a:Int):=by rw[IntKind.wrap_u8];omega
theorem bl32{x:Nat}(h:4294967296≤x):bl x=32+bl (x/4294967296):=DV (n:=32) h
theorem bl16{x:Nat}(h:65536≤x):bl x=16+bl (x/65536):=DV (n:=16) h
theorem bl8{x:Nat}(h:256≤x):bl x=8+bl (x/256):=DV (n:=8) h
def a142:AC:= .seq (.reg [qr 2 (.mv (.k (.i .i64 0)))]) (.seq (.seq (.reg [qm 3 0,qr 4 (.bin .geq (.t 3) (.k (.i .u64 4294967296)))]) (.cond (.t 4) (.seq (.reg [qm 5 0,qr 6 (.bin .shr (.t 5) (.k (.i .u64 32))),qm 0 6]) (.reg [qr 2 (.mv (.k (.i .i64 32)))])) (.skip))) (.seq (.seq (.reg [qm 7 0,qr 8 (.bin .geq (.t 7) (.k (.i .u64 65536)))]) (.cond (.t 8) (.seq (.reg [qm 9 0,qr 10 (.bin .shr (.t 9) (.k (.i .u64 16))),qm 0 10]) (.reg [qm 11 2,qr 12 (.bin .add (.t 11) (.k (.i .i64 16))),qm 2 12])) (.skip))) (.seq (.seq (.reg [qm 13 0,qr 14 (.bin .geq (.t 13) (.k (.i .u64 256)))]) (.cond (.t 14) (.seq (.reg [qm 15 0,qr 16 (.bin .shr (.t 15) (.k (.i .u64 8))),qm 0 16]) (.reg [qm 17 2,qr 18 (.bin .add (.t 17) (.k (.i .i64 8))),qm 2 18])) (.skip))) (.seq (.reg [qm 19 2,qm 20 0,qr 21 (.Ou .u8 (.t 20)),qr 22 (.six (.k (.s [0,1,2,2,3,3,3,3,4,4,4,4,4,4,4,4,5,5,5,5,5,5,5,5,5,5,5,5,5,5,5,5,6,6,6,6,6,6,6,6,6,6,6,6,6,6,6,6,6,6,6,6,6,6,6,6,6,6,6,6,6,6,6,6,7,7,7,7,7,7,7,7,7,7,7,7,7,7,7,7,7,7,7,7,7,7,7,7,7,7,7,7,7,7,7,7,7,7,7,7,7,7,7,7,7,7,7,7,7,7,7,7,7,7,7,7,7,7,7,7,7,7,7,7,7,7,7,7,8,8,8,8,8,8,8,8,8,8,8,8,8,8,8,8,8,8,8,8,8,8,8,8,8,8,8,8,8,8,8,8,8,8,8,8,8,8,8,8,8,8,8,8,8,8,8,8,8,8,8,8,8,8,8,8,8,8,8,8,8,8,8,8,8,8,8,8,8,8,8,8,8,8,8,8,8,8,8,8,8,8,8,8,8,8,8,8,8,8,8,8,8,8,8,8,8,8,8,8,8,8,8,8,8,8,8,8,8,8,8,8,8,8,8,8,8,8,8,8,8,8,8,8,8,8,8,8])) (.t 21)),qr 23 (.Ou .i64 (.t 22)),qr 24 (.bin .add (.t 19) (.t 23)),qm 2 24]) (.ret)))))
set_option maxRecDepth 10000 in
theorem Aw(x:Nat)(hx:x<18446744073709551616):ah Tryz.prog J0 142 [.i .u64 (x:Int)] (.i .i64 ((bl x:Nat):Int)):=by
 refine mkQ aX bV Tryz.func142 a142 ?_;unfold a142;simp only[fZ,fC,qm,qr,qn];by_cases h32:(4294967296:Int)≤(x:Int)
 ·have e32:=bl32 (x:=x) om;by_cases h16:(65536:Int)≤((x/4294967296:Nat):Int)
  ·have e16:=bl16 (x:=x/4294967296) om;by_cases h8:(256:Int)≤((x/4294967296/65536:Nat):Int)
   ·have e8:=bl8 (x:=x/4294967296/65536) om;have hb:=qP (x:=x/4294967296/65536) om;repeat first|(refine hK _ ?_;clear hK K)|simp only[Sv,↓reduceIte,Nat.reduceEqDiff]|((first|refine ay (fun K hK=>?_)|refine aB (fun K hK=>?_)|refine au (fun K hK=>?_));simp(disch:=(first|omega|assumption)) only[S1,seval,-Int.reduceToNat,-List.reduceReplicate,a_.sb,a_.mut,bZ,↓Bool.false_eq_true,beq_self_eq_true,ite_self,kR,h32,h16,h8,kQ,lN,uq,w8,↓lM,jd,je])
    simp(disch:=(first|omega|assumption)) only[fM,iW,jb,lY,iC,V.aQ,and_true,true_and,S1,seval,-Int.reduceToNat,-List.reduceReplicate,a_.sb,a_.mut,bZ,↓Bool.false_eq_true,beq_self_eq_true,ite_self,kR,h32,h16,h8,kQ,lN,uq,w8,↓lM,jd,je];try (congr 1;omega)
   ·have hb:=qP (x:=x/4294967296/65536) om;repeat first|(refine hK _ ?_;clear hK K)|simp only[Sv,↓reduceIte,Nat.reduceEqDiff]|((first|refine ay (fun K hK=>?_)|refine aB (fun K hK=>?_)|refine au (fun K hK=>?_));simp(disch:=(first|omega|assumption)) only[S1,seval,-Int.reduceToNat,-List.reduceReplicate,a_.sb,a_.mut,bZ,↓Bool.false_eq_true,beq_self_eq_true,ite_self,kR,h32,h16,h8,kQ,lN,uq,w8,↓lM,jd,je])
    simp(disch:=(first|omega|assumption)) only[fM,iW,jb,lY,iC,V.aQ,and_true,true_and,S1,seval,-Int.reduceToNat,-List.reduceReplicate,a_.sb,a_.mut,bZ,↓Bool.false_eq_true,beq_self_eq_true,ite_self,kR,h32,h16,h8,kQ,lN,uq,w8,↓lM,jd,je];try (congr 1;omega)
  ·by_cases h8:(256:Int)≤((x/4294967296:Nat):Int)
   ·have e8:=bl8 (x:=x/4294967296) om;have hb:=qP (x:=x/4294967296) om;repeat first|(refine hK _ ?_;clear hK K)|simp only[Sv,↓reduceIte,Nat.reduceEqDiff]|((first|refine ay (fun K hK=>?_)|refine aB (fun K hK=>?_)|refine au (fun K hK=>?_));simp(disch:=(first|omega|assumption)) only[S1,seval,-Int.reduceToNat,-List.reduceReplicate,a_.sb,a_.mut,bZ,↓Bool.false_eq_true,beq_self_eq_true,ite_self,kR,h32,h16,h8,kQ,lN,uq,w8,↓lM,jd,je])
    simp(disch:=(first|omega|assumption)) only[fM,iW,jb,lY,iC,V.aQ,and_true,true_and,S1,seval,-Int.reduceToNat,-List.reduceReplicate,a_.sb,a_.mut,bZ,↓Bool.false_eq_true,beq_self_eq_true,ite_self,kR,h32,h16,h8,kQ,lN,uq,w8,↓lM,jd,je];try (congr 1;omega)
   ·have hb:=qP (x:=x/4294967296) om;repeat first|(refine hK _ ?_;clear hK K)|simp only[Sv,↓reduceIte,Nat.reduceEqDiff]|((first|refine ay (fun K hK=>?_)|refine aB (fun K hK=>?_)|refine au (fun K hK=>?_));simp(disch:=(first|omega|assumption)) only[S1,seval,-Int.reduceToNat,-List.reduceReplicate,a_.sb,a_.mut,bZ,↓Bool.false_eq_true,beq_self_eq_true,ite_self,kR,h32,h16,h8,kQ,lN,uq,w8,↓lM,jd,je])
    simp(disch:=(first|omega|assumption)) only[fM,iW,jb,lY,iC,V.aQ,and_true,true_and,S1,seval,-Int.reduceToNat,-List.reduceReplicate,a_.sb,a_.mut,bZ,↓Bool.false_eq_true,beq_self_eq_true,ite_self,kR,h32,h16,h8,kQ,lN,uq,w8,↓lM,jd,je];try (congr 1;omega)
 ·by_cases h16:(65536:Int)≤(x:Int)
  ·have e16:=bl16 (x:=x) om;by_cases h8:(256:Int)≤((x/65536:Nat):Int)
   ·have e8:=bl8 (x:=x/65536) om;have hb:=qP (x:=x/65536) om;repeat first|(refine hK _ ?_;clear hK K)|simp only[Sv,↓reduceIte,Nat.reduceEqDiff]|((first|refine ay (fun K hK=>?_)|refine aB (fun K hK=>?_)|refine au (fun K hK=>?_));simp(disch:=(first|omega|assumption)) only[S1,seval,-Int.reduceToNat,-List.reduceReplicate,a_.sb,a_.mut,bZ,↓Bool.false_eq_true,beq_self_eq_true,ite_self,kR,h32,h16,h8,kQ,lN,uq,w8,↓lM,jd,je])
    simp(disch:=(first|omega|assumption)) only[fM,iW,jb,lY,iC,V.aQ,and_true,true_and,S1,seval,-Int.reduceToNat,-List.reduceReplicate,a_.sb,a_.mut,bZ,↓Bool.false_eq_true,beq_self_eq_true,ite_self,kR,h32,h16,h8,kQ,lN,uq,w8,↓lM,jd,je];try (congr 1;omega)
   ·have hb:=qP (x:=x/65536) om;repeat first|(refine hK _ ?_;clear hK K)|simp only[Sv,↓reduceIte,Nat.reduceEqDiff]|((first|refine ay (fun K hK=>?_)|refine aB (fun K hK=>?_)|refine au (fun K hK=>?_));simp(disch:=(first|omega|assumption)) only[S1,seval,-Int.reduceToNat,-List.reduceReplicate,a_.sb,a_.mut,bZ,↓Bool.false_eq_true,beq_self_eq_true,ite_self,kR,h32,h16,h8,kQ,lN,uq,w8,↓lM,jd,je])
    simp(disch:=(first|omega|assumption)) only[fM,iW,jb,lY,iC,V.aQ,and_true,true_and,S1,seval,-Int.reduceToNat,-List.reduceReplicate,a_.sb,a_.mut,bZ,↓Bool.false_eq_true,beq_self_eq_true,ite_self,kR,h32,h16,h8,kQ,lN,uq,w8,↓lM,jd,je];try (congr 1;omega)
  ·by_cases h8:(256:Int)≤((x:Nat):Int)
   ·have e8:=bl8 (x:=x) om;have hb:=qP (x:=x) om;repeat first|(refine hK _ ?_;clear hK K)|simp only[Sv,↓reduceIte,Nat.reduceEqDiff]|((first|refine ay (fun K hK=>?_)|refine aB (fun K hK=>?_)|refine au (fun K hK=>?_));simp(disch:=(first|omega|assumption)) only[S1,seval,-Int.reduceToNat,-List.reduceReplicate,a_.sb,a_.mut,bZ,↓Bool.false_eq_true,beq_self_eq_true,ite_self,kR,h32,h16,h8,kQ,lN,uq,w8,↓lM,jd,je])
    simp(disch:=(first|omega|assumption)) only[fM,iW,jb,lY,iC,V.aQ,and_true,true_and,S1,seval,-Int.reduceToNat,-List.reduceReplicate,a_.sb,a_.mut,bZ,↓Bool.false_eq_true,beq_self_eq_true,ite_self,kR,h32,h16,h8,kQ,lN,uq,w8,↓lM,jd,je];try (congr 1;omega)
   ·have hb:=qP (x:=x) om;repeat first|(refine hK _ ?_;clear hK K)|simp only[Sv,↓reduceIte,Nat.reduceEqDiff]|((first|refine ay (fun K hK=>?_)|refine aB (fun K hK=>?_)|refine au (fun K hK=>?_));simp(disch:=(first|omega|assumption)) only[S1,seval,-Int.reduceToNat,-List.reduceReplicate,a_.sb,a_.mut,bZ,↓Bool.false_eq_true,beq_self_eq_true,ite_self,kR,h32,h16,h8,kQ,lN,uq,w8,↓lM,jd,je])
    simp(disch:=(first|omega|assumption)) only[fM,iW,jb,lY,iC,V.aQ,and_true,true_and,S1,seval,-Int.reduceToNat,-List.reduceReplicate,a_.sb,a_.mut,bZ,↓Bool.false_eq_true,beq_self_eq_true,ite_self,kR,h32,h16,h8,kQ,lN,uq,w8,↓lM,jd,je];try (congr 1;omega)
theorem CO(x:Nat)(hx:x<18446744073709551616):ah Tryz.prog J0 153 [.i .u64 (x:Int)] (.i .i64 ((64-bl x:Nat):Int)):=by
 have hb:=qP hx;refine d_ aX bV Tryz.func153 ?_;have U6:=Aw x hx;refine wdO @kR ?_;try (congr 1;omega)
end Go.Proofs.YtcgfgifjkkmmcaaGreatDoor
namespace Go.Proofs.YtcgfgifjkkmmcaaGreatDoor
open Go Go.RowKit Ab
def di:=an @wi (an @aO (an @Nat.div_one @Nat.mul_one))
theorem yT(a:Nat):IntKind.u64.wrap (4294967296*(a:Int))=((4294967296*a%18446744073709551616:Nat):Int):=jQ 4294967296 a
theorem qU(a:Nat):IntKind.u64.wrap ((a:Int)*4294967296)=((a*4294967296%18446744073709551616:Nat):Int):=jQ a 4294967296
theorem F8(a b:Nat)(h:a<18446744073709551616):IntKind.u64.wrap ((a:Int).tdiv (b:Int))=((a/b:Nat):Int):=by
 have e:(a:Int).tdiv (b:Int)=((a/b:Nat):Int):=rfl;have:=Nat.div_le_self a b;rw[e,IntKind.wrap_u64];generalize a/b=c at*
 omega
theorem tmodU(a b:Nat):(a:Int).tmod (b:Int)=((a%b:Nat):Int):=rfl
theorem iF(a:Nat)(h1:1≤a)(h2:a<18446744073709551616):IntKind.u64.wrap ((a:Int)-1)=((a-1:Nat):Int):=by rw[IntKind.wrap_u64];omega
theorem sub64(a:Nat)(h:a≤64):IntKind.u64.wrap (64-(a:Int))=((64-a:Nat):Int):=by rw[IntKind.wrap_u64];omega
theorem cvtU(a:Nat)(h:a≤64):IntKind.u64.wrap (a:Int)=(a:Int):=by rw[IntKind.wrap_u64];omega
theorem QR(u a b:Nat):(u*4294967296+a)*4294967296+b=u*18446744073709551616+(a*4294967296+b):=om
theorem p32:2^(32:Int).toNat=4294967296:=rfl
theorem Wx(a b:Nat)(h:a<18446744073709551616):IntKind.u64.wrap ((a:Int)-((a/b*b%18446744073709551616:Nat):Int))=((a%b:Nat):Int):=by
 have e:=Nat.div_add_mod a b;rw[Nat.mul_comm]at e;have h2:a/b*b<18446744073709551616:=om;rw[Nat.mod_eq_of_lt h2,IntKind.wrap_u64];generalize a/b*b=c at*
 omega
theorem remM'{u u1 c m N:Nat}(hN:u*4294967296+u1=N)(e:c+m=N)(hm:m<18446744073709551616):
 IntKind.u64.wrap ((((u*4294967296%18446744073709551616+u1)%18446744073709551616:Nat):Int)-((c%18446744073709551616:Nat):Int))=(m:Int):=by
 rw[IntKind.wrap_u64]
 omega
theorem yU{u u1 q Y:Nat}(hY:Y<18446744073709551616)(hY0:0<Y)(hq:q=(u*4294967296+u1)/Y):
 IntKind.u64.wrap ((((u*4294967296%18446744073709551616+u1)%18446744073709551616:Nat):Int)-((q*Y%18446744073709551616:Nat):Int))=(((u*4294967296+u1)%Y:Nat):Int):=by
 have e:=Nat.div_add_mod (u*4294967296+u1) Y
 have hm:=Nat.mod_lt (u*4294967296+u1) hY0
 rw[←hq,Nat.mul_comm]at e
 exact remM' rfl e (Nat.lt_trans hm hY)
theorem fQ{Y fJ kY u32 u1 q r:Nat}(hY:fJ*4294967296+kY=Y)(h:q*fJ+r=u32)(h2:q*kY≤4294967296*r+u1):q*Y≤u32*4294967296+u1:=hY▸QK h h2
theorem tK{Y fJ kY u32 u1 q r:Nat}(hY:fJ*4294967296+kY=Y)(h:q*fJ+r=u32)(h2:4294967296*r+u1<q*kY):u32*4294967296+u1<q*Y:=hY▸QL h h2
theorem tV{Y fJ kY u32 u1:Nat}(hY:fJ*4294967296+kY=Y)(h31:2147483648≤fJ)(h0:kY<4294967296)(hu:u32<Y)(h1:u1<4294967296):
 u32/fJ*fJ+u32%fJ=u32∧u32*4294967296+u1<(u32/fJ+1)*Y∧u32/fJ≤4294967297:=by
 subst hY;exact QM h31 h0 hu h1
theorem jo{q fJ r u:Nat}(h:q*fJ+r=u)(h0:1≤q):(q-1)*fJ+(r+fJ)=u:=by
 obtain⟨p,rfl⟩:∃p,q=p+1:=⟨q-1,om⟩;rw[Nat.add_sub_cancel,←h,Nat.add_mul,Nat.one_mul];omega
theorem Az(hi lo y:Nat)(hh:hi<y)(hy:y<18446744073709551616)(hl:lo<18446744073709551616):
 ah Tryz.prog J0 159 [.i .u64 (hi:Int),.i .u64 (lo:Int),.i .u64 (y:Int)] (.t [.i .u64 (((hi*18446744073709551616+lo)/y:Nat):Int),.i .u64 (((hi*18446744073709551616+lo)%y:Nat):Int)]):=by
 have hy0:y≠0:=om
 obtain⟨hn1,hn2⟩:=Nz hy0 hy
 have hs:64-bl y≤64:=om
 have hlz:=CO y hy
 generalize 64-bl y=s at*
 have c1:¬(y:Int)=0:=om
 have c2:¬(y:Int)≤(hi:Int):=om
 refine d_ aX bV Tryz.func159 ?_
 by_cases hz:(hi:Int)=0
 ·obtain rfl:hi=0:=om;have e0:0*18446744073709551616+lo=lo:=om;rw[e0];have c3:¬(y:Int)≤0:=om;exact YI (ai @tmodU (ai @F8 (ai @c3 (ai @c2 (ai @c1 @di)))))
 ·have hsh:=shr_lt (lo:=lo) hs hl;have hsp:=NC (lo:=lo) hs;have hle:hi*2^s+2^s≤y*2^s:=by have:=Nat.mul_le_mul_right (2^s) (show hi+1≤y from hh);rwa[Nat.add_mul,Nat.one_mul]at this
  have hhm:hi*2^s%18446744073709551616=hi*2^s:=Nat.mod_eq_of_lt om;have hor:=I_ (x:=hi) hs hsh;have hlt:lo/2^(64-s)<18446744073709551616:=Nat.lt_of_le_of_lt (Nat.div_le_self _ _) hl;have hsc:=CG (U:=hi*18446744073709551616+lo) (y:=y) (s:=s);have hU:(hi*18446744073709551616+lo)*2^s=(hi*2^s+lo/2^(64-s))*18446744073709551616+lo*2^s%18446744073709551616:=by
   rw[Nat.add_mul,Nat.add_mul,Nat.mul_right_comm];omega
  have hbor:bits .or .u64 ((hi*2^s%18446744073709551616:Nat):Int) ((lo/2^(64-s):Nat):Int)=((hi*2^s+lo/2^(64-s):Nat):Int):=by
   rw[FY _ _ om hlt,hor,hhm]
  have hYm:y*2^s%18446744073709551616=y*2^s:=Nat.mod_eq_of_lt hn2;have h10:lo*2^s%18446744073709551616<18446744073709551616:=Nat.mod_lt _ dc;have hu:hi*2^s+lo/2^(64-s)<y*2^s:=om;rw[hU]at hsc;have hX:(hi*18446744073709551616+lo)/y<18446744073709551616:=(Nat.div_lt_iff_lt_mul om).2 (by have:=Nat.mul_le_mul_right 18446744073709551616 (show hi+1≤y from hh);omega);obtain⟨X,hXe⟩:∃X,X=(hi*18446744073709551616+lo)/y:=⟨_,rfl⟩;obtain⟨R,hRe⟩:∃R,R=(hi*18446744073709551616+lo)%y:=⟨_,rfl⟩;rw[←hXe]at hX hsc;rw[←hRe]at hsc;rw[←hXe,←hRe];generalize hu32:hi*2^s+lo/2^(64-s)=u32 at*
  generalize hY:y*2^s=Y at*
  generalize hu10:lo*2^s%18446744073709551616=u10 at*
  have CP:=Nat.div_add_mod' Y 4294967296;have yV:=Nat.mod_lt Y (show 0<4294967296 by decide);have hun0:=Nat.mod_lt u10 (show 0<4294967296 by decide);have hue:=Nat.div_add_mod' u10 4294967296;have hy31:2147483648≤Y/4294967296:=om;have Wy:Y/4294967296<4294967296:=om;have hun1:u10/4294967296<4294967296:=om;generalize hg1:Y/4294967296=fJ at*
  generalize hg2:Y%4294967296=kY at*
  generalize hg3:u10/4294967296=xY at*
  generalize hg4:u10%4294967296=jV at*
  have Jc:Y<18446744073709551616:=hn2;have iG:0<Y:=om;have hu64:u32<18446744073709551616:=om;have e2:(u32*4294967296+xY)*4294967296+jV=u32*18446744073709551616+u10:=by rw[QR,hue]
  have cy:¬(fJ:Int)=0:=om;repeat first|(refine hK _ ?_;clear hK K)|simp only[Sv,↓reduceIte,Nat.reduceEqDiff]|((first|refine ay (fun K hK=>?_)|refine aB (fun K hK=>?_)|refine au (fun K hK=>?_)|refine kL ?_|refine iL (by assumption) ?_|refine kM ?_|(apply iM;assumption)|(apply iP;assumption));simp(disch:=(first|omega|assumption)) only[S1,seval,-Int.reduceToNat,-List.reduceReplicate,a_.sb,a_.mut,bZ,↓Bool.false_eq_true,beq_self_eq_true,ite_self,di,c1,c2,hz,cvtU,Cf,jT,sub64,hY,hYm,hu10,hbor,p32,YL,hg1,hg2,hg3,hg4,F8,jQ,Wx,ne_eq,cy,not_false_eq_true])
  obtain⟨hi1,hi2,hi3⟩:=tV (u32:=u32) (u1:=xY) CP hy31 yV hu om;refine aF [] (Nat×Nat) (fun x=>⟨[(2,.i .u64 (Y:Int)),(8,.i .u64 (s:Int)),(9,.i .u64 (fJ:Int)),(10,.i .u64 (kY:Int)),(11,.i .u64 (u32:Int)),(13,.i .u64 (xY:Int)),(14,.i .u64 (jV:Int)),(15,.i .u64 (x.1:Int)),(16,.i .u64 (x.2:Int))],[],0⟩)
   (fun x=>x.1*fJ+x.2=u32∧x.2<4294967296∧u32*4294967296+xY<(x.1+1)*Y∧x.1≤4294967297) (fun x=>x.1) (u32/fJ,u32%fJ)
   ⟨hi1,Nat.lt_trans (Nat.mod_lt _ om) Wy,hi2,hi3⟩ (by exact mF) (by
   exact jO) ?_
  rintro⟨q,r⟩ ⟨hq1,hr1,hq2,hq3⟩ Q' hQ he hr;simp only[]at hq1 hr1 hq2 hq3 ⊢;have m4:(r+fJ)%18446744073709551616=r+fJ:=Nat.mod_eq_of_lt om;by_cases h1:(4294967296:Int)≤(q:Int)
  ·have dH:=zn (u1:=xY) hu om (show 4294967296≤q by omega);have hq0:1≤q:=by
    rcases Nat.eq_zero_or_pos q with h|h
    ·subst h;simp at dH
    ·exact h
   have hsm:=jo hq1 hq0;by_cases h3:(4294967296:Int)≤((r+fJ:Nat):Int)
   ·refine aJ (ai @h3 (ai @m4 (ai @iT (ai @iF (ai @h1 @di))))) ?_;refine he _ _ ?_;have hqe:=jq (fQ CP hsm (by have g1:=Nat.mul_le_mul (show q-1≤4294967296 by omega) (Nat.le_of_lt yV);omega)) (by rw[Nat.sub_add_cancel hq0];exact dH);have yR:q-1<18446744073709551616:=om;generalize q-1=q' at*
    have hpe:=hqe;generalize q'=p at hpe hqe ⊢;have KA:=Nat.mod_lt (u32*4294967296+xY) iG;obtain⟨v,hv⟩:∃v,v=(u32*4294967296+xY)%Y:=⟨_,rfl⟩;have hsub:=yU (u:=u32) (u1:=xY) Jc iG hqe;rw[←hv]at KA hsub;have hv64:v<18446744073709551616:=Nat.lt_trans KA Jc;refine aJ (ai @Wx (ai @F8 (ai @not_false_eq_true (ai @cy (ai @neqA (ai @hsub (ai @qU (ai @iT (ai @jQ @di))))))))) ?_;obtain⟨hi1,hi2,hi3⟩:=tV (u32:=v) (u1:=jV) CP hy31 yV KA om;refine aF [] (Nat×Nat) (fun x=>⟨[(2,.i .u64 (Y:Int)),(8,.i .u64 (s:Int)),(9,.i .u64 (fJ:Int)),(10,.i .u64 (kY:Int)),(14,.i .u64 (jV:Int)),(15,.i .u64 (p:Int)),(17,.i .u64 (v:Int)),(18,.i .u64 (x.1:Int)),(16,.i .u64 (x.2:Int))],[],0⟩)
     (fun x=>x.1*fJ+x.2=v∧x.2<4294967296∧v*4294967296+jV<(x.1+1)*Y∧x.1≤4294967297) (fun x=>x.1) (v/fJ,v%fJ)
     ⟨hi1,Nat.lt_trans (Nat.mod_lt _ om) Wy,hi2,hi3⟩ (by exact mF) (by
     exact jO) ?_
    rintro⟨q,r⟩ ⟨hq1,hr1,hq2,hq3⟩ Q' hQ he hr;simp only[]at hq1 hr1 hq2 hq3 ⊢;have m4:(r+fJ)%18446744073709551616=r+fJ:=Nat.mod_eq_of_lt om;by_cases h1:(4294967296:Int)≤(q:Int)
    ·have dH:=zn (u1:=jV) KA om (show 4294967296≤q by omega);have hq0:1≤q:=by
      rcases Nat.eq_zero_or_pos q with h|h
      ·subst h;simp at dH
      ·exact h
     have hsm:=jo hq1 hq0;by_cases h3:(4294967296:Int)≤((r+fJ:Nat):Int)
     ·refine aJ (ai @h3 (ai @m4 (ai @iT (ai @iF (ai @h1 @di))))) ?_;refine he _ _ ?_;have hqe:=jq (fQ CP hsm (by have g1:=Nat.mul_le_mul (show q-1≤4294967296 by omega) (Nat.le_of_lt yV);omega)) (by rw[Nat.sub_add_cancel hq0];exact dH);have yR:q-1<18446744073709551616:=om;generalize q-1=q' at*
      have e1:=l_ (N:=u32*4294967296+xY) (jV:=jV) iG;rw[e2,←hv,←hpe,←hqe]at e1;obtain⟨s1,s2⟩:=hsc;rw[e1.1]at s1;rw[e1.2]at s2;repeat first
       |(refine hK _ ?_;clear hK K)
       |((first|refine ay (fun K hK=>?_)|refine aB (fun K hK=>?_)|refine au (fun K hK=>?_));simp(disch:=(first|omega|assumption)) only[S1,seval,-Int.reduceToNat,-List.reduceReplicate,a_.sb,a_.mut,bZ,↓Bool.false_eq_true,beq_self_eq_true,ite_self,di,jQ,iT,qU,yU Jc iG hqe,jT,s2];refine hK _ ?_;clear hK K)
       |simp only[Sv,↓reduceIte,Nat.reduceEqDiff]
      refine uI (ai @iV @di) ?_;try omega
     ·refine aJ (ai @h3 (ai @m4 (ai @iT (ai @iF (ai @h1 @di))))) ?_;refine hQ _ (q-1,r+fJ) ⟨hsm,by simp only;omega,by simp only;rw[Nat.sub_add_cancel hq0];exact dH,by simp only;omega⟩ (by simp only;omega) ?_;exact jO
    ·have g1:=Nat.mul_le_mul (show q≤4294967295 by omega) (show kY≤4294967295 by omega);have m1:q*kY%18446744073709551616=q*kY:=Nat.mod_eq_of_lt om;have m2:4294967296*r%18446744073709551616=4294967296*r:=Nat.mod_eq_of_lt om;have m3:(4294967296*r+jV)%18446744073709551616=4294967296*r+jV:=Nat.mod_eq_of_lt om;by_cases h2:((4294967296*r+jV:Nat):Int)<((q*kY:Nat):Int)
     ·have dH:=tK CP hq1 (show 4294967296*r+jV<q*kY by omega);have hq0:1≤q:=by
       rcases Nat.eq_zero_or_pos q with h|h
       ·subst h;simp at dH
       ·exact h
      have hsm:=jo hq1 hq0;by_cases h3:(4294967296:Int)≤((r+fJ:Nat):Int)
      ·refine aJ (ai @h3 (ai @m4 (ai @iT (ai @iF (ai @h2 (ai @m3 (ai @m2 (ai @m1 (ai @yT (ai @jQ (ai @h1 @di))))))))))) ?_;refine he _ _ ?_;have hqe:=jq (fQ CP hsm (by have g1:=Nat.mul_le_mul (show q-1≤4294967296 by omega) (Nat.le_of_lt yV);omega)) (by rw[Nat.sub_add_cancel hq0];exact dH);have yR:q-1<18446744073709551616:=om;generalize q-1=q' at*
       have e1:=l_ (N:=u32*4294967296+xY) (jV:=jV) iG;rw[e2,←hv,←hpe,←hqe]at e1;obtain⟨s1,s2⟩:=hsc;rw[e1.1]at s1;rw[e1.2]at s2;repeat first
        |(refine hK _ ?_;clear hK K)
        |((first|refine ay (fun K hK=>?_)|refine aB (fun K hK=>?_)|refine au (fun K hK=>?_));simp(disch:=(first|omega|assumption)) only[S1,seval,-Int.reduceToNat,-List.reduceReplicate,a_.sb,a_.mut,bZ,↓Bool.false_eq_true,beq_self_eq_true,ite_self,di,jQ,iT,qU,yU Jc iG hqe,jT,s2];refine hK _ ?_;clear hK K)
        |simp only[Sv,↓reduceIte,Nat.reduceEqDiff]
       refine uI (ai @iV @di) ?_;try omega
      ·refine aJ (ai @h3 (ai @m4 (ai @iT (ai @iF (ai @h2 (ai @m3 (ai @m2 (ai @m1 (ai @yT (ai @jQ (ai @h1 @di))))))))))) ?_;refine hQ _ (q-1,r+fJ) ⟨hsm,by simp only;omega,by simp only;rw[Nat.sub_add_cancel hq0];exact dH,by simp only;omega⟩ (by simp only;omega) ?_;exact jO
     ·refine aJ (ai @h2 (ai @m3 (ai @m2 (ai @m1 (ai @iT (ai @yT (ai @jQ (ai @h1 @di)))))))) ?_;refine he _ _ ?_;have hqe:=jq (fQ CP hq1 om) hq2;have yR:q<18446744073709551616:=om;have e1:=l_ (N:=u32*4294967296+xY) (jV:=jV) iG;rw[e2,←hv,←hpe,←hqe]at e1;obtain⟨s1,s2⟩:=hsc;rw[e1.1]at s1;rw[e1.2]at s2;repeat first
       |(refine hK _ ?_;clear hK K)
       |((first|refine ay (fun K hK=>?_)|refine aB (fun K hK=>?_)|refine au (fun K hK=>?_));simp(disch:=(first|omega|assumption)) only[S1,seval,-Int.reduceToNat,-List.reduceReplicate,a_.sb,a_.mut,bZ,↓Bool.false_eq_true,beq_self_eq_true,ite_self,di,jQ,iT,qU,yU Jc iG hqe,jT,s2];refine hK _ ?_;clear hK K)
       |simp only[Sv,↓reduceIte,Nat.reduceEqDiff]
      refine uI (ai @iV @di) ?_;try omega
   ·refine aJ (ai @h3 (ai @m4 (ai @iT (ai @iF (ai @h1 @di))))) ?_;refine hQ _ (q-1,r+fJ) ⟨hsm,by simp only;omega,by simp only;rw[Nat.sub_add_cancel hq0];exact dH,by simp only;omega⟩ (by simp only;omega) ?_;exact jO
  ·have g1:=Nat.mul_le_mul (show q≤4294967295 by omega) (show kY≤4294967295 by omega);have m1:q*kY%18446744073709551616=q*kY:=Nat.mod_eq_of_lt om;have m2:4294967296*r%18446744073709551616=4294967296*r:=Nat.mod_eq_of_lt om;have m3:(4294967296*r+xY)%18446744073709551616=4294967296*r+xY:=Nat.mod_eq_of_lt om;by_cases h2:((4294967296*r+xY:Nat):Int)<((q*kY:Nat):Int)
   ·have dH:=tK CP hq1 (show 4294967296*r+xY<q*kY by omega);have hq0:1≤q:=by
     rcases Nat.eq_zero_or_pos q with h|h
     ·subst h;simp at dH
     ·exact h
    have hsm:=jo hq1 hq0;by_cases h3:(4294967296:Int)≤((r+fJ:Nat):Int)
    ·refine aJ (ai @h3 (ai @m4 (ai @iT (ai @iF (ai @h2 (ai @m3 (ai @m2 (ai @m1 (ai @yT (ai @jQ (ai @h1 @di))))))))))) ?_;refine he _ _ ?_;have hqe:=jq (fQ CP hsm (by have g1:=Nat.mul_le_mul (show q-1≤4294967296 by omega) (Nat.le_of_lt yV);omega)) (by rw[Nat.sub_add_cancel hq0];exact dH);have yR:q-1<18446744073709551616:=om;generalize q-1=q' at*
     have hpe:=hqe;generalize q'=p at hpe hqe ⊢;have KA:=Nat.mod_lt (u32*4294967296+xY) iG;obtain⟨v,hv⟩:∃v,v=(u32*4294967296+xY)%Y:=⟨_,rfl⟩;have hsub:=yU (u:=u32) (u1:=xY) Jc iG hqe;rw[←hv]at KA hsub;have hv64:v<18446744073709551616:=Nat.lt_trans KA Jc;refine aJ (ai @Wx (ai @F8 (ai @not_false_eq_true (ai @cy (ai @neqA (ai @hsub (ai @qU (ai @iT (ai @jQ @di))))))))) ?_;obtain⟨hi1,hi2,hi3⟩:=tV (u32:=v) (u1:=jV) CP hy31 yV KA om;refine aF [] (Nat×Nat) (fun x=>⟨[(2,.i .u64 (Y:Int)),(8,.i .u64 (s:Int)),(9,.i .u64 (fJ:Int)),(10,.i .u64 (kY:Int)),(14,.i .u64 (jV:Int)),(15,.i .u64 (p:Int)),(17,.i .u64 (v:Int)),(18,.i .u64 (x.1:Int)),(16,.i .u64 (x.2:Int))],[],0⟩)
      (fun x=>x.1*fJ+x.2=v∧x.2<4294967296∧v*4294967296+jV<(x.1+1)*Y∧x.1≤4294967297) (fun x=>x.1) (v/fJ,v%fJ)
      ⟨hi1,Nat.lt_trans (Nat.mod_lt _ om) Wy,hi2,hi3⟩ (by exact mF) (by
      exact jO) ?_
     rintro⟨q,r⟩ ⟨hq1,hr1,hq2,hq3⟩ Q' hQ he hr;simp only[]at hq1 hr1 hq2 hq3 ⊢;have m4:(r+fJ)%18446744073709551616=r+fJ:=Nat.mod_eq_of_lt om;by_cases h1:(4294967296:Int)≤(q:Int)
     ·have dH:=zn (u1:=jV) KA om (show 4294967296≤q by omega);have hq0:1≤q:=by
       rcases Nat.eq_zero_or_pos q with h|h
       ·subst h;simp at dH
       ·exact h
      have hsm:=jo hq1 hq0;by_cases h3:(4294967296:Int)≤((r+fJ:Nat):Int)
      ·refine aJ (ai @h3 (ai @m4 (ai @iT (ai @iF (ai @h1 @di))))) ?_;refine he _ _ ?_;have hqe:=jq (fQ CP hsm (by have g1:=Nat.mul_le_mul (show q-1≤4294967296 by omega) (Nat.le_of_lt yV);omega)) (by rw[Nat.sub_add_cancel hq0];exact dH);have yR:q-1<18446744073709551616:=om;generalize q-1=q' at*
       have e1:=l_ (N:=u32*4294967296+xY) (jV:=jV) iG;rw[e2,←hv,←hpe,←hqe]at e1;obtain⟨s1,s2⟩:=hsc;rw[e1.1]at s1;rw[e1.2]at s2;repeat first
        |(refine hK _ ?_;clear hK K)
        |((first|refine ay (fun K hK=>?_)|refine aB (fun K hK=>?_)|refine au (fun K hK=>?_));simp(disch:=(first|omega|assumption)) only[S1,seval,-Int.reduceToNat,-List.reduceReplicate,a_.sb,a_.mut,bZ,↓Bool.false_eq_true,beq_self_eq_true,ite_self,di,jQ,iT,qU,yU Jc iG hqe,jT,s2];refine hK _ ?_;clear hK K)
        |simp only[Sv,↓reduceIte,Nat.reduceEqDiff]
       refine uI (ai @iV @di) ?_;try omega
      ·refine aJ (ai @h3 (ai @m4 (ai @iT (ai @iF (ai @h1 @di))))) ?_;refine hQ _ (q-1,r+fJ) ⟨hsm,by simp only;omega,by simp only;rw[Nat.sub_add_cancel hq0];exact dH,by simp only;omega⟩ (by simp only;omega) ?_;exact jO
     ·have g1:=Nat.mul_le_mul (show q≤4294967295 by omega) (show kY≤4294967295 by omega);have m1:q*kY%18446744073709551616=q*kY:=Nat.mod_eq_of_lt om;have m2:4294967296*r%18446744073709551616=4294967296*r:=Nat.mod_eq_of_lt om;have m3:(4294967296*r+jV)%18446744073709551616=4294967296*r+jV:=Nat.mod_eq_of_lt om;by_cases h2:((4294967296*r+jV:Nat):Int)<((q*kY:Nat):Int)
      ·have dH:=tK CP hq1 (show 4294967296*r+jV<q*kY by omega);have hq0:1≤q:=by
        rcases Nat.eq_zero_or_pos q with h|h
        ·subst h;simp at dH
        ·exact h
       have hsm:=jo hq1 hq0;by_cases h3:(4294967296:Int)≤((r+fJ:Nat):Int)
       ·refine aJ (ai @h3 (ai @m4 (ai @iT (ai @iF (ai @h2 (ai @m3 (ai @m2 (ai @m1 (ai @yT (ai @jQ (ai @h1 @di))))))))))) ?_;refine he _ _ ?_;have hqe:=jq (fQ CP hsm (by have g1:=Nat.mul_le_mul (show q-1≤4294967296 by omega) (Nat.le_of_lt yV);omega)) (by rw[Nat.sub_add_cancel hq0];exact dH);have yR:q-1<18446744073709551616:=om;generalize q-1=q' at*
        have e1:=l_ (N:=u32*4294967296+xY) (jV:=jV) iG;rw[e2,←hv,←hpe,←hqe]at e1;obtain⟨s1,s2⟩:=hsc;rw[e1.1]at s1;rw[e1.2]at s2;repeat first
         |(refine hK _ ?_;clear hK K)
         |((first|refine ay (fun K hK=>?_)|refine aB (fun K hK=>?_)|refine au (fun K hK=>?_));simp(disch:=(first|omega|assumption)) only[S1,seval,-Int.reduceToNat,-List.reduceReplicate,a_.sb,a_.mut,bZ,↓Bool.false_eq_true,beq_self_eq_true,ite_self,di,jQ,iT,qU,yU Jc iG hqe,jT,s2];refine hK _ ?_;clear hK K)
         |simp only[Sv,↓reduceIte,Nat.reduceEqDiff]
        refine uI (ai @iV @di) ?_;try omega
       ·refine aJ (ai @h3 (ai @m4 (ai @iT (ai @iF (ai @h2 (ai @m3 (ai @m2 (ai @m1 (ai @yT (ai @jQ (ai @h1 @di))))))))))) ?_;refine hQ _ (q-1,r+fJ) ⟨hsm,by simp only;omega,by simp only;rw[Nat.sub_add_cancel hq0];exact dH,by simp only;omega⟩ (by simp only;omega) ?_;exact jO
      ·refine aJ (ai @h2 (ai @m3 (ai @m2 (ai @m1 (ai @iT (ai @yT (ai @jQ (ai @h1 @di)))))))) ?_;refine he _ _ ?_;have hqe:=jq (fQ CP hq1 om) hq2;have yR:q<18446744073709551616:=om;have e1:=l_ (N:=u32*4294967296+xY) (jV:=jV) iG;rw[e2,←hv,←hpe,←hqe]at e1;obtain⟨s1,s2⟩:=hsc;rw[e1.1]at s1;rw[e1.2]at s2;repeat first
        |(refine hK _ ?_;clear hK K)
        |((first|refine ay (fun K hK=>?_)|refine aB (fun K hK=>?_)|refine au (fun K hK=>?_));simp(disch:=(first|omega|assumption)) only[S1,seval,-Int.reduceToNat,-List.reduceReplicate,a_.sb,a_.mut,bZ,↓Bool.false_eq_true,beq_self_eq_true,ite_self,di,jQ,iT,qU,yU Jc iG hqe,jT,s2];refine hK _ ?_;clear hK K)
        |simp only[Sv,↓reduceIte,Nat.reduceEqDiff]
       refine uI (ai @iV @di) ?_;try omega
    ·refine aJ (ai @h3 (ai @m4 (ai @iT (ai @iF (ai @h2 (ai @m3 (ai @m2 (ai @m1 (ai @yT (ai @jQ (ai @h1 @di))))))))))) ?_;refine hQ _ (q-1,r+fJ) ⟨hsm,by simp only;omega,by simp only;rw[Nat.sub_add_cancel hq0];exact dH,by simp only;omega⟩ (by simp only;omega) ?_;exact jO
   ·refine aJ (ai @h2 (ai @m3 (ai @m2 (ai @m1 (ai @iT (ai @yT (ai @jQ (ai @h1 @di)))))))) ?_;refine he _ _ ?_;have hqe:=jq (fQ CP hq1 om) hq2;have yR:q<18446744073709551616:=om;have hpe:=hqe;generalize q=p at hpe hqe ⊢;have KA:=Nat.mod_lt (u32*4294967296+xY) iG;obtain⟨v,hv⟩:∃v,v=(u32*4294967296+xY)%Y:=⟨_,rfl⟩;have hsub:=yU (u:=u32) (u1:=xY) Jc iG hqe;rw[←hv]at KA hsub;have hv64:v<18446744073709551616:=Nat.lt_trans KA Jc;refine aJ (ai @Wx (ai @F8 (ai @not_false_eq_true (ai @cy (ai @neqA (ai @hsub (ai @qU (ai @iT (ai @jQ @di))))))))) ?_;obtain⟨hi1,hi2,hi3⟩:=tV (u32:=v) (u1:=jV) CP hy31 yV KA om;refine aF [] (Nat×Nat) (fun x=>⟨[(2,.i .u64 (Y:Int)),(8,.i .u64 (s:Int)),(9,.i .u64 (fJ:Int)),(10,.i .u64 (kY:Int)),(14,.i .u64 (jV:Int)),(15,.i .u64 (p:Int)),(17,.i .u64 (v:Int)),(18,.i .u64 (x.1:Int)),(16,.i .u64 (x.2:Int))],[],0⟩)
     (fun x=>x.1*fJ+x.2=v∧x.2<4294967296∧v*4294967296+jV<(x.1+1)*Y∧x.1≤4294967297) (fun x=>x.1) (v/fJ,v%fJ)
     ⟨hi1,Nat.lt_trans (Nat.mod_lt _ om) Wy,hi2,hi3⟩ (by exact mF) (by
     exact jO) ?_
    rintro⟨q,r⟩ ⟨hq1,hr1,hq2,hq3⟩ Q' hQ he hr;simp only[]at hq1 hr1 hq2 hq3 ⊢;have m4:(r+fJ)%18446744073709551616=r+fJ:=Nat.mod_eq_of_lt om;by_cases h1:(4294967296:Int)≤(q:Int)
    ·have dH:=zn (u1:=jV) KA om (show 4294967296≤q by omega);have hq0:1≤q:=by
      rcases Nat.eq_zero_or_pos q with h|h
      ·subst h;simp at dH
      ·exact h
     have hsm:=jo hq1 hq0;by_cases h3:(4294967296:Int)≤((r+fJ:Nat):Int)
     ·refine aJ (ai @h3 (ai @m4 (ai @iT (ai @iF (ai @h1 @di))))) ?_;refine he _ _ ?_;have hqe:=jq (fQ CP hsm (by have g1:=Nat.mul_le_mul (show q-1≤4294967296 by omega) (Nat.le_of_lt yV);omega)) (by rw[Nat.sub_add_cancel hq0];exact dH);have yR:q-1<18446744073709551616:=om;generalize q-1=q' at*
      have e1:=l_ (N:=u32*4294967296+xY) (jV:=jV) iG;rw[e2,←hv,←hpe,←hqe]at e1;obtain⟨s1,s2⟩:=hsc;rw[e1.1]at s1;rw[e1.2]at s2;repeat first
       |(refine hK _ ?_;clear hK K)
       |((first|refine ay (fun K hK=>?_)|refine aB (fun K hK=>?_)|refine au (fun K hK=>?_));simp(disch:=(first|omega|assumption)) only[S1,seval,-Int.reduceToNat,-List.reduceReplicate,a_.sb,a_.mut,bZ,↓Bool.false_eq_true,beq_self_eq_true,ite_self,di,jQ,iT,qU,yU Jc iG hqe,jT,s2];refine hK _ ?_;clear hK K)
       |simp only[Sv,↓reduceIte,Nat.reduceEqDiff]
      refine uI (ai @iV @di) ?_;try omega
     ·refine aJ (ai @h3 (ai @m4 (ai @iT (ai @iF (ai @h1 @di))))) ?_;refine hQ _ (q-1,r+fJ) ⟨hsm,by simp only;omega,by simp only;rw[Nat.sub_add_cancel hq0];exact dH,by simp only;omega⟩ (by simp only;omega) ?_;exact jO
    ·have g1:=Nat.mul_le_mul (show q≤4294967295 by omega) (show kY≤4294967295 by omega);have m1:q*kY%18446744073709551616=q*kY:=Nat.mod_eq_of_lt om;have m2:4294967296*r%18446744073709551616=4294967296*r:=Nat.mod_eq_of_lt om;have m3:(4294967296*r+jV)%18446744073709551616=4294967296*r+jV:=Nat.mod_eq_of_lt om;by_cases h2:((4294967296*r+jV:Nat):Int)<((q*kY:Nat):Int)
     ·have dH:=tK CP hq1 (show 4294967296*r+jV<q*kY by omega);have hq0:1≤q:=by
       rcases Nat.eq_zero_or_pos q with h|h
       ·subst h;simp at dH
       ·exact h
      have hsm:=jo hq1 hq0;by_cases h3:(4294967296:Int)≤((r+fJ:Nat):Int)
      ·refine aJ (ai @h3 (ai @m4 (ai @iT (ai @iF (ai @h2 (ai @m3 (ai @m2 (ai @m1 (ai @yT (ai @jQ (ai @h1 @di))))))))))) ?_;refine he _ _ ?_;have hqe:=jq (fQ CP hsm (by have g1:=Nat.mul_le_mul (show q-1≤4294967296 by omega) (Nat.le_of_lt yV);omega)) (by rw[Nat.sub_add_cancel hq0];exact dH);have yR:q-1<18446744073709551616:=om;generalize q-1=q' at*
       have e1:=l_ (N:=u32*4294967296+xY) (jV:=jV) iG;rw[e2,←hv,←hpe,←hqe]at e1;obtain⟨s1,s2⟩:=hsc;rw[e1.1]at s1;rw[e1.2]at s2;repeat first
        |(refine hK _ ?_;clear hK K)
        |((first|refine ay (fun K hK=>?_)|refine aB (fun K hK=>?_)|refine au (fun K hK=>?_));simp(disch:=(first|omega|assumption)) only[S1,seval,-Int.reduceToNat,-List.reduceReplicate,a_.sb,a_.mut,bZ,↓Bool.false_eq_true,beq_self_eq_true,ite_self,di,jQ,iT,qU,yU Jc iG hqe,jT,s2];refine hK _ ?_;clear hK K)
        |simp only[Sv,↓reduceIte,Nat.reduceEqDiff]
       refine uI (ai @iV @di) ?_;try omega
      ·refine aJ (ai @h3 (ai @m4 (ai @iT (ai @iF (ai @h2 (ai @m3 (ai @m2 (ai @m1 (ai @yT (ai @jQ (ai @h1 @di))))))))))) ?_;refine hQ _ (q-1,r+fJ) ⟨hsm,by simp only;omega,by simp only;rw[Nat.sub_add_cancel hq0];exact dH,by simp only;omega⟩ (by simp only;omega) ?_;exact jO
     ·refine aJ (ai @h2 (ai @m3 (ai @m2 (ai @m1 (ai @iT (ai @yT (ai @jQ (ai @h1 @di)))))))) ?_;refine he _ _ ?_;have hqe:=jq (fQ CP hq1 om) hq2;have yR:q<18446744073709551616:=om;have e1:=l_ (N:=u32*4294967296+xY) (jV:=jV) iG;rw[e2,←hv,←hpe,←hqe]at e1;obtain⟨s1,s2⟩:=hsc;rw[e1.1]at s1;rw[e1.2]at s2;repeat first
       |(refine hK _ ?_;clear hK K)
       |((first|refine ay (fun K hK=>?_)|refine aB (fun K hK=>?_)|refine au (fun K hK=>?_));simp(disch:=(first|omega|assumption)) only[S1,seval,-Int.reduceToNat,-List.reduceReplicate,a_.sb,a_.mut,bZ,↓Bool.false_eq_true,beq_self_eq_true,ite_self,di,jQ,iT,qU,yU Jc iG hqe,jT,s2];refine hK _ ?_;clear hK K)
       |simp only[Sv,↓reduceIte,Nat.reduceEqDiff]
      refine uI (ai @iV @di) ?_;try omega
end Go.Proofs.YtcgfgifjkkmmcaaGreatDoor
namespace Go.Proofs.YtcgfgifjkkmmcaaGreatDoor
open Go Go.RowKit Ab
def F9:=an @wi (an @aO (an @Nat.div_one (an @Nat.mul_one @aH)))
theorem yz{V x w:Nat}(hw:0<w)(hx:x<B):
 (x+B*V)/w%B=(V%w*B+x)/w∧(x+B*V)/w/B=V/w∧(x+B*V)%w=(V%w*B+x)%w∧(V%w*B+x)/w<B:=by
 have e:=Nat.div_add_mod V w
 have hm:=Nat.mod_lt V hw
 generalize V/w=q at*
 generalize V%w=r at*
 have h:x+B*V=(r*B+x)+w*(q*B):=by rw[←e,Nat.mul_add,←Nat.mul_assoc,Nat.mul_comm B w,Nat.mul_assoc,Nat.mul_comm B q,Nat.mul_comm B r];omega
 have hlt:(r*B+x)/w<B:=by
  refine(Nat.div_lt_iff_lt_mul hw).2 ?_;have:=Nat.mul_le_mul_right B (show r+1≤w from hm);rw[Nat.add_mul,Nat.one_mul]at this;rw[Nat.mul_comm B w];omega
 rw[h,Nat.add_mul_div_left _ _ hw,Nat.add_mul_mod_self_left,Nat.add_mul_mod_self_right,Nat.mod_eq_of_lt hlt,Nat.add_mul_div_right _ _ (by decide:0<B),Nat.div_eq_of_lt hlt]
 exact⟨rfl,om,rfl,hlt⟩
theorem yA(a:List Nat)(w:Nat)(ha:Wd a)(hw0:0<w)(hw:w<18446744073709551616)(la:a.length≤1099511627776):
 ah Tryz.prog J0 152 [.l 1 (W a),.i .u64 (w:Int)] (.t [.l 1 (W (fl B a.length (nv B a/w))),.i .u64 ((nv B a%w:Nat):Int),.i .i64 0]):=by
 refine d_ aX bV Tryz.func152 ?_
 have g0:¬(w:Int)=0:=om
 repeat first
  |(refine hK _ ?_;clear hK K)
  |((first|refine ay (fun K hK=>?_)|refine aB (fun K hK=>?_)|refine au (fun K hK=>?_));simp(disch:=(first|omega|assumption)) only[S1,seval,-Int.reduceToNat,-List.reduceReplicate,a_.sb,a_.mut,bZ,↓Bool.false_eq_true,beq_self_eq_true,ite_self,F9,g0];refine hK _ ?_;clear hK K)
  |simp only[Sv,↓reduceIte,Nat.reduceEqDiff]
 refine aF [] Nat (fun i=>⟨[(0,.l 1 (W a)),(1,.i .u64 (w:Int)),(7,.ow 1 0 a.length),(8,.i .u64 ((nv B (a.drop i)%w:Nat):Int)),(9,.i .i64 ((i:Int)-1))],
  [(0,some ⟨31,1,W (List.replicate i 0++fl B (a.length-i) (nv B (a.drop i)/w)),true,false⟩)],1⟩)
  (fun i=>i≤a.length) (fun i=>i) a.length (Nat.le_refl _) (by exact mF) (by
  refine nO trivial ?_
  refine⟨by rw[List.drop_length];simp[nv],?_⟩
  rw[Nat.sub_self,fl,List.append_nil];exact DW _) ?_
 intro i hi Q' hQ he hr
 cases i with
 |zero=>
  refine aJ @F9 ?_;refine he _ _ ?_;refine aJ @F9 ?_;exact jX (ai @Nat.sub_zero (ai @BX @F9))
 |succ k=>
  have hk:k<a.length:=om;have g1:(0:Int)≤((k+1:Nat):Int)-1:=om;have g2:(((k+1:Nat):Int)-1).toNat=k:=om;have hx:=dA ha k;have hm:=Nat.mod_lt (nv B (a.drop (k+1))) hw0;obtain⟨s1,s2,s3,s4⟩:=yz (V:=nv B (a.drop (k+1))) hw0 hx;have hll:(List.replicate (k+1) 0++fl B (a.length-(k+1)) (nv B (a.drop (k+1))/w)).length=a.length:=by rw[List.length_append,List.length_replicate,bg];omega
  have hset:(List.replicate (k+1) 0++fl B (a.length-(k+1)) (nv B (a.drop (k+1))/w)).set k ((nv B (a.drop (k+1))%w*18446744073709551616+a.getD k 0)/w)=List.replicate k 0++fl B (a.length-k) (nv B (a.drop k)/w):=by
   rw[nX a k hk,show a.length-k=(a.length-(k+1))+1 from om,fl,s1,s2,List.replicate_succ',List.append_assoc,List.set_append_right _ _ (by rw[List.length_replicate];exact Nat.le_refl _),List.length_replicate,Nat.sub_self];rfl
  have U6:=Az (nv B (a.drop (k+1))%w) (a.getD k 0) w hm hw hx;refine qc (ai @hset (ai @iQ (ai @hll (ai @cZ (ai @g2 (ai @g1 @F9)))))) ?_;refine hQ _ k om om ?_;refine nO trivial ?_;rw[nX a k hk,s3];repeat' first|rfl|omega|(simp only[List.length_append,List.length_cons,List.length_nil];done)|apply And.intro
end Go.Proofs.YtcgfgifjkkmmcaaGreatDoor
namespace Go.Proofs.YtcgfgifjkkmmcaaGreatDoor
open Go Go.RowKit Ab
def dN:=an @wi (an @aO (an @Nat.div_one @Nat.mul_one))
theorem F_{b v1 v0 u w q r:Nat}(h:q*v1+r=u)(h2:q*v0≤r*b+w):q*(v1*b+v0)≤u*b+w:=by
 rw[←h,Nat.mul_add,Nat.add_mul,Nat.mul_assoc];omega
theorem YN{b v1 v0 u w q r:Nat}(h:q*v1+r=u)(h2:r*b+w<q*v0):u*b+w<q*(v1*b+v0):=by
 rw[←h,Nat.mul_add,Nat.add_mul,Nat.mul_assoc];omega
theorem QS{Y N q q0:Nat}(hY:0<Y)(h1:q*Y≤N)(h2:q≤q0)(h3:q=q0∨N<(q+1)*Y):q=min q0 (N/Y):=by
 have h4:=(Nat.le_div_iff_mul_le hY).2 h1;rcases h3 with h|h
 ·omega
 ·have:=(Nat.div_lt_iff_lt_mul hY).2 h;omega
theorem Jd{q v0 r w:Nat}(hq:q≤18446744073709551616)(hv:v0≤18446744073709551616)(hr:18446744073709551616≤r):q*v0≤r*18446744073709551616+w:=by
 have h1:=Nat.mul_le_mul hq hv;omega
theorem KC{hi lo p r w:Nat}(e:18446744073709551616*hi+lo=p)(h:hi<r∨hi=r∧lo≤w)(hl:lo<18446744073709551616):p≤r*18446744073709551616+w:=om
theorem Gf{hi lo p r w:Nat}(e:18446744073709551616*hi+lo=p)(h:¬(hi<r∨hi=r∧lo≤w))(hw:w<18446744073709551616):r*18446744073709551616+w<p:=om
theorem wJ(q0 r0 u0 v1 v0 u:Nat)(hqB:q0<18446744073709551616)(hrB:r0<18446744073709551616)(hu0:u0<18446744073709551616)(hv1:v1<18446744073709551616)(hv0:v0<18446744073709551616)
 (hY:0<v1*18446744073709551616+v0) (hu:q0*v1+r0=u):
 ah Tryz.prog J0 161 [.i .u64 (q0:Int),.i .u64 (r0:Int),.i .u64 (u0:Int),.i .u64 (v1:Int),.i .u64 (v0:Int)] (.i .u64 ((min q0 ((u*18446744073709551616+u0)/(v1*18446744073709551616+v0)):Nat):Int)):=by
 refine d_ aX bV Tryz.func161 ?_
 refine aJ @dN ?_
 refine aF [] (Nat×Nat) (fun x=>⟨[(0,.i .u64 (x.1:Int)),(1,.i .u64 (x.2:Int)),(2,.i .u64 (u0:Int)),(3,.i .u64 (v1:Int)),(4,.i .u64 (v0:Int))],[],0⟩)
  (fun x=>x.1*v1+x.2=u∧x.2<18446744073709551616∧x.1≤q0∧(x.1=q0∨u*18446744073709551616+u0<(x.1+1)*(v1*18446744073709551616+v0))) (fun x=>x.1) (q0,r0)
  ⟨hu,hrB,Nat.le_refl _,.inl rfl⟩ (by exact mF) (by
  exact jO) ?_
 rintro⟨q,r⟩ ⟨hq1,hr1,hq2,hq3⟩ Q' hQ he hr
 simp only[]at hq1 hr1 hq2 hq3 ⊢
 have hmu:=Au q v0 om hv0
 have hp:=Nat.div_add_mod (q*v0) 18446744073709551616
 have hlo:=Nat.mod_lt (q*v0) (show 0<18446744073709551616 by decide)
 generalize q*v0/18446744073709551616=hh at*
 generalize q*v0%18446744073709551616=ll at*
 by_cases t1:(hh:Int)<(r:Int)
 ·have U6:=hmu;refine qc (ai @t1 @dN) ?_;refine he _ _ ?_;have hqe:=QS hY (F_ hq1 (KC hp om hlo)) hq2 hq3;rw[←hqe];refine aJ @dN ?_;exact jX @dN
 ·by_cases t2:(hh:Int)=(r:Int)
  ·obtain rfl:r=hh:=om;by_cases t3:(ll:Int)≤(u0:Int)
   ·have zc2:=hmu;refine qc (ai @t3 (ai @I7 (ai @Int.lt_irrefl @dN))) ?_;refine he _ _ ?_;have hqe:=QS hY (F_ hq1 (KC hp om hlo)) hq2 hq3;rw[←hqe];refine aJ @dN ?_;exact jX @dN
   ·repeat first|(refine hK _ ?_;clear hK K)|simp only[Sv,↓reduceIte,Nat.reduceEqDiff]|((first|refine ay (fun K hK=>?_)|refine aB (fun K hK=>?_)|refine au (fun K hK=>?_));refine dM @dN ?_)
    refine qA _ _ (hmu) ?_ ?_
    ·exact UH @dN
    refine dM @dN ?_;have dH:=YN hq1 (Gf hp om hu0);have hq0:1≤q:=by
     rcases Nat.eq_zero_or_pos q with h|h
     ·subst h;simp at dH
     ·exact h
    have hsm:=jo hq1 hq0;by_cases hc:(((r+v1)/18446744073709551616:Nat):Int)=1
    ·repeat first|(refine hK _ ?_;clear hK K)|simp only[Sv,↓reduceIte,Nat.reduceEqDiff]|((first|refine ay (fun K hK=>?_)|refine aB (fun K hK=>?_)|refine au (fun K hK=>?_));refine dM (ai @iF (ai @t3 (ai @I7 (ai @Int.lt_irrefl @dN)))) ?_)
     refine ny _ (og r v1) ?_;refine dM (ai @iF (ai @t3 (ai @I7 (ai @Int.lt_irrefl @dN)))) ?_;try (refine hK _ ?_;clear hK K)
     refine aJ (ai @hc @dN) ?_;refine he _ _ ?_;have hst:=F_ hsm (Jd (w:=u0) (show q-1≤18446744073709551616 by omega) (Nat.le_of_lt hv0) (show 18446744073709551616≤r+v1 by omega));have hqe:=QS hY hst (show q-1≤q0 by omega) (.inr (by rw[Nat.sub_add_cancel hq0];exact dH));rw[←hqe];try (refine hK _ ?_;clear hK K)
     refine aJ @dN ?_;exact jX @dN
    ·repeat first|(refine hK _ ?_;clear hK K)|simp only[Sv,↓reduceIte,Nat.reduceEqDiff]|((first|refine ay (fun K hK=>?_)|refine aB (fun K hK=>?_)|refine au (fun K hK=>?_));refine dM (ai @iF (ai @t3 (ai @I7 (ai @Int.lt_irrefl @dN)))) ?_)
     refine ny _ (og r v1) ?_;refine dM (ai @iF (ai @t3 (ai @I7 (ai @Int.lt_irrefl @dN)))) ?_;try (refine hK _ ?_;clear hK K)
     refine aJ (ai @hc @dN) ?_;refine hQ _ (q-1,r+v1) ⟨hsm,by simp only;omega,by simp only;omega,by simp only;rw[Nat.sub_add_cancel hq0];exact .inr dH⟩ (by simp only;omega) ?_;exact jO
  ·repeat first|(refine hK _ ?_;clear hK K)|simp only[Sv,↓reduceIte,Nat.reduceEqDiff]|((first|refine ay (fun K hK=>?_)|refine aB (fun K hK=>?_)|refine au (fun K hK=>?_));refine dM @dN ?_)
   refine qA _ _ (hmu) ?_ ?_
   ·exact UH @dN
   refine dM @dN ?_;have dH:=YN hq1 (Gf hp om hu0);have hq0:1≤q:=by
    rcases Nat.eq_zero_or_pos q with h|h
    ·subst h;simp at dH
    ·exact h
   have hsm:=jo hq1 hq0;by_cases hc:(((r+v1)/18446744073709551616:Nat):Int)=1
   ·repeat first|(refine hK _ ?_;clear hK K)|simp only[Sv,↓reduceIte,Nat.reduceEqDiff]|((first|refine ay (fun K hK=>?_)|refine aB (fun K hK=>?_)|refine au (fun K hK=>?_));refine dM (ai @iF (ai @t2 (ai @t1 @dN))) ?_)
    refine ny _ (og r v1) ?_;refine dM (ai @iF (ai @t2 (ai @t1 @dN))) ?_;try (refine hK _ ?_;clear hK K)
    refine aJ (ai @hc @dN) ?_;refine he _ _ ?_;have hst:=F_ hsm (Jd (w:=u0) (show q-1≤18446744073709551616 by omega) (Nat.le_of_lt hv0) (show 18446744073709551616≤r+v1 by omega));have hqe:=QS hY hst (show q-1≤q0 by omega) (.inr (by rw[Nat.sub_add_cancel hq0];exact dH));rw[←hqe];try (refine hK _ ?_;clear hK K)
    refine aJ @dN ?_;exact jX @dN
   ·repeat first|(refine hK _ ?_;clear hK K)|simp only[Sv,↓reduceIte,Nat.reduceEqDiff]|((first|refine ay (fun K hK=>?_)|refine aB (fun K hK=>?_)|refine au (fun K hK=>?_));refine dM (ai @iF (ai @t2 (ai @t1 @dN))) ?_)
    refine ny _ (og r v1) ?_;refine dM (ai @iF (ai @t2 (ai @t1 @dN))) ?_;try (refine hK _ ?_;clear hK K)
    refine aJ (ai @hc @dN) ?_;refine hQ _ (q-1,r+v1) ⟨hsm,by simp only;omega,by simp only;omega,by simp only;rw[Nat.sub_add_cancel hq0];exact .inr dH⟩ (by simp only;omega) ?_;exact jO
theorem gmin{Y N q:Nat}(hY:0<Y)(hq:q≤18446744073709551615)(h:N<(q+1)*Y):min q (N/Y)=min 18446744073709551615 (N/Y):=by
 have:=(Nat.div_lt_iff_lt_mul hY).2 h;omega
theorem Je(u2 u1 u0 v1 v0:Nat)(h2:u2≤v1)(hp:0<v1)(hu1:u1<18446744073709551616)(hu0:u0<18446744073709551616)(hv1:v1<18446744073709551616)(hv0:v0<18446744073709551616):
 ah Tryz.prog J0 155 [.i .u64 (u2:Int),.i .u64 (u1:Int),.i .u64 (u0:Int),.i .u64 (v1:Int),.i .u64 (v0:Int)]
  (.i .u64 ((min 18446744073709551615 (((u2*18446744073709551616+u1)*18446744073709551616+u0)/(v1*18446744073709551616+v0)):Nat):Int)):=by
 have hY:0<v1*18446744073709551616+v0:=om
 refine d_ aX bV Tryz.func155 ?_
 by_cases t:(v1:Int)≤(u2:Int)
 ·obtain rfl:u2=v1:=om;have hsm:18446744073709551615*u2+(u1+u2)=u2*18446744073709551616+u1:=om;by_cases hc:(((u1+u2)/18446744073709551616:Nat):Int)=1
  ·have hst:=F_ (w:=u0) hsm (Jd (q:=18446744073709551615) (v0:=v0) (w:=u0) om om (show 18446744073709551616≤u1+u2 by omega));have hqe:=QS hY hst (Nat.le_refl _) (.inl rfl);rw[←hqe];repeat first|(refine hK _ ?_;clear hK K)|simp only[Sv,↓reduceIte,Nat.reduceEqDiff]|((first|refine ay (fun K hK=>?_)|refine aB (fun K hK=>?_)|refine au (fun K hK=>?_));refine dM (ai @Int.le_refl @dN) ?_)
   refine ny _ (og u1 u2) ?_;refine dM (ai @Int.le_refl @dN) ?_;try (refine hK _ ?_;clear hK K)
   exact YI (ai @hc @dN)
  ·have hmod:(u1+u2)%18446744073709551616=u1+u2:=Nat.mod_eq_of_lt om;repeat first|(refine hK _ ?_;clear hK K)|simp only[Sv,↓reduceIte,Nat.reduceEqDiff]|((first|refine ay (fun K hK=>?_)|refine aB (fun K hK=>?_)|refine au (fun K hK=>?_));refine dM (ai @Int.le_refl @dN) ?_)
   refine ny _ (og u1 u2) ?_;refine dM (ai @Int.le_refl @dN) ?_;have zc3:=wJ 18446744073709551615 (u1+u2) u0 u2 v0 _ om om hu0 hv1 hv0 hY hsm;try (refine hK _ ?_;clear hK K)
   exact jR (ai @hmod (ai @hc @dN))
 ·have e:=Nat.div_add_mod (u2*18446744073709551616+u1) v1;have hm:=Nat.mod_lt (u2*18446744073709551616+u1) hp;have hd:=Az u2 u1 v1 om hv1 hu1;have hqB:(u2*18446744073709551616+u1)/v1<18446744073709551616:=by
   refine(Nat.div_lt_iff_lt_mul hp).2 ?_;have:=Nat.mul_le_mul_right 18446744073709551616 (show u2+1≤v1 by omega);omega
  rw[Nat.mul_comm]at e;obtain⟨U,hU⟩:∃U,U=u2*18446744073709551616+u1:=⟨_,rfl⟩;rw[←hU]at e hm hd hqB ⊢;have hN:U*18446744073709551616+u0<(U/v1+1)*(v1*18446744073709551616+v0):=by
   rw[Nat.mul_add,←Nat.mul_assoc,Nat.add_mul _ 1 v1,Nat.one_mul];generalize U/v1*v1=z at*
   generalize (U/v1+1)*v0=y at*
   omega
  rw[←gmin hY om hN];have zc4:=wJ (U/v1) (U%v1) u0 v1 v0 U hqB om hu0 hv1 hv0 hY e;try (refine hK _ ?_;clear hK K)
  exact jR (ai @t @dN)
end Go.Proofs.YtcgfgifjkkmmcaaGreatDoor
namespace Go.Proofs.YtcgfgifjkkmmcaaGreatDoor
open Go Go.RowKit Ab
theorem QT{U V P:Nat}(hP:0<P)(hU:U<V*B)(hV:B≤V/P):U/V≤min (B-1) (U/P/(V/P))∧min (B-1) (U/P/(V/P))≤U/V+1:=by
 have hB:0<B:=dc;have hV2:0<V/P:=Nat.lt_of_lt_of_le hB hV;have hV0:0<V:=Nat.lt_of_lt_of_le hV2 (Nat.div_le_self _ _);have h1:V/P*P≤V:=Nat.div_mul_le_self V P;have hd:U/V<B:=(Nat.div_lt_iff_lt_mul hV0).2 (by rw[Nat.mul_comm];exact hU);refine⟨?_,?_⟩
 ·refine Nat.le_min.2 ⟨om,?_⟩;rw[Nat.le_div_iff_mul_le hV2,Nat.le_div_iff_mul_le hP,Nat.mul_assoc];exact Nat.le_trans (Nat.mul_le_mul_left _ h1) (Nat.div_mul_le_self U V)
 ·rcases Nat.lt_or_ge (U/V+1) (min (B-1) (U/P/(V/P)))with h|h
  ·exfalso;obtain⟨g,hg⟩:∃g,g=min (B-1) (U/P/(V/P)):=⟨_,rfl⟩;rw[←hg]at h;have hg1:g≤B-1:=by rw[hg];exact Nat.min_le_left _ _
   have hg2:g≤U/P/(V/P):=by rw[hg];exact Nat.min_le_right _ _
   rw[Nat.le_div_iff_mul_le hV2,Nat.le_div_iff_mul_le hP]at hg2;have h2:U<(U/V+1)*V:=by rw[Nat.add_mul,Nat.one_mul,Nat.mul_comm (U/V)];exact Nat.lt_mul_div_succ U hV0 |> fun h=>by rwa[Nat.mul_succ]at h
   have h3:(U/V+1)*V≤(g-1)*V:=Nat.mul_le_mul_right V om;have h4:V<(V/P+1)*P:=by have:=Nat.lt_mul_div_succ V hP;rwa[Nat.mul_comm]at this
   have h5:(g-1)*V≤(g-1)*((V/P+1)*P):=Nat.mul_le_mul_left _ (Nat.le_of_lt h4);have h6:g*(V/P)*P<(g-1)*((V/P+1)*P):=om;rw[←Nat.mul_assoc]at h6;have h7:=Nat.lt_of_mul_lt_mul_right h6;have hg0:1≤g:=Nat.lt_of_le_of_lt (Nat.zero_le _) h;obtain⟨k,rfl⟩:∃k,g=k+1:=⟨g-1,om⟩;rw[Nat.add_sub_cancel,Nat.add_mul,Nat.one_mul,Nat.mul_add,Nat.mul_one]at h7;omega
  ·exact h
theorem kn_sub{U V P A t g c o:Nat}(hA:A<P)(hU:U=A+P*t)(hV:V<P)(hV0:0<V)(hg1:U/V≤g)(hg2:g≤U/V+1)(ho:o<P)(h:o+V*g=A+P*c):
 (c≤t→g=U/V∧t=c∧o=U%V)∧(t<c→g=U/V+1∧c=t+1∧o+V=U%V+P):=by
 have e:=Nat.div_add_mod U V
 have hm:=Nat.mod_lt U hV0
 have hUg:U+P*c=o+V*g+P*t:=om
 obtain⟨d,hd⟩:∃d,d=U/V:=⟨_,rfl⟩
 rw[←hd]at e hg1 hg2 ⊢
 generalize U%V=m at*
 refine⟨fun hct=>?_,fun htc=>?_⟩
 ·obtain⟨s,rfl⟩:∃s,t=c+s:=⟨t-c,om⟩;have hg:g=d:=by
   rcases Nat.lt_or_ge d g with h1|h1
   ·obtain rfl:g=d+1:=om;rw[Nat.mul_add,Nat.mul_add,Nat.mul_one]at hUg;omega
   ·omega
  subst hg;rw[Nat.mul_add]at hUg;have hs:s=0:=by
   rcases Nat.eq_zero_or_pos s with h1|h1
   ·exact h1
   ·have:=Nat.mul_le_mul_left P (show 1≤s from h1);omega
  subst hs;exact⟨rfl,om,om⟩
 ·obtain⟨s,rfl⟩:∃s,c=t+1+s:=⟨c-t-1,om⟩;rw[Nat.mul_add,Nat.mul_add,Nat.mul_one]at hUg;have hg:g=d+1:=by
   rcases Nat.lt_or_ge d g with h1|h1
   ·omega
   ·obtain rfl:g=d:=om;omega
  subst hg;rw[Nat.mul_add,Nat.mul_one]at hUg;have hs:s=0:=by
   rcases Nat.eq_zero_or_pos s with h1|h1
   ·exact h1
   ·have:=Nat.mul_le_mul_left P (show 1≤s from h1);omega
  subst hs;exact⟨rfl,om,om⟩
theorem kn_top{U n:Nat}:((U/B^(n+2))*B+U/B^(n+1)%B)*B+U/B^n%B=U/B^n:=by
 have h1:U/B^(n+2)=U/B^(n+1)/B:=by rw[Nat.div_div_eq_div_mul,←Nat.pow_succ]
 have h2:U/B^(n+1)=U/B^n/B:=by rw[Nat.div_div_eq_div_mul,←Nat.pow_succ]
 rw[h1,Nat.div_add_mod',h2,Nat.div_add_mod']
theorem WA{V n:Nat}(h:V<B^(n+2)):(V/B^(n+1)%B)*B+V/B^n%B=V/B^n:=by
 have h2:V/B^(n+1)=V/B^n/B:=by rw[Nat.div_div_eq_div_mul,←Nat.pow_succ]
 have h3:V/B^(n+1)<B:=(Nat.div_lt_iff_lt_mul (Nat.pow_pos dc)).2 (by rw[←Nat.pow_succ'];exact h);rw[Nat.mod_eq_of_lt h3,h2,Nat.div_add_mod']
end Go.Proofs.YtcgfgifjkkmmcaaGreatDoor
namespace Go.Proofs.YtcgfgifjkkmmcaaGreatDoor
open Go Go.RowKit Ab
set_option maxHeartbeats 4000000 in
set_option maxRecDepth 100000 in
theorem QU(n:Nat)(h0:0<n)(hn:n≤1000000000000)(w:World):
 Calls Tryz.prog 160 #[.slice none 0 0,.int .i64 n] w fun e w'=>
  e= .returned (.slice (some ⟨w.heap.size,0,none⟩) 0 (grownCap w n 0 31))∧
  w'=(w.alloc (.cells (Builtin.zeroCells #[.int .u64 0] n++Builtin.zeroCells #[.int .u64 0] (grownCap w n 0 31-n)) 31)).drew:=by
 have h1:¬((n:Int)<0):=om
 have h2:wrap64 ((n:Int)-0)=(n:Int):=by unfold wrap64;omega
 have h4:(n:Int)>0:=om
 have hfit:Builtin.nextslicecap n 0*8≤281474976710656:=growslice_fits (need:=n) (old:=0) (bytes:=8) h0 om
 go_enter Tryz.func160,Tryz.ntmps160
 go_wp2
 all_goals first|(exfalso;omega)|(exfalso;simp only[show Tryz.t31.bytes=8 from rfl]at *;omega)|(go_ret;exact⟨rfl,rfl⟩)
theorem NF(w:World):Calls Tryz.prog 160 #[.slice none 0 0,.int .i64 0] w fun e w'=>e= .returned (.slice none 0 0)∧w'=w:=by
 go_enter Tryz.func160,Tryz.ntmps160;go_wp2;all_goals (go_ret;exact⟨rfl,rfl⟩)
theorem NG(n:Nat)(hn:n≤1000000000000):ah Tryz.prog J0 160 [.nl,.i .i64 (n:Int)] (.o 31 1 []):=by
 refine .of0 rfl ?_;intro w H vs hJ hT hH hr;match vs,hr with
 |[a,b],hr=>
  have e1:=Rep.jJ (ov:=fun _=>none) (.up (hr.2 0 a _ rfl rfl));have e2:=Rep.bP (ov:=fun _=>none) (.up (hr.2 1 b _ rfl rfl));subst e1 e2;rcases Nat.eq_zero_or_pos n with h|h
  ·subst h;refine(NF w).mono ?_;rintro e w' ⟨rfl,rfl⟩;exact⟨_,rfl,Below.refl _ _,fun _=>False,fun b hb=>hb.elim,.inr (.inl ⟨_,_,[],0,[],rfl,dc,World.ownsRow_nil _ _ _ _,⟨rfl,fun j v x h=>by simp at h⟩,fun x hx=>by(cases hx),Nat.zero_le _,fun b hb=>by cases hb⟩)⟩
  ·refine(QU n h hn w).mono ?_;rintro e w' ⟨rfl,rfl⟩;have hG:=grownCap_ge w n 0 31;have hG2:=grownCap_le_maxLen w n 0 31 (by unfold maxLen;omega);generalize grownCap w n 0 31=G at*
   refine⟨_,rfl,((Below.refl _ _).alloc (Nat.le_refl _) _).drew,fun _=>False,fun b hb=>hb.elim,.inr (.inl ⟨31,1,[],0,[],rfl,dc,⟨rfl,.inr ⟨w.heap.size,G,_,rfl,Nat.le_refl _,heap_alloc_new w _,Nat.zero_le _,hG2,?_,sy⟩⟩,⟨rfl,fun j v x h=>by simp at h⟩,fun x hx=>by(cases hx),Nat.zero_le _,fun b hb h=>h⟩)⟩;simp[Builtin.zeroCells];omega
end Go.Proofs.YtcgfgifjkkmmcaaGreatDoor
namespace Go.Proofs.YtcgfgifjkkmmcaaGreatDoor
open Go Go.RowKit Ab
def sD:=an @wi (an @aO (an @Nat.div_one (an @Nat.mul_one (an @aH (an @Ai (an @dh @eY))))))
def PW(ps:List (List Nat)):List V:=ps.map fun p=>V.l 1 (W p)
theorem nG(ps:List (List Nat)):(PW ps).length=ps.length:=by simp[PW]
theorem QV(ps:List (List Nat))(i:Nat)(h:i<ps.length):(PW ps).getD i .un=V.l 1 (W (ps.getD i [])):=by simp[PW,List.getD_eq_getElem?_getD,h]
theorem CQ(ps:List (List Nat))(i:Nat)(h:i<ps.length):(ps.take (i+1)).flatten=(ps.take i).flatten++ps.getD i []:=by
 rw[List.take_succ_eq_append_getElem h,List.flatten_append,List.getD_eq_getElem?_getD,List.getElem?_eq_getElem h];simp
theorem mg(ps:List (List Nat))(i:Nat):(ps.take i).flatten.length≤ps.flatten.length:=by
 have:ps.flatten=(ps.take i).flatten++(ps.drop i).flatten:=by rw[←List.flatten_append,List.take_append_drop]
 rw[this,List.length_append];omega
theorem Gg(ps:List (List Nat))(hp:ps.length≤1000000)(hl:ps.flatten.length≤1000000000000):ah Tryz.prog J0 154 [.l 1 (PW ps)] (.o 31 1 (W ps.flatten)):=by
 refine d_ aX bV Tryz.func154 ?_;refine aJ (ai @nG @sD) ?_;refine aF [] Nat (fun i=>⟨[(0,.l 1 (PW ps)),(3,.i .i64 ((ps.take i).flatten.length:Int)),(9,.l 1 (PW ps)),(10,.i .i64 (ps.length:Int)),(11,.i .i64 (i:Int))],[],0⟩)
  (fun i=>i≤ps.length) (fun i=>ps.length-i) 0 (Nat.zero_le _) (by exact mF) (by
  exact jO) ?_
 intro i hi Q' hQ he hr;have hfi:=mg ps i;by_cases hlt:(i:Int)<ps.length
 ·have hf:=congrArg List.length (CQ ps i om);rw[List.length_append]at hf;have hf2:=mg ps (i+1);have hneg:¬(((ps.take i).flatten.length:Int)+((ps.getD i []).length:Int))<0:=om;refine aJ (ai @hneg (ai @QV (ai @hlt (ai @nG @sD)))) ?_;refine hQ _ (i+1) om om ?_;exact jO
 ·obtain rfl:i=ps.length:=om;refine aJ (ai @hlt (ai @nG @sD)) ?_;refine he _ _ ?_;rw[List.take_length];repeat first|(refine hK _ ?_;clear hK K)|simp only[Sv,↓reduceIte,Nat.reduceEqDiff]|((first|refine ay (fun K hK=>?_)|refine aB (fun K hK=>?_)|refine au (fun K hK=>?_));refine dM (ai @nG @sD) ?_)
  refine V7 _ _ (NG ps.flatten.length hl) ?_ ?_
  ·exact UH (ai @nG @sD)
  refine dM (ai @nG @sD) ?_;try (refine hK _ ?_;clear hK K)
  refine aJ (ai @nG @sD) ?_;refine aF [] Nat (fun i=>⟨[(6,.ow 1 0 (ps.take i).flatten.length),(25,.l 1 (PW ps)),(26,.i .i64 (ps.length:Int)),(27,.i .i64 (i:Int))],[(0,some ⟨31,1,W (ps.take i).flatten,true,false⟩)],1⟩)
   (fun i=>i≤ps.length) (fun i=>ps.length-i) 0 (Nat.zero_le _) (by exact mF) (by
   exact jO) ?_
  intro i hi Q2 hQ2 he2 hr2;have hfi:=mg ps i;by_cases hlt:(i:Int)<ps.length
  ·have hfl:=CQ ps i om;have hf:=congrArg List.length hfl;rw[List.length_append]at hf;have hf2:=mg ps (i+1);try (refine hK _ ?_;clear hK K)
   refine aJ (ai @QV (ai @hlt (ai @nG @sD))) ?_;refine hQ2 _ (i+1) om om ?_;refine nO trivial ?_;rw[hfl];repeat' first|rfl|omega|(simp only[List.length_append,List.length_cons,List.length_nil];done)|apply And.intro
  ·obtain rfl:i=ps.length:=om;try (refine hK _ ?_;clear hK K)
   refine aJ (ai @hlt (ai @nG @sD)) ?_;refine he2 _ _ ?_;rw[List.take_length];try (refine hK _ ?_;clear hK K)
   refine aJ (ai @nG @sD) ?_;exact jX (ai @nG @sD)
end Go.Proofs.YtcgfgifjkkmmcaaGreatDoor
namespace Go.Proofs.YtcgfgifjkkmmcaaGreatDoor
open Go Go.RowKit Ab
section
variable {X A Z R:List Nat} {t j n:Nat}
theorem zx(hX:X.length=j)(hA:A.length=n):(X++(A++t::Z)).length=j+n+1+Z.length:=by simp;omega
theorem D6(hX:X.length=j)(hA:A.length=n):(X++(A++t::Z)).getD (j+n) 0=t:=by
 rw[List.getD_eq_getElem?_getD,List.getElem?_append_right om,List.getElem?_append_right om,hX,hA,show j+n-j-n=0 from om];rfl
theorem KD(hX:X.length=j)(hA:A.length=n){k i:Nat}(hk:k<n)(hi:i=j+k):(X++(A++t::Z)).getD i 0=A.getD k 0:=by
 subst hi;rw[List.getD_eq_getElem?_getD,List.getElem?_append_right om,List.getElem?_append_left om,hX,show j+k-j=k from om,List.getD_eq_getElem?_getD]
theorem D7(hX:X.length=j)(hA:A.length=n):((X++(A++t::Z)).drop j).take n=A:=by
 rw[List.drop_append_of_le_length om,←hX,List.drop_length,List.nil_append,List.take_append_of_le_length om,←hA,List.take_length]
theorem KE(hX:X.length=j)(hA:A.length=n):((X++(A++t::Z)).take (j+n)).drop j=A:=by
 rw[List.drop_take,Nat.add_sub_cancel_left];exact D7 hX hA
theorem KF(hX:X.length=j)(hA:A.length=n)(t':Nat):(X++(A++t::Z)).set (j+n) t'=X++(A++t'::Z):=by
 rw[List.set_append_right _ _ om,List.set_append_right _ _ om,hX,hA,show j+n-j-n=0 from om];rfl
end
theorem CS{α:Type}:∀(X A R Y:List α),A.length=R.length→setAt (X++(A++Y)) X.length R=X++(R++Y)
 |X,[],[],Y,_=>rfl
 |X,[],_::_,Y,h=>by simp at h
 |X,_::_,[],Y,h=>by simp at h
 |X,a::A,r::R,Y,h=>by
  have e:(X++(a::A++Y)).set X.length r=(X++[r])++(A++Y):=by
   rw[List.set_append_right _ _ (Nat.le_refl _),Nat.sub_self];simp
  show setAt ((X++(a::A++Y)).set X.length r) (X.length+1) R=_;rw[e,show X.length+1=(X++[r]).length from sy,CS (X++[r]) A R Y (by simpa using h)];simp
theorem QW{X A Z R:List Nat}{t j:Nat}(hX:X.length=j)(hR:A.length=R.length):setAt (W (X++(A++t::Z))) j (W R)=W (X++(R++t::Z)):=by
 have h:=CS (W X) (W A) (W R) (W (t::Z)) (by rw[aH,aH];exact hR);rw[aH,hX,Ai,Ai,Ai,Ai]at h;exact h
theorem fl_pad{n v:Nat}(h:v<B^n):dg B v++List.replicate (n-(dg B v).length) 0=fl B n v:=by
 have e:=qM (by decide:2≤B) h;obtain⟨k,hk⟩:=pG (fl B n v);rw[e]at hk;have hl:=congrArg List.length hk;rw[bg,List.length_append,List.length_replicate]at hl;rw[show n-(dg B v).length=k from om];exact hk.symm
theorem WB{b:List Nat}(hb:Wd b)(h1:1≤b.length)(h:b.getD (b.length-1) 0≠0):
 B^(b.length-1)≤nv B b*2^(64-bl (b.getD (b.length-1) 0))∧nv B b*2^(64-bl (b.getD (b.length-1) 0))<B^b.length∧B^(b.length-1)≤nv B b:=by
 have hy:=dA hb (b.length-1)
 have e:=dP (b:=B) b (b.length-1) om
 rw[show b.length-1+1=b.length from om,List.take_length]at e
 have hlo:=aZ (b:=B) dc hb (b.length-1)
 have hpow:B^b.length=B^(b.length-1)*B:=by rw[←Nat.pow_succ,show(b.length-1).succ=b.length from om]
 have hP:0<B^(b.length-1):=Nat.pow_pos dc
 generalize b.getD (b.length-1) 0=y at*
 generalize nv B (b.take (b.length-1))=lo at*
 generalize B^(b.length-1)=P at*
 have h64:=qP hy
 have hs:(y+1)*2^(64-bl y)≤B:=by
  have:=Nat.mul_le_mul_right (2^(64-bl y)) (show y+1≤2^bl y from FZ y);rw[←Nat.pow_add,show bl y+(64-bl y)=64 from om]at this;exact this
 have hs0:=Nat.two_pow_pos (64-bl y)
 have hV:P≤nv B b:=by
  have:=Nat.mul_le_mul_left P (show 1≤y by omega);omega
 refine⟨Nat.le_trans hV (Nat.le_mul_of_pos_right _ hs0),?_,hV⟩
 have h3:nv B b<P*(y+1):=by rw[Nat.mul_add];omega
 have h4:=(Nat.mul_lt_mul_right hs0).2 h3
 rw[hpow]
 refine Nat.lt_of_lt_of_le h4 ?_
 rw[Nat.mul_assoc]
 exact Nat.mul_le_mul_left P hs
theorem QX{A V la n s:Nat}(hn:n≤la)(h1:1≤n)(hA:A<B^la)(hV:B^(n-1)≤V):A*2^s/B^(la+1-n)<V*2^s:=by
 refine(Nat.div_lt_iff_lt_mul (Nat.pow_pos dc)).2 ?_;have h2:=(Nat.mul_lt_mul_right (Nat.two_pow_pos s)).2 hA;refine Nat.lt_of_lt_of_le h2 ?_;rw[Nat.mul_right_comm];refine Nat.mul_le_mul_right _ ?_;have:=Nat.mul_le_mul_right (B^(la+1-n)) hV;rw[←Nat.pow_add,show n-1+(la+1-n)=la from om]at this;exact this
theorem ms_def{A V w P:Nat}(hA:A<P):A+P*Oy A V w P-V*w<P∧A+P*Oy A V w P-V*w+V*w=A+P*Oy A V w P:=by
 have hP:0<P:=om;have e:=Nat.div_add_mod (V*w+(P-1-A)) P;have hm:=Nat.mod_lt (V*w+(P-1-A)) hP;unfold Oy;generalize (V*w+(P-1-A))%P=r at*
 generalize P*((V*w+(P-1-A))/P)=z at*
 generalize V*w=y at*
 omega
def uL(As Vs m n i:Nat):List Nat:=fl B i As++(fl B n (As/B^i%Vs)++List.replicate (m+1-i-n) 0)
def qL(As Vs Q i:Nat):List Nat:=List.replicate i 0++fl B (Q-i) (As/B^i/Vs)
theorem uL_top{As Vs m n:Nat}(hn:n≤m+1)(h:As/B^(m+1-n)<Vs):fl B (m+1) As=uL As Vs m n (m+1-n):=by
 unfold uL;rw[Nat.mod_eq_of_lt h,show m+1-(m+1-n)-n=0 from om,List.replicate_zero,List.append_nil,←zG,show m+1-n+n=m+1 from om]
theorem win_fl{x R n:Nat}(hx:x<B):x::fl B n R=fl B n (R*B+x)++[(R*B+x)/B^n%B]:=by
 have h1:(R*B+x)%B=x:=by rw[Nat.mul_comm,Nat.mul_add_mod,Nat.mod_eq_of_lt hx]
 have h2:(R*B+x)/B=R:=by rw[Nat.mul_comm,Nat.mul_add_div (by decide:0<B),Nat.div_eq_of_lt hx,Nat.add_zero]
 rw[←dO,fl,h1,h2]
theorem uL_win{As Vs m n j:Nat}:uL As Vs m n (j+1)=fl B j As++(fl B n (As/B^(j+1)%Vs*B+As/B^j%B)++((As/B^(j+1)%Vs*B+As/B^j%B)/B^n%B)::List.replicate (m+1-(j+1)-n) 0):=by
 have e:=win_fl (R:=As/B^(j+1)%Vs) (n:=n) (Nat.mod_lt (As/B^j) (by decide:0<B));unfold uL;generalize List.replicate (m+1-(j+1)-n) 0=Z;rw[dO,List.append_assoc,List.singleton_append,←List.cons_append,e,List.append_assoc,List.singleton_append]
theorem QY{As Vs m n j:Nat}(h:j+1+n≤m+1)(R:Nat)(hR:As/B^j%Vs=R):fl B j As++(fl B n R++0::List.replicate (m+1-(j+1)-n) 0)=uL As Vs m n j:=by
 unfold uL;rw[hR,show m+1-j-n=(m+1-(j+1)-n)+1 from om,List.replicate_succ]
theorem qL_len{As Vs Q i:Nat}(h:i≤Q):(qL As Vs Q i).length=Q:=by unfold qL;rw[List.length_append,List.length_replicate,bg];omega
theorem qL_set{As Vs Q j d:Nat}(h:j+1≤Q)(h1:As/B^j/Vs%B=d)(h2:As/B^j/Vs/B=As/B^(j+1)/Vs):(qL As Vs Q (j+1)).set j d=qL As Vs Q j:=by
 unfold qL;rw[show Q-j=(Q-(j+1))+1 from om,fl,h1,h2,List.replicate_succ',List.append_assoc,List.set_append_right _ _ (by rw[List.length_replicate];exact Nat.le_refl _),List.length_replicate,Nat.sub_self];rfl
theorem D8{b:Nat}:∀(n v k:Nat),k<n→(fl b n v).getD k 0=v/b^k%b
 |0,v,k,h=>om
 |n+1,v,0,h=>by simp[fl]
 |n+1,v,k+1,h=>by
  show(fl b n (v/b)).getD k 0=_;rw[D8 n (v/b) k om,Nat.div_div_eq_div_mul,Nat.pow_succ,Nat.mul_comm]
