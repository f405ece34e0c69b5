import Derived.Lib.Mul64
import Derived.Lib.Walk
import Derived.Lib.AppendZerosOnto
import Derived.Test.YtpopphdnlhihdaaGreatDoorGD
set_option linter.all false
set_option maxRecDepth 2000000
set_option maxHeartbeats 10000000
namespace Go.Proofs.YtpopphdnlhihdaaGreatDoor
open Go Go.RowKit Ab
def DI:=an @wi<|an @aI<|an @aW @aO
theorem rV(a b:Nat):IntKind.u64.wrap ((a:Int)*(b:Int))=((a*b%18446744073709551616:Nat):Int):=by
 rw[IntKind.wrap_u64,←jC];omega
theorem oz(a b:Nat):IntKind.u64.wrap ((a:Int)+(b:Int))=(((a+b)%18446744073709551616:Nat):Int):=by
 rw[IntKind.wrap_u64];omega
theorem and32(a:Nat)(h:a<18446744073709551616):bits .and .u64 (a:Int) 4294967295=((a%4294967296:Nat):Int):=by
 rw[show(4294967295:Int)=((4294967295:Nat):Int)from rfl,X6 a _ h dc,show(4294967295:Nat)=2^32-1 from rfl,Nat.and_two_pow_sub_one_eq_mod]
theorem uk(a:Nat):(a:Int).fdiv (2^(min (32:Int).toNat IntKind.u64.bits))=((a/4294967296:Nat):Int):=qV a 32 dc
theorem Ht(x y:Nat)(g:x<18446744073709551616)(f:y<18446744073709551616):aT 184 [.i .u64 (x:Int),.i .u64 (y:Int)] (.t [.i .u64 ((x*y/18446744073709551616:Nat):Int),.i .u64 ((x*y%18446744073709551616:Nat):Int)]):=by
 obtain⟨z,u,m,j⟩:=Lib.mul64_hi x y g f;have l:x*y/18446744073709551616<18446744073709551616:=(fP dc).2 (BQ g f);rw[←j]at l;rw[←j];refine f_ aN a_ Tryz.func184 ?_;refine aX (ai @oz<|ai @rV<|ai @uk<|ai @and32 @DI) ?_;refine BL (ai @m_ @DI) ?_;rw[bD z];have E:x/4294967296*(y%4294967296)%18446744073709551616=x/4294967296*(y%4294967296):=bD om;have C:x%4294967296*(y/4294967296)%18446744073709551616=x%4294967296*(y/4294967296):=bD om;have A:x/4294967296*(y/4294967296)%18446744073709551616=x/4294967296*(y/4294967296):=bD om;rw[E,C,A,bD u,bD m];generalize x/4294967296*(y/4294967296)=a at*
 generalize x/4294967296*(y%4294967296)=b at*
 generalize x%4294967296*(y/4294967296)=c at*
 generalize x%4294967296*(y%4294967296)=d at*
 omega
variable{x y A P o c u u1 m N q Y kU vH u32 r hi p U t j As Vs Q:Nat}
theorem Gf{a b:Nat}(f:x<18446744073709551616)(c:y<18446744073709551616)(g:a<18446744073709551616)(hb:b<18446744073709551616):(x*y+a+b)/18446744073709551616<18446744073709551616:=by
 refine(fP dc).2 ?_;have:=tX (Nat.le_sub_one_of_lt f) (Nat.le_sub_one_of_lt c);omega
theorem AA(x y a b:Nat)(f:x<18446744073709551616)(c:y<18446744073709551616)(g:a<18446744073709551616)(hb:b<18446744073709551616):
 aT 168 [.i .u64 (x:Int),.i .u64 (y:Int),.i .u64 (a:Int),.i .u64 (b:Int)] (.t [.i .u64 (((x*y+a+b)/18446744073709551616:Nat):Int),.i .u64 (((x*y+a+b)%18446744073709551616:Nat):Int)]):=by
 have m:=Gf f c g hb
 refine f_ aN a_ Tryz.func168 ?_
 have l:=Ht x y f c
 have j:=x_ (x*y%18446744073709551616) a b om g hb
 refine pJ (ai @oz @DI) ?_
 refine BL (ai @m_ @DI) ?_
 generalize x*y=p at*
 omega
def Ve(A V w P:Nat):Nat:=(V*w+(P-1-A))/P
theorem ms_uniq{V w:Nat}(a:o<P)(f:A<P)(h:o+V*w=A+P*c):c=Ve A V w P∧o=A+P*Ve A V w P-V*w:=by
 have e:Ve A V w P=c:=by
  unfold Ve;rw[show V*w+(P-1-A)=(P-1-o)+P*c from om,oP _ _ om,jQ om,eY]
 rw[e];exact⟨rfl,om⟩
theorem SN{V w:Nat}(f:V<P)(l:A<P)(j:o<P)(h:o+V*w=A+P*c):c≤w:=by
 rcases dW w c with a|a
 ·have g:P*(w+1)≤P*c:=iZ P a;have m:V*w≤P*w:=kF w (qC f);rw[Nat.mul_succ]at g;omega
 ·exact a
theorem ms_step{V w:Nat}(h:o+V*w=A+P*c)(z:x<B):
 o+P*((x+B-(y*w+c)%B)%B)+(V+P*y)*w=(A+P*x)+P*B*((y*w+c)/B+if x<(y*w+c)%B then 1 else 0):=by
 have E:=qo (y*w+c) B
 have C:=cu (y*w+c) (by decide:0<B)
 have e:(x+B-(y*w+c)%B)%B+(y*w+c)=x+B*((y*w+c)/B+if x<(y*w+c)%B then 1 else 0):=by
  generalize (y*w+c)/B=q at*
  generalize (y*w+c)%B=r at*
  unfold B at*
  split<;>omega
 have f:(V+P*y)*w=V*w+P*(y*w):=by rw[kQ,fB]
 have a:=congrArg (P*·) e
 simp only[fQ]at a
 rw[f,fB P B,fQ B]
 rw[fQ]
 generalize P*((x+B-(y*w+c)%B)%B)=u1 at*
 generalize P*(y*w)=u at*
 generalize P*c=m at*
 generalize P*x=l at*
 generalize P*(B*((y*w+c)/B))=j at*
 generalize P*(B*if x<(y*w+c)%B then 1 else 0)=g at*
 omega
theorem E5(a b:List Nat)(w:Nat)(A:Wd a)(hb:Wd b)(J:w<18446744073709551616)(Z:a.length≤1099511627776)(Y:b.length≤a.length):
 aT 190 [.l 1 (W a),.l 1 (W b),.i .u64 (w:Int)]
  (.fr (.t [.l 1 (W (fl B a.length (nv B a+B^a.length*Ve (nv B a) (nv B b) w (B^a.length)-nv B b*w))),.i .u64 ((Ve (nv B a) (nv B b) w (B^a.length):Nat):Int),.i .i64 0])):=by
 refine f_ aN a_ Tryz.func190 ?_
 have g0:¬(a.length:Int)<b.length:=om
 have N:=sW a om
 repeat first|(refine hK _ ?_;clear hK K)|simp only[Sv,↓reduceIte,Nat.reduceEqDiff]|((first|refine ay (fun K hK=>?_)|refine ax (fun K hK=>?_)|refine ak (fun K hK=>?_)|refine fM ?_|refine dE (by assumption) ?_|refine fO ?_|(apply dF;assumption)|(apply dG;assumption));simp(disch:=(first|omega|assumption)) only[S1,seval,-Int.reduceToNat,-List.reduceReplicate,aK.sb,aK.mut,aU,↓aJ,aV,aC,DI,aQ,g0,fZ])
 refine aF [] (Nat×List Nat×Nat) (fun x=>⟨[(1,.l 1 (W b)),(2,.i .u64 (w:Int)),(9,.ow 1 0 a.length),(10,.i .u64 (x.2.2:Int)),(24,.i .i64 (a.length:Int)),(25,.i .i64 (x.1:Int))],
  [(0,some ⟨49,1,W (x.2.1++a.drop x.1),true,false⟩)],1⟩)
  (fun x=>x.1≤a.length∧x.2.1.length=x.1∧Wd x.2.1∧nv B x.2.1+nv B (b.take x.1)*w=nv B (a.take x.1)+B^x.1*x.2.2) (fun x=>a.length-x.1) (0,[],0)
  ⟨aG _,rfl,BZ,by simp[nv]⟩ (by exact oL) (by
  exact lC) ?_
 rintro⟨i,o,c⟩ ⟨hi,lo,wo,hrel⟩ Q' Q O hr
 simp only[]at hi lo wo hrel ⊢
 have g:=eP wo
 rw[lo]at g
 by_cases hlt:(i:Int)<a.length
 ·have m:i<a.length:=om;have P:=SN (dD (b:=B) dc hb i) (dD (b:=B) dc A i) g hrel;have z:=fV A i;have u:=fV hb i;have hget:(o++a.drop i).getD i 0=a.getD i 0:=by rw[dN,rY om,lo,gW,uB,dN];rfl
  have H:(o++a.drop i).length=a.length:=by rw[bZ,lo,uM];omega
  have E:=ms_step (y:=b.getD i 0) hrel z;have F:=AA (b.getD i 0) w c 0 u J om dc;have G:=Gf u J (show c<18446744073709551616 by omega) (show 0<18446744073709551616 by decide);rw[ik]at F G;generalize b.getD i 0*w+c=t at*
  have C:=Jv (a.getD i 0) (t%18446744073709551616) 0 z om dc;simp only[ik]at C;have j:Wd (o++[(a.getD i 0+18446744073709551616-t%18446744073709551616)%18446744073709551616]):=X5 wo (fun x I=>by rw[l_]at I;subst I;unfold B;omega);have hrel2:nv B (o++[(a.getD i 0+18446744073709551616-t%18446744073709551616)%18446744073709551616])+nv B (b.take (i+1))*w=nv B (a.take (i+1))+B^(i+1)*(t/18446744073709551616+if a.getD i 0<t%18446744073709551616 then 1 else 0):=by
   rw[yF,Qa,lo,az,az,dO];exact E
  have hl2:(o++[(a.getD i 0+18446744073709551616-t%18446744073709551616)%18446744073709551616]).length=i+1:=by rw[bZ,lo,GM]
  have f:=eP j;rw[hl2]at f;have L:=SN (dD (b:=B) dc hb (i+1)) (dD (b:=B) dc A (i+1)) f hrel2;have hset:(o++a.drop i).set i ((a.getD i 0+18446744073709551616-t%18446744073709551616)%18446744073709551616)=o++[(a.getD i 0+18446744073709551616-t%18446744073709551616)%18446744073709551616]++a.drop (i+1):=by
   rw[Dc m,nZ _ _ om,lo,gW,List.set_cons_zero,nY];rfl
  have M:=pM b i;refine pJ (ai @hset<|ai @ny<|ai @oz<|ai @hget<|ai @dH<|ai @H<|ai @aQ<|ai @hlt @DI) ?_;refine Q _ (i+1,o++[(a.getD i 0+18446744073709551616-t%18446744073709551616)%18446744073709551616],t/18446744073709551616+if a.getD i 0<t%18446744073709551616 then 1 else 0) ⟨by simp only;omega,hl2,j,hrel2⟩ (by simp only;omega) ?_;refine tV trivial ?_;refine⟨?_,om⟩;rw[bD om]
 ·obtain rfl:i=a.length:=om;refine aX (ai @hlt @DI) ?_;refine O _ _ ?_;rw[jB om,jB (aY _)]at hrel;obtain⟨e1,U⟩:=ms_uniq g (eP A) hrel;have T:fl B a.length (nv B a+B^a.length*Ve (nv B a) (nv B b) w (B^a.length)-nv B b*w)=o:=by rw[←U,←lo,CY wo]
  rw[T,←e1];refine aX @DI ?_;simp(disch:=(first|omega|assumption)) only[dY,iF,iK,jv,fA,V.aP,bW,bY,S1,seval,-Int.reduceToNat,-List.reduceReplicate,aK.sb,aK.mut,aU,↓aJ,aV,aC,DI,List.drop_length,qF,fZ]
def um:=an @wi<|an @aI<|an @aW @aO
def bt:List UInt8:=(List.range 256).map fun i=>UInt8.ofNat (bl i)
theorem uT:([0,1,2,2,3,3,3,3,4,4,4,4,4,4,4,4,5,5,5,5,5,5,5,5,5,5,5,5,5,5,5,5,6,6,6,6,6,6,6,6,6,6,6,6,6,6,6,6,6,6,6,6,6,6,6,6,6,6,6,6,6,6,6,6,7,7,7,7,7,7,7,7,7,7,7,7,7,7,7,7,7,7,7,7,7,7,7,7,7,7,7,7,7,7,7,7,7,7,7,7,7,7,7,7,7,7,7,7,7,7,7,7,7,7,7,7,7,7,7,7,7,7,7,7,7,7,7,7,8,8,8,8,8,8,8,8,8,8,8,8,8,8,8,8,8,8,8,8,8,8,8,8,8,8,8,8,8,8,8,8,8,8,8,8,8,8,8,8,8,8,8,8,8,8,8,8,8,8,8,8,8,8,8,8,8,8,8,8,8,8,8,8,8,8,8,8,8,8,8,8,8,8,8,8,8,8,8,8,8,8,8,8,8,8,8,8,8,8,8,8,8,8,8,8,8,8,8,8,8,8,8,8,8,8,8,8,8,8,8,8,8,8,8,8,8,8,8,8,8,8,8,8,8,8,8,8]:List UInt8)=bt:=by decide+kernel
theorem oV:bt.length=256:=by decide+kernel
theorem bt_all:∀i,i<256→(bt.getD i 0).toNat=bl i:=by decide+kernel
theorem oW(x:Nat)(h:x<256):(((bt.getD x 0).toNat:Nat):Int)=((bl x:Nat):Int):=by rw[bt_all x h]
theorem uU(a:Nat):(a:Int).fdiv (2^(min (16:Int).toNat IntKind.u64.bits))=((a/65536:Nat):Int):=qV a 16 dc
theorem Bv(a:Nat):(a:Int).fdiv (2^(min (8:Int).toNat IntKind.u64.bits))=((a/256:Nat):Int):=qV a 8 dc
theorem w8(a:Nat)(h:a<256):IntKind.u8.wrap (a:Int)=(a:Int):=by rw[IntKind.wrap_u8];omega
theorem bl32(h:4294967296≤x):bl x=32+bl (x/4294967296):=Hm (n:=32) h
theorem bl16(h:65536≤x):bl x=16+bl (x/65536):=Hm (n:=16) h
theorem bl8(h:256≤x):bl x=8+bl (x/256):=Hm (n:=8) h
def a156:AC:= .seq (.reg [qr 2 (.mv (.k (.i .i64 0)))]) (.seq (.seq (.reg [qm 3 0,qr 4 (.bin .geq (.t 3) (.k (.i .u64 4294967296)))]) (.cond (.t 4) (.seq (.reg [qm 5 0,qr 6 (.bin .shr (.t 5) (.k (.i .u64 32))),qm 0 6]) (.reg [qr 2 (.mv (.k (.i .i64 32)))])) (.skip))) (.seq (.seq (.reg [qm 7 0,qr 8 (.bin .geq (.t 7) (.k (.i .u64 65536)))]) (.cond (.t 8) (.seq (.reg [qm 9 0,qr 10 (.bin .shr (.t 9) (.k (.i .u64 16))),qm 0 10]) (.reg [qm 11 2,qr 12 (.bin .add (.t 11) (.k (.i .i64 16))),qm 2 12])) (.skip))) (.seq (.seq (.reg [qm 13 0,qr 14 (.bin .geq (.t 13) (.k (.i .u64 256)))]) (.cond (.t 14) (.seq (.reg [qm 15 0,qr 16 (.bin .shr (.t 15) (.k (.i .u64 8))),qm 0 16]) (.reg [qm 17 2,qr 18 (.bin .add (.t 17) (.k (.i .i64 8))),qm 2 18])) (.skip))) (.seq (.reg [qm 19 2,qm 20 0,qr 21 (.MK .u8 (.t 20)),qr 22 (.six (.k (.s [0,1,2,2,3,3,3,3,4,4,4,4,4,4,4,4,5,5,5,5,5,5,5,5,5,5,5,5,5,5,5,5,6,6,6,6,6,6,6,6,6,6,6,6,6,6,6,6,6,6,6,6,6,6,6,6,6,6,6,6,6,6,6,6,7,7,7,7,7,7,7,7,7,7,7,7,7,7,7,7,7,7,7,7,7,7,7,7,7,7,7,7,7,7,7,7,7,7,7,7,7,7,7,7,7,7,7,7,7,7,7,7,7,7,7,7,7,7,7,7,7,7,7,7,7,7,7,7,8,8,8,8,8,8,8,8,8,8,8,8,8,8,8,8,8,8,8,8,8,8,8,8,8,8,8,8,8,8,8,8,8,8,8,8,8,8,8,8,8,8,8,8,8,8,8,8,8,8,8,8,8,8,8,8,8,8,8,8,8,8,8,8,8,8,8,8,8,8,8,8,8,8,8,8,8,8,8,8,8,8,8,8,8,8,8,8,8,8,8,8,8,8,8,8,8,8,8,8,8,8,8,8,8,8,8,8,8,8,8,8,8,8,8,8,8,8,8,8,8,8,8,8,8,8,8,8])) (.t 21)),qr 23 (.MK .i64 (.t 22)),qr 24 (.bin .add (.t 19) (.t 23)),qm 2 24]) (.ret)))))
set_option maxRecDepth 10000 in
theorem Hu(x:Nat)(m:x<18446744073709551616):aT 156 [.i .u64 (x:Int)] (.i .i64 ((bl x:Nat):Int)):=by
 refine Jq aN a_ Tryz.func156 a156 ?_;unfold a156;simp only[dw,eU,qm,qr,qn];by_cases c:(4294967296:Int)≤(x:Int)
 ·have l:=bl32 (x:=x) om;by_cases a:(65536:Int)≤((x/4294967296:Nat):Int)
  ·have j:=bl16 (x:=x/4294967296) om;by_cases f:(256:Int)≤((x/4294967296/65536:Nat):Int)
   ·have g:=bl8 (x:=x/4294967296/65536) om;have hb:=y9 (x:=x/4294967296/65536) om;repeat first|(refine hK _ ?_;clear hK K)|simp only[Sv,↓reduceIte,Nat.reduceEqDiff]|((first|refine ay (fun K hK=>?_)|refine ax (fun K hK=>?_)|refine ak (fun K hK=>?_));simp(disch:=(first|omega|assumption)) only[S1,seval,-Int.reduceToNat,-List.reduceReplicate,aK.sb,aK.mut,aU,↓aJ,aV,aC,um,c,a,f,uk,uU,Bv,w8,↓uT,oV,oW])
    simp(disch:=(first|omega|assumption)) only[dY,iF,iK,jv,fA,V.aP,bW,bY,S1,seval,-Int.reduceToNat,-List.reduceReplicate,aK.sb,aK.mut,aU,↓aJ,aV,aC,um,c,a,f,uk,uU,Bv,w8,↓uT,oV,oW];try (congr 1;omega)
   ·have hb:=y9 (x:=x/4294967296/65536) om;repeat first|(refine hK _ ?_;clear hK K)|simp only[Sv,↓reduceIte,Nat.reduceEqDiff]|((first|refine ay (fun K hK=>?_)|refine ax (fun K hK=>?_)|refine ak (fun K hK=>?_));simp(disch:=(first|omega|assumption)) only[S1,seval,-Int.reduceToNat,-List.reduceReplicate,aK.sb,aK.mut,aU,↓aJ,aV,aC,um,c,a,f,uk,uU,Bv,w8,↓uT,oV,oW])
    simp(disch:=(first|omega|assumption)) only[dY,iF,iK,jv,fA,V.aP,bW,bY,S1,seval,-Int.reduceToNat,-List.reduceReplicate,aK.sb,aK.mut,aU,↓aJ,aV,aC,um,c,a,f,uk,uU,Bv,w8,↓uT,oV,oW];try (congr 1;omega)
  ·by_cases f:(256:Int)≤((x/4294967296:Nat):Int)
   ·have g:=bl8 (x:=x/4294967296) om;have hb:=y9 (x:=x/4294967296) om;repeat first|(refine hK _ ?_;clear hK K)|simp only[Sv,↓reduceIte,Nat.reduceEqDiff]|((first|refine ay (fun K hK=>?_)|refine ax (fun K hK=>?_)|refine ak (fun K hK=>?_));simp(disch:=(first|omega|assumption)) only[S1,seval,-Int.reduceToNat,-List.reduceReplicate,aK.sb,aK.mut,aU,↓aJ,aV,aC,um,c,a,f,uk,uU,Bv,w8,↓uT,oV,oW])
    simp(disch:=(first|omega|assumption)) only[dY,iF,iK,jv,fA,V.aP,bW,bY,S1,seval,-Int.reduceToNat,-List.reduceReplicate,aK.sb,aK.mut,aU,↓aJ,aV,aC,um,c,a,f,uk,uU,Bv,w8,↓uT,oV,oW];try (congr 1;omega)
   ·have hb:=y9 (x:=x/4294967296) om;repeat first|(refine hK _ ?_;clear hK K)|simp only[Sv,↓reduceIte,Nat.reduceEqDiff]|((first|refine ay (fun K hK=>?_)|refine ax (fun K hK=>?_)|refine ak (fun K hK=>?_));simp(disch:=(first|omega|assumption)) only[S1,seval,-Int.reduceToNat,-List.reduceReplicate,aK.sb,aK.mut,aU,↓aJ,aV,aC,um,c,a,f,uk,uU,Bv,w8,↓uT,oV,oW])
    simp(disch:=(first|omega|assumption)) only[dY,iF,iK,jv,fA,V.aP,bW,bY,S1,seval,-Int.reduceToNat,-List.reduceReplicate,aK.sb,aK.mut,aU,↓aJ,aV,aC,um,c,a,f,uk,uU,Bv,w8,↓uT,oV,oW];try (congr 1;omega)
 ·by_cases a:(65536:Int)≤(x:Int)
  ·have j:=bl16 (x:=x) om;by_cases f:(256:Int)≤((x/65536:Nat):Int)
   ·have g:=bl8 (x:=x/65536) om;have hb:=y9 (x:=x/65536) om;repeat first|(refine hK _ ?_;clear hK K)|simp only[Sv,↓reduceIte,Nat.reduceEqDiff]|((first|refine ay (fun K hK=>?_)|refine ax (fun K hK=>?_)|refine ak (fun K hK=>?_));simp(disch:=(first|omega|assumption)) only[S1,seval,-Int.reduceToNat,-List.reduceReplicate,aK.sb,aK.mut,aU,↓aJ,aV,aC,um,c,a,f,uk,uU,Bv,w8,↓uT,oV,oW])
    simp(disch:=(first|omega|assumption)) only[dY,iF,iK,jv,fA,V.aP,bW,bY,S1,seval,-Int.reduceToNat,-List.reduceReplicate,aK.sb,aK.mut,aU,↓aJ,aV,aC,um,c,a,f,uk,uU,Bv,w8,↓uT,oV,oW];try (congr 1;omega)
   ·have hb:=y9 (x:=x/65536) om;repeat first|(refine hK _ ?_;clear hK K)|simp only[Sv,↓reduceIte,Nat.reduceEqDiff]|((first|refine ay (fun K hK=>?_)|refine ax (fun K hK=>?_)|refine ak (fun K hK=>?_));simp(disch:=(first|omega|assumption)) only[S1,seval,-Int.reduceToNat,-List.reduceReplicate,aK.sb,aK.mut,aU,↓aJ,aV,aC,um,c,a,f,uk,uU,Bv,w8,↓uT,oV,oW])
    simp(disch:=(first|omega|assumption)) only[dY,iF,iK,jv,fA,V.aP,bW,bY,S1,seval,-Int.reduceToNat,-List.reduceReplicate,aK.sb,aK.mut,aU,↓aJ,aV,aC,um,c,a,f,uk,uU,Bv,w8,↓uT,oV,oW];try (congr 1;omega)
  ·by_cases f:(256:Int)≤((x:Nat):Int)
   ·have g:=bl8 (x:=x) om;have hb:=y9 (x:=x) om;repeat first|(refine hK _ ?_;clear hK K)|simp only[Sv,↓reduceIte,Nat.reduceEqDiff]|((first|refine ay (fun K hK=>?_)|refine ax (fun K hK=>?_)|refine ak (fun K hK=>?_));simp(disch:=(first|omega|assumption)) only[S1,seval,-Int.reduceToNat,-List.reduceReplicate,aK.sb,aK.mut,aU,↓aJ,aV,aC,um,c,a,f,uk,uU,Bv,w8,↓uT,oV,oW])
    simp(disch:=(first|omega|assumption)) only[dY,iF,iK,jv,fA,V.aP,bW,bY,S1,seval,-Int.reduceToNat,-List.reduceReplicate,aK.sb,aK.mut,aU,↓aJ,aV,aC,um,c,a,f,uk,uU,Bv,w8,↓uT,oV,oW];try (congr 1;omega)
   ·have hb:=y9 (x:=x) om;repeat first|(refine hK _ ?_;clear hK K)|simp only[Sv,↓reduceIte,Nat.reduceEqDiff]|((first|refine ay (fun K hK=>?_)|refine ax (fun K hK=>?_)|refine ak (fun K hK=>?_));simp(disch:=(first|omega|assumption)) only[S1,seval,-Int.reduceToNat,-List.reduceReplicate,aK.sb,aK.mut,aU,↓aJ,aV,aC,um,c,a,f,uk,uU,Bv,w8,↓uT,oV,oW])
    simp(disch:=(first|omega|assumption)) only[dY,iF,iK,jv,fA,V.aP,bW,bY,S1,seval,-Int.reduceToNat,-List.reduceReplicate,aK.sb,aK.mut,aU,↓aJ,aV,aC,um,c,a,f,uk,uU,Bv,w8,↓uT,oV,oW];try (congr 1;omega)
theorem EI(x:Nat)(a:x<18446744073709551616):aT 187 [.i .u64 (x:Int)] (.i .i64 ((64-bl x:Nat):Int)):=by
 have hb:=y9 a;refine f_ aN a_ Tryz.func187 ?_;have c:=Hu x a;refine wdO @um ?_;try (congr 1;omega)
def gY:=an @wi<|an @aI<|an @aW @aO
theorem FO(a:Nat):IntKind.u64.wrap (4294967296*(a:Int))=((4294967296*a%18446744073709551616:Nat):Int):=rV 4294967296 a
theorem y_(a:Nat):IntKind.u64.wrap ((a:Int)*4294967296)=((a*4294967296%18446744073709551616:Nat):Int):=rV a 4294967296
theorem NG(a b:Nat)(h:a<18446744073709551616):IntKind.u64.wrap ((a:Int).tdiv (b:Int))=((a/b:Nat):Int):=by
 have e:(a:Int).tdiv (b:Int)=((a/b:Nat):Int):=rfl;have:=fE a b;rw[e,IntKind.wrap_u64];generalize a/b=c at*
 omega
theorem tmodU(a b:Nat):(a:Int).tmod (b:Int)=((a%b:Nat):Int):=rfl
theorem nT(a:Nat)(h1:1≤a)(h2:a<18446744073709551616):IntKind.u64.wrap ((a:Int)-1)=((a-1:Nat):Int):=by rw[IntKind.wrap_u64];omega
theorem sub64(a:Nat)(h:a≤64):IntKind.u64.wrap (64-(a:Int))=((64-a:Nat):Int):=by rw[IntKind.wrap_u64];omega
theorem cvtU(a:Nat)(h:a≤64):IntKind.u64.wrap (a:Int)=(a:Int):=by rw[IntKind.wrap_u64];omega
theorem Yg(u a b:Nat):(u*4294967296+a)*4294967296+b=u*18446744073709551616+(a*4294967296+b):=om
theorem p32:2^(32:Int).toNat=4294967296:=rfl
theorem remU(a b:Nat)(h:a<18446744073709551616):IntKind.u64.wrap ((a:Int)-((a/b*b%18446744073709551616:Nat):Int))=((a%b:Nat):Int):=by
 have e:=qo a b;rw[bV]at e;have f:a/b*b<18446744073709551616:=om;rw[bD f,IntKind.wrap_u64];generalize a/b*b=c at*
 omega
theorem remM'(a:u*4294967296+u1=N)(e:c+m=N)(hm:m<18446744073709551616):
 IntKind.u64.wrap ((((u*4294967296%18446744073709551616+u1)%18446744073709551616:Nat):Int)-((c%18446744073709551616:Nat):Int))=(m:Int):=by
 rw[IntKind.wrap_u64]
 omega
theorem FP(f:Y<18446744073709551616)(a:0<Y)(hq:q=(u*4294967296+u1)/Y):
 IntKind.u64.wrap ((((u*4294967296%18446744073709551616+u1)%18446744073709551616:Nat):Int)-((q*Y%18446744073709551616:Nat):Int))=(((u*4294967296+u1)%Y:Nat):Int):=by
 have e:=qo (u*4294967296+u1) Y
 have c:=cu (u*4294967296+u1) a
 rw[←hq,bV]at e
 exact remM' rfl e (oh c f)
theorem kN(a:kU*4294967296+vH=Y)(h:q*kU+r=u32)(h2:q*vH≤4294967296*r+u1):q*Y≤u32*4294967296+u1:=a▸X9 h h2
theorem AB(a:kU*4294967296+vH=Y)(h:q*kU+r=u32)(h2:4294967296*r+u1<q*vH):u32*4294967296+u1<q*Y:=a▸X_ h h2
theorem AP(f:kU*4294967296+vH=Y)(a:2147483648≤kU)(h0:vH<4294967296)(c:u32<Y)(h1:u1<4294967296):
 u32/kU*kU+u32%kU=u32∧u32*4294967296+u1<(u32/kU+1)*Y∧u32/kU≤4294967297:=by
 subst f;exact Ya a h0 c h1
theorem pq(h:q*kU+r=u)(h0:1≤q):(q-1)*kU+(r+kU)=u:=by
 obtain⟨p,rfl⟩:∃p,q=p+1:=⟨q-1,om⟩;rw[CW,←h,kQ,iV];omega
theorem Hw(hi lo y:Nat)(hh:hi<y)(hy:y<18446744073709551616)(hl:lo<18446744073709551616):
 aT 195 [.i .u64 (hi:Int),.i .u64 (lo:Int),.i .u64 (y:Int)] (.t [.i .u64 (((hi*18446744073709551616+lo)/y:Nat):Int),.i .u64 (((hi*18446744073709551616+lo)%y:Nat):Int)]):=by
 have hy0:y≠0:=om
 obtain⟨hn1,hn2⟩:=Va hy0 hy
 have hs:64-bl y≤64:=om
 have hlz:=EI y hy
 generalize 64-bl y=s at*
 have c1:¬(y:Int)=0:=om
 have c2:¬(y:Int)≤(hi:Int):=om
 refine f_ aN a_ Tryz.func195 ?_
 by_cases hz:(hi:Int)=0
 ·obtain rfl:hi=0:=om;have e0:0*18446744073709551616+lo=lo:=om;rw[e0];have c3:¬(y:Int)≤0:=om;exact U8 (ai @tmodU<|ai @NG<|ai @c3<|ai @c2<|ai @c1 @gY)
 ·have hsh:=shr_lt (lo:=lo) hs hl;have hsp:=Vb (lo:=lo) hs;have hle:hi*2^s+2^s≤y*2^s:=by have:=kF (2^s) (show hi+1≤y from hh);rwa[kQ,iV]at this
  have hhm:hi*2^s%18446744073709551616=hi*2^s:=bD om;have hor:=Qb (x:=hi) hs hsh;have hlt:lo/2^(64-s)<18446744073709551616:=cZ (fE _ _) hl;have C:=EE (U:=hi*18446744073709551616+lo) (y:=y) (s:=s);have hU:(hi*18446744073709551616+lo)*2^s=(hi*2^s+lo/2^(64-s))*18446744073709551616+lo*2^s%18446744073709551616:=by
   rw[kQ,kQ,Nat.mul_right_comm];omega
  have hbor:bits .or .u64 ((hi*2^s%18446744073709551616:Nat):Int) ((lo/2^(64-s):Nat):Int)=((hi*2^s+lo/2^(64-s):Nat):Int):=by
   rw[ND _ _ om hlt,hor,hhm]
  have hYm:y*2^s%18446744073709551616=y*2^s:=bD hn2;have h10:lo*2^s%18446744073709551616<18446744073709551616:=cu _ dc;have hu:hi*2^s+lo/2^(64-s)<y*2^s:=om;rw[hU]at C;have hX:(hi*18446744073709551616+lo)/y<18446744073709551616:=(fP om).2 (by have:=kF 18446744073709551616 (show hi+1≤y from hh);omega);obtain⟨X,hXe⟩:∃X,X=(hi*18446744073709551616+lo)/y:=⟨_,rfl⟩;obtain⟨R,hRe⟩:∃R,R=(hi*18446744073709551616+lo)%y:=⟨_,rfl⟩;rw[←hXe]at hX C;rw[←hRe]at C;rw[←hXe,←hRe];generalize hu32:hi*2^s+lo/2^(64-s)=u32 at*
  generalize hY:y*2^s=Y at*
  generalize hu10:lo*2^s%18446744073709551616=u10 at*
  have m:=Nat.div_add_mod' Y 4294967296;have z:=cu Y (show 0<4294967296 by decide);have hun0:=cu u10 (show 0<4294967296 by decide);have hue:=Nat.div_add_mod' u10 4294967296;have hy31:2147483648≤Y/4294967296:=om;have Z:Y/4294967296<4294967296:=om;have hun1:u10/4294967296<4294967296:=om;generalize hg1:Y/4294967296=kU at*
  generalize hg2:Y%4294967296=vH at*
  generalize hg3:u10/4294967296=g at*
  generalize hg4:u10%4294967296=a at*
  have Qc:Y<18446744073709551616:=hn2;have nU:0<Y:=om;have hu64:u32<18446744073709551616:=om;have e2:(u32*4294967296+g)*4294967296+a=u32*18446744073709551616+u10:=by rw[Yg,hue]
  have cy:¬(kU:Int)=0:=om;repeat first|(refine hK _ ?_;clear hK K)|simp only[Sv,↓reduceIte,Nat.reduceEqDiff]|((first|refine ay (fun K hK=>?_)|refine ax (fun K hK=>?_)|refine ak (fun K hK=>?_)|refine fM ?_|refine dE (by assumption) ?_|refine fO ?_|(apply dF;assumption)|(apply dG;assumption));simp(disch:=(first|omega|assumption)) only[S1,seval,-Int.reduceToNat,-List.reduceReplicate,aK.sb,aK.mut,aU,↓aJ,aV,aC,gY,c1,c2,hz,cvtU,Jr,qV,sub64,hY,hYm,hu10,hbor,p32,and32,hg1,hg2,hg3,hg4,NG,rV,remU,ne_eq,cy,kP])
  obtain⟨Q,P,O⟩:=AP (u32:=u32) (u1:=g) m hy31 z hu om;refine aF [] (Nat×Nat) (fun x=>⟨[(2,.i .u64 (Y:Int)),(8,.i .u64 (s:Int)),(9,.i .u64 (kU:Int)),(10,.i .u64 (vH:Int)),(11,.i .u64 (u32:Int)),(13,.i .u64 (g:Int)),(14,.i .u64 (a:Int)),(15,.i .u64 (x.1:Int)),(16,.i .u64 (x.2:Int))],[],0⟩)
   (fun x=>x.1*kU+x.2=u32∧x.2<4294967296∧u32*4294967296+g<(x.1+1)*Y∧x.1≤4294967297) (fun x=>x.1) (u32/kU,u32%kU)
   ⟨Q,oh (cu _ om) Z,P,O⟩ (by exact oL) (by
   exact lC) ?_
  rintro⟨q,r⟩ ⟨l,L,F,M⟩ Q' hQ T hr;simp only[]at l L F M ⊢;have G:(r+kU)%18446744073709551616=r+kU:=bD om;by_cases h1:(4294967296:Int)≤(q:Int)
  ·have iM:=F_ (u1:=g) hu om (show 4294967296≤q by omega);have f:1≤q:=by
    rcases kz q with h|h
    ·subst h;simp at iM
    ·exact h
   have j:=pq l f;by_cases h3:(4294967296:Int)≤((r+kU:Nat):Int)
   ·refine aX (ai @h3<|ai @G<|ai @oz<|ai @nT<|ai @h1 @gY) ?_;refine T _ _ ?_;have c:=pK (kN m j (by have g1:=tX (show q-1≤4294967296 by omega) (qC z);omega)) (by rw[qG f];exact iM);have E:q-1<18446744073709551616:=om;generalize q-1=q' at*
    have A:=c;generalize q'=p at A c ⊢;have SQ:=cu (u32*4294967296+g) nU;obtain⟨v,hv⟩:∃v,v=(u32*4294967296+g)%Y:=⟨_,rfl⟩;have hsub:=FP (u:=u32) (u1:=g) Qc nU c;rw[←hv]at SQ hsub;have hv64:v<18446744073709551616:=oh SQ Qc;refine aX (ai @remU<|ai @NG<|ai @kP<|ai @cy<|ai @neqA<|ai @hsub<|ai @y_<|ai @oz<|ai @rV @gY) ?_;obtain⟨Q,P,O⟩:=AP (u32:=v) (u1:=a) m hy31 z SQ om;refine aF [] (Nat×Nat) (fun x=>⟨[(2,.i .u64 (Y:Int)),(8,.i .u64 (s:Int)),(9,.i .u64 (kU:Int)),(10,.i .u64 (vH:Int)),(14,.i .u64 (a:Int)),(15,.i .u64 (p:Int)),(17,.i .u64 (v:Int)),(18,.i .u64 (x.1:Int)),(16,.i .u64 (x.2:Int))],[],0⟩)
     (fun x=>x.1*kU+x.2=v∧x.2<4294967296∧v*4294967296+a<(x.1+1)*Y∧x.1≤4294967297) (fun x=>x.1) (v/kU,v%kU)
     ⟨Q,oh (cu _ om) Z,P,O⟩ (by exact oL) (by
     exact lC) ?_
    rintro⟨q,r⟩ ⟨l,L,F,M⟩ Q' hQ T hr;simp only[]at l L F M ⊢;have G:(r+kU)%18446744073709551616=r+kU:=bD om;by_cases h1:(4294967296:Int)≤(q:Int)
    ·have iM:=F_ (u1:=a) SQ om (show 4294967296≤q by omega);have f:1≤q:=by
      rcases kz q with h|h
      ·subst h;simp at iM
      ·exact h
     have j:=pq l f;by_cases h3:(4294967296:Int)≤((r+kU:Nat):Int)
     ·refine aX (ai @h3<|ai @G<|ai @oz<|ai @nT<|ai @h1 @gY) ?_;refine T _ _ ?_;have c:=pK (kN m j (by have g1:=tX (show q-1≤4294967296 by omega) (qC z);omega)) (by rw[qG f];exact iM);have E:q-1<18446744073709551616:=om;generalize q-1=q' at*
      have e1:=ve (N:=u32*4294967296+g) (Ky:=a) nU;rw[e2,←hv,←A,←c]at e1;obtain⟨s1,s2⟩:=C;rw[e1.1]at s1;rw[e1.2]at s2;repeat first
       |(refine hK _ ?_;clear hK K)
       |((first|refine ay (fun K hK=>?_)|refine ax (fun K hK=>?_)|refine ak (fun K hK=>?_));simp(disch:=(first|omega|assumption)) only[S1,seval,-Int.reduceToNat,-List.reduceReplicate,aK.sb,aK.mut,aU,↓aJ,aV,aC,gY,rV,oz,y_,FP Qc nU c,qV,s2];refine hK _ ?_;clear hK K)
       |simp only[Sv,↓reduceIte,Nat.reduceEqDiff]
      refine BL (ai @m_ @gY) ?_;try omega
     ·refine aX (ai @h3<|ai @G<|ai @oz<|ai @nT<|ai @h1 @gY) ?_;refine hQ _ (q-1,r+kU) ⟨j,by simp only;omega,by simp only;rw[qG f];exact iM,by simp only;omega⟩ (by simp only;omega) ?_;exact lC
    ·have g1:=tX (show q≤4294967295 by omega) (show vH≤4294967295 by omega);have J:q*vH%18446744073709551616=q*vH:=bD om;have I:4294967296*r%18446744073709551616=4294967296*r:=bD om;have H:(4294967296*r+a)%18446744073709551616=4294967296*r+a:=bD om;by_cases h2:((4294967296*r+a:Nat):Int)<((q*vH:Nat):Int)
     ·have iM:=AB m l (show 4294967296*r+a<q*vH by omega);have f:1≤q:=by
       rcases kz q with h|h
       ·subst h;simp at iM
       ·exact h
      have j:=pq l f;by_cases h3:(4294967296:Int)≤((r+kU:Nat):Int)
      ·refine aX (ai @h3<|ai @G<|ai @oz<|ai @nT<|ai @h2<|ai @H<|ai @I<|ai @J<|ai @FO<|ai @rV<|ai @h1 @gY) ?_;refine T _ _ ?_;have c:=pK (kN m j (by have g1:=tX (show q-1≤4294967296 by omega) (qC z);omega)) (by rw[qG f];exact iM);have E:q-1<18446744073709551616:=om;generalize q-1=q' at*
       have e1:=ve (N:=u32*4294967296+g) (Ky:=a) nU;rw[e2,←hv,←A,←c]at e1;obtain⟨s1,s2⟩:=C;rw[e1.1]at s1;rw[e1.2]at s2;repeat first
        |(refine hK _ ?_;clear hK K)
        |((first|refine ay (fun K hK=>?_)|refine ax (fun K hK=>?_)|refine ak (fun K hK=>?_));simp(disch:=(first|omega|assumption)) only[S1,seval,-Int.reduceToNat,-List.reduceReplicate,aK.sb,aK.mut,aU,↓aJ,aV,aC,gY,rV,oz,y_,FP Qc nU c,qV,s2];refine hK _ ?_;clear hK K)
        |simp only[Sv,↓reduceIte,Nat.reduceEqDiff]
       refine BL (ai @m_ @gY) ?_;try omega
      ·refine aX (ai @h3<|ai @G<|ai @oz<|ai @nT<|ai @h2<|ai @H<|ai @I<|ai @J<|ai @FO<|ai @rV<|ai @h1 @gY) ?_;refine hQ _ (q-1,r+kU) ⟨j,by simp only;omega,by simp only;rw[qG f];exact iM,by simp only;omega⟩ (by simp only;omega) ?_;exact lC
     ·refine aX (ai @h2<|ai @H<|ai @I<|ai @J<|ai @oz<|ai @FO<|ai @rV<|ai @h1 @gY) ?_;refine T _ _ ?_;have c:=pK (kN m l om) F;have E:q<18446744073709551616:=om;have e1:=ve (N:=u32*4294967296+g) (Ky:=a) nU;rw[e2,←hv,←A,←c]at e1;obtain⟨s1,s2⟩:=C;rw[e1.1]at s1;rw[e1.2]at s2;repeat first
       |(refine hK _ ?_;clear hK K)
       |((first|refine ay (fun K hK=>?_)|refine ax (fun K hK=>?_)|refine ak (fun K hK=>?_));simp(disch:=(first|omega|assumption)) only[S1,seval,-Int.reduceToNat,-List.reduceReplicate,aK.sb,aK.mut,aU,↓aJ,aV,aC,gY,rV,oz,y_,FP Qc nU c,qV,s2];refine hK _ ?_;clear hK K)
       |simp only[Sv,↓reduceIte,Nat.reduceEqDiff]
      refine BL (ai @m_ @gY) ?_;try omega
   ·refine aX (ai @h3<|ai @G<|ai @oz<|ai @nT<|ai @h1 @gY) ?_;refine hQ _ (q-1,r+kU) ⟨j,by simp only;omega,by simp only;rw[qG f];exact iM,by simp only;omega⟩ (by simp only;omega) ?_;exact lC
  ·have g1:=tX (show q≤4294967295 by omega) (show vH≤4294967295 by omega);have J:q*vH%18446744073709551616=q*vH:=bD om;have I:4294967296*r%18446744073709551616=4294967296*r:=bD om;have H:(4294967296*r+g)%18446744073709551616=4294967296*r+g:=bD om;by_cases h2:((4294967296*r+g:Nat):Int)<((q*vH:Nat):Int)
   ·have iM:=AB m l (show 4294967296*r+g<q*vH by omega);have f:1≤q:=by
     rcases kz q with h|h
     ·subst h;simp at iM
     ·exact h
    have j:=pq l f;by_cases h3:(4294967296:Int)≤((r+kU:Nat):Int)
    ·refine aX (ai @h3<|ai @G<|ai @oz<|ai @nT<|ai @h2<|ai @H<|ai @I<|ai @J<|ai @FO<|ai @rV<|ai @h1 @gY) ?_;refine T _ _ ?_;have c:=pK (kN m j (by have g1:=tX (show q-1≤4294967296 by omega) (qC z);omega)) (by rw[qG f];exact iM);have E:q-1<18446744073709551616:=om;generalize q-1=q' at*
     have A:=c;generalize q'=p at A c ⊢;have SQ:=cu (u32*4294967296+g) nU;obtain⟨v,hv⟩:∃v,v=(u32*4294967296+g)%Y:=⟨_,rfl⟩;have hsub:=FP (u:=u32) (u1:=g) Qc nU c;rw[←hv]at SQ hsub;have hv64:v<18446744073709551616:=oh SQ Qc;refine aX (ai @remU<|ai @NG<|ai @kP<|ai @cy<|ai @neqA<|ai @hsub<|ai @y_<|ai @oz<|ai @rV @gY) ?_;obtain⟨Q,P,O⟩:=AP (u32:=v) (u1:=a) m hy31 z SQ om;refine aF [] (Nat×Nat) (fun x=>⟨[(2,.i .u64 (Y:Int)),(8,.i .u64 (s:Int)),(9,.i .u64 (kU:Int)),(10,.i .u64 (vH:Int)),(14,.i .u64 (a:Int)),(15,.i .u64 (p:Int)),(17,.i .u64 (v:Int)),(18,.i .u64 (x.1:Int)),(16,.i .u64 (x.2:Int))],[],0⟩)
      (fun x=>x.1*kU+x.2=v∧x.2<4294967296∧v*4294967296+a<(x.1+1)*Y∧x.1≤4294967297) (fun x=>x.1) (v/kU,v%kU)
      ⟨Q,oh (cu _ om) Z,P,O⟩ (by exact oL) (by
      exact lC) ?_
     rintro⟨q,r⟩ ⟨l,L,F,M⟩ Q' hQ T hr;simp only[]at l L F M ⊢;have G:(r+kU)%18446744073709551616=r+kU:=bD om;by_cases h1:(4294967296:Int)≤(q:Int)
     ·have iM:=F_ (u1:=a) SQ om (show 4294967296≤q by omega);have f:1≤q:=by
       rcases kz q with h|h
       ·subst h;simp at iM
       ·exact h
      have j:=pq l f;by_cases h3:(4294967296:Int)≤((r+kU:Nat):Int)
      ·refine aX (ai @h3<|ai @G<|ai @oz<|ai @nT<|ai @h1 @gY) ?_;refine T _ _ ?_;have c:=pK (kN m j (by have g1:=tX (show q-1≤4294967296 by omega) (qC z);omega)) (by rw[qG f];exact iM);have E:q-1<18446744073709551616:=om;generalize q-1=q' at*
       have e1:=ve (N:=u32*4294967296+g) (Ky:=a) nU;rw[e2,←hv,←A,←c]at e1;obtain⟨s1,s2⟩:=C;rw[e1.1]at s1;rw[e1.2]at s2;repeat first
        |(refine hK _ ?_;clear hK K)
        |((first|refine ay (fun K hK=>?_)|refine ax (fun K hK=>?_)|refine ak (fun K hK=>?_));simp(disch:=(first|omega|assumption)) only[S1,seval,-Int.reduceToNat,-List.reduceReplicate,aK.sb,aK.mut,aU,↓aJ,aV,aC,gY,rV,oz,y_,FP Qc nU c,qV,s2];refine hK _ ?_;clear hK K)
        |simp only[Sv,↓reduceIte,Nat.reduceEqDiff]
       refine BL (ai @m_ @gY) ?_;try omega
      ·refine aX (ai @h3<|ai @G<|ai @oz<|ai @nT<|ai @h1 @gY) ?_;refine hQ _ (q-1,r+kU) ⟨j,by simp only;omega,by simp only;rw[qG f];exact iM,by simp only;omega⟩ (by simp only;omega) ?_;exact lC
     ·have g1:=tX (show q≤4294967295 by omega) (show vH≤4294967295 by omega);have J:q*vH%18446744073709551616=q*vH:=bD om;have I:4294967296*r%18446744073709551616=4294967296*r:=bD om;have H:(4294967296*r+a)%18446744073709551616=4294967296*r+a:=bD om;by_cases h2:((4294967296*r+a:Nat):Int)<((q*vH:Nat):Int)
      ·have iM:=AB m l (show 4294967296*r+a<q*vH by omega);have f:1≤q:=by
        rcases kz q with h|h
        ·subst h;simp at iM
        ·exact h
       have j:=pq l f;by_cases h3:(4294967296:Int)≤((r+kU:Nat):Int)
       ·refine aX (ai @h3<|ai @G<|ai @oz<|ai @nT<|ai @h2<|ai @H<|ai @I<|ai @J<|ai @FO<|ai @rV<|ai @h1 @gY) ?_;refine T _ _ ?_;have c:=pK (kN m j (by have g1:=tX (show q-1≤4294967296 by omega) (qC z);omega)) (by rw[qG f];exact iM);have E:q-1<18446744073709551616:=om;generalize q-1=q' at*
        have e1:=ve (N:=u32*4294967296+g) (Ky:=a) nU;rw[e2,←hv,←A,←c]at e1;obtain⟨s1,s2⟩:=C;rw[e1.1]at s1;rw[e1.2]at s2;repeat first
         |(refine hK _ ?_;clear hK K)
         |((first|refine ay (fun K hK=>?_)|refine ax (fun K hK=>?_)|refine ak (fun K hK=>?_));simp(disch:=(first|omega|assumption)) only[S1,seval,-Int.reduceToNat,-List.reduceReplicate,aK.sb,aK.mut,aU,↓aJ,aV,aC,gY,rV,oz,y_,FP Qc nU c,qV,s2];refine hK _ ?_;clear hK K)
         |simp only[Sv,↓reduceIte,Nat.reduceEqDiff]
        refine BL (ai @m_ @gY) ?_;try omega
       ·refine aX (ai @h3<|ai @G<|ai @oz<|ai @nT<|ai @h2<|ai @H<|ai @I<|ai @J<|ai @FO<|ai @rV<|ai @h1 @gY) ?_;refine hQ _ (q-1,r+kU) ⟨j,by simp only;omega,by simp only;rw[qG f];exact iM,by simp only;omega⟩ (by simp only;omega) ?_;exact lC
      ·refine aX (ai @h2<|ai @H<|ai @I<|ai @J<|ai @oz<|ai @FO<|ai @rV<|ai @h1 @gY) ?_;refine T _ _ ?_;have c:=pK (kN m l om) F;have E:q<18446744073709551616:=om;have e1:=ve (N:=u32*4294967296+g) (Ky:=a) nU;rw[e2,←hv,←A,←c]at e1;obtain⟨s1,s2⟩:=C;rw[e1.1]at s1;rw[e1.2]at s2;repeat first
        |(refine hK _ ?_;clear hK K)
        |((first|refine ay (fun K hK=>?_)|refine ax (fun K hK=>?_)|refine ak (fun K hK=>?_));simp(disch:=(first|omega|assumption)) only[S1,seval,-Int.reduceToNat,-List.reduceReplicate,aK.sb,aK.mut,aU,↓aJ,aV,aC,gY,rV,oz,y_,FP Qc nU c,qV,s2];refine hK _ ?_;clear hK K)
        |simp only[Sv,↓reduceIte,Nat.reduceEqDiff]
       refine BL (ai @m_ @gY) ?_;try omega
    ·refine aX (ai @h3<|ai @G<|ai @oz<|ai @nT<|ai @h2<|ai @H<|ai @I<|ai @J<|ai @FO<|ai @rV<|ai @h1 @gY) ?_;refine hQ _ (q-1,r+kU) ⟨j,by simp only;omega,by simp only;rw[qG f];exact iM,by simp only;omega⟩ (by simp only;omega) ?_;exact lC
   ·refine aX (ai @h2<|ai @H<|ai @I<|ai @J<|ai @oz<|ai @FO<|ai @rV<|ai @h1 @gY) ?_;refine T _ _ ?_;have c:=pK (kN m l om) F;have E:q<18446744073709551616:=om;have A:=c;generalize q=p at A c ⊢;have SQ:=cu (u32*4294967296+g) nU;obtain⟨v,hv⟩:∃v,v=(u32*4294967296+g)%Y:=⟨_,rfl⟩;have hsub:=FP (u:=u32) (u1:=g) Qc nU c;rw[←hv]at SQ hsub;have hv64:v<18446744073709551616:=oh SQ Qc;refine aX (ai @remU<|ai @NG<|ai @kP<|ai @cy<|ai @neqA<|ai @hsub<|ai @y_<|ai @oz<|ai @rV @gY) ?_;obtain⟨Q,P,O⟩:=AP (u32:=v) (u1:=a) m hy31 z SQ om;refine aF [] (Nat×Nat) (fun x=>⟨[(2,.i .u64 (Y:Int)),(8,.i .u64 (s:Int)),(9,.i .u64 (kU:Int)),(10,.i .u64 (vH:Int)),(14,.i .u64 (a:Int)),(15,.i .u64 (p:Int)),(17,.i .u64 (v:Int)),(18,.i .u64 (x.1:Int)),(16,.i .u64 (x.2:Int))],[],0⟩)
     (fun x=>x.1*kU+x.2=v∧x.2<4294967296∧v*4294967296+a<(x.1+1)*Y∧x.1≤4294967297) (fun x=>x.1) (v/kU,v%kU)
     ⟨Q,oh (cu _ om) Z,P,O⟩ (by exact oL) (by
     exact lC) ?_
    rintro⟨q,r⟩ ⟨l,L,F,M⟩ Q' hQ T hr;simp only[]at l L F M ⊢;have G:(r+kU)%18446744073709551616=r+kU:=bD om;by_cases h1:(4294967296:Int)≤(q:Int)
    ·have iM:=F_ (u1:=a) SQ om (show 4294967296≤q by omega);have f:1≤q:=by
      rcases kz q with h|h
      ·subst h;simp at iM
      ·exact h
     have j:=pq l f;by_cases h3:(4294967296:Int)≤((r+kU:Nat):Int)
     ·refine aX (ai @h3<|ai @G<|ai @oz<|ai @nT<|ai @h1 @gY) ?_;refine T _ _ ?_;have c:=pK (kN m j (by have g1:=tX (show q-1≤4294967296 by omega) (qC z);omega)) (by rw[qG f];exact iM);have E:q-1<18446744073709551616:=om;generalize q-1=q' at*
      have e1:=ve (N:=u32*4294967296+g) (Ky:=a) nU;rw[e2,←hv,←A,←c]at e1;obtain⟨s1,s2⟩:=C;rw[e1.1]at s1;rw[e1.2]at s2;repeat first
       |(refine hK _ ?_;clear hK K)
       |((first|refine ay (fun K hK=>?_)|refine ax (fun K hK=>?_)|refine ak (fun K hK=>?_));simp(disch:=(first|omega|assumption)) only[S1,seval,-Int.reduceToNat,-List.reduceReplicate,aK.sb,aK.mut,aU,↓aJ,aV,aC,gY,rV,oz,y_,FP Qc nU c,qV,s2];refine hK _ ?_;clear hK K)
       |simp only[Sv,↓reduceIte,Nat.reduceEqDiff]
      refine BL (ai @m_ @gY) ?_;try omega
     ·refine aX (ai @h3<|ai @G<|ai @oz<|ai @nT<|ai @h1 @gY) ?_;refine hQ _ (q-1,r+kU) ⟨j,by simp only;omega,by simp only;rw[qG f];exact iM,by simp only;omega⟩ (by simp only;omega) ?_;exact lC
    ·have g1:=tX (show q≤4294967295 by omega) (show vH≤4294967295 by omega);have J:q*vH%18446744073709551616=q*vH:=bD om;have I:4294967296*r%18446744073709551616=4294967296*r:=bD om;have H:(4294967296*r+a)%18446744073709551616=4294967296*r+a:=bD om;by_cases h2:((4294967296*r+a:Nat):Int)<((q*vH:Nat):Int)
     ·have iM:=AB m l (show 4294967296*r+a<q*vH by omega);have f:1≤q:=by
       rcases kz q with h|h
       ·subst h;simp at iM
       ·exact h
      have j:=pq l f;by_cases h3:(4294967296:Int)≤((r+kU:Nat):Int)
      ·refine aX (ai @h3<|ai @G<|ai @oz<|ai @nT<|ai @h2<|ai @H<|ai @I<|ai @J<|ai @FO<|ai @rV<|ai @h1 @gY) ?_;refine T _ _ ?_;have c:=pK (kN m j (by have g1:=tX (show q-1≤4294967296 by omega) (qC z);omega)) (by rw[qG f];exact iM);have E:q-1<18446744073709551616:=om;generalize q-1=q' at*
       have e1:=ve (N:=u32*4294967296+g) (Ky:=a) nU;rw[e2,←hv,←A,←c]at e1;obtain⟨s1,s2⟩:=C;rw[e1.1]at s1;rw[e1.2]at s2;repeat first
        |(refine hK _ ?_;clear hK K)
        |((first|refine ay (fun K hK=>?_)|refine ax (fun K hK=>?_)|refine ak (fun K hK=>?_));simp(disch:=(first|omega|assumption)) only[S1,seval,-Int.reduceToNat,-List.reduceReplicate,aK.sb,aK.mut,aU,↓aJ,aV,aC,gY,rV,oz,y_,FP Qc nU c,qV,s2];refine hK _ ?_;clear hK K)
        |simp only[Sv,↓reduceIte,Nat.reduceEqDiff]
       refine BL (ai @m_ @gY) ?_;try omega
      ·refine aX (ai @h3<|ai @G<|ai @oz<|ai @nT<|ai @h2<|ai @H<|ai @I<|ai @J<|ai @FO<|ai @rV<|ai @h1 @gY) ?_;refine hQ _ (q-1,r+kU) ⟨j,by simp only;omega,by simp only;rw[qG f];exact iM,by simp only;omega⟩ (by simp only;omega) ?_;exact lC
     ·refine aX (ai @h2<|ai @H<|ai @I<|ai @J<|ai @oz<|ai @FO<|ai @rV<|ai @h1 @gY) ?_;refine T _ _ ?_;have c:=pK (kN m l om) F;have E:q<18446744073709551616:=om;have e1:=ve (N:=u32*4294967296+g) (Ky:=a) nU;rw[e2,←hv,←A,←c]at e1;obtain⟨s1,s2⟩:=C;rw[e1.1]at s1;rw[e1.2]at s2;repeat first
       |(refine hK _ ?_;clear hK K)
       |((first|refine ay (fun K hK=>?_)|refine ax (fun K hK=>?_)|refine ak (fun K hK=>?_));simp(disch:=(first|omega|assumption)) only[S1,seval,-Int.reduceToNat,-List.reduceReplicate,aK.sb,aK.mut,aU,↓aJ,aV,aC,gY,rV,oz,y_,FP Qc nU c,qV,s2];refine hK _ ?_;clear hK K)
       |simp only[Sv,↓reduceIte,Nat.reduceEqDiff]
      refine BL (ai @m_ @gY) ?_;try omega
def NH:=an @wi<|an @aI<|an @aW<|an @aO @aQ
theorem zM{V w:Nat}(c:0<w)(g:x<B):
 (x+B*V)/w%B=(V%w*B+x)/w∧(x+B*V)/w/B=V/w∧(x+B*V)%w=(V%w*B+x)%w∧(V%w*B+x)/w<B:=by
 have e:=qo V w
 have f:=cu V c
 generalize V/w=q at*
 generalize V%w=r at*
 have h:x+B*V=(r*B+x)+w*(q*B):=by rw[←e,fQ,←fB,bV B w,fB,bV B q,bV B r];omega
 have a:(r*B+x)/w<B:=by
  refine(fP c).2 ?_;have:=kF B (show r+1≤w from f);rw[kQ,iV]at this;rw[bV B w];omega
 rw[h,oP _ _ c,uy,Nat.add_mul_mod_self_right,bD a,Nat.add_mul_div_right _ _ (by decide:0<B),jQ a]
 exact⟨rfl,om,rfl,a⟩
theorem E8(a:List Nat)(w:Nat)(C:Wd a)(c:0<w)(y:w<18446744073709551616)(I:a.length≤1099511627776):
 aT 186 [.l 1 (W a),.i .u64 (w:Int)] (.t [.l 1 (W (fl B a.length (nv B a/w))),.i .u64 ((nv B a%w:Nat):Int),.i .i64 0]):=by
 refine f_ aN a_ Tryz.func186 ?_
 have g0:¬(w:Int)=0:=om
 repeat first
  |(refine hK _ ?_;clear hK K)
  |((first|refine ay (fun K hK=>?_)|refine ax (fun K hK=>?_)|refine ak (fun K hK=>?_));simp(disch:=(first|omega|assumption)) only[S1,seval,-Int.reduceToNat,-List.reduceReplicate,aK.sb,aK.mut,aU,↓aJ,aV,aC,NH,g0];refine hK _ ?_;clear hK K)
  |simp only[Sv,↓reduceIte,Nat.reduceEqDiff]
 refine aF [] Nat (fun i=>⟨[(0,.l 1 (W a)),(1,.i .u64 (w:Int)),(7,.ow 1 0 a.length),(8,.i .u64 ((nv B (a.drop i)%w:Nat):Int)),(9,.i .i64 ((i:Int)-1))],
  [(0,some ⟨49,1,W (List.replicate i 0++fl B (a.length-i) (nv B (a.drop i)/w)),true,false⟩)],1⟩)
  (fun i=>i≤a.length) (fun i=>i) a.length (aY _) (by exact oL) (by
  refine tV trivial ?_
  refine⟨by rw[List.drop_length];simp[nv],?_⟩
  rw[gW,fl,qF];exact EF _) ?_
 intro i hi L E A J
 cases i with
 |zero=>
  refine aX @NH ?_;refine A _ _ ?_;refine aX @NH ?_;exact rP (ai @Nat.sub_zero<|ai @C9 @NH)
 |succ k=>
  have j:k<a.length:=om;have G:(0:Int)≤((k+1:Nat):Int)-1:=om;have F:(((k+1:Nat):Int)-1).toNat=k:=om;have g:=fV C k;have z:=cu (nv B (a.drop (k+1))) c;obtain⟨s1,s2,u,H⟩:=zM (V:=nv B (a.drop (k+1))) c g;have f:(List.replicate (k+1) 0++fl B (a.length-(k+1)) (nv B (a.drop (k+1))/w)).length=a.length:=by rw[bZ,nS,bH];omega
  have hset:(List.replicate (k+1) 0++fl B (a.length-(k+1)) (nv B (a.drop (k+1))/w)).set k ((nv B (a.drop (k+1))%w*18446744073709551616+a.getD k 0)/w)=List.replicate k 0++fl B (a.length-k) (nv B (a.drop k)/w):=by
   rw[wZ a k j,show a.length-k=(a.length-(k+1))+1 from om,fl,s1,s2,List.replicate_succ',nY,nZ _ _ (by rw[nS];exact aY _),nS,gW];rfl
  have m:=Hw (nv B (a.drop (k+1))%w) (a.getD k 0) w z y g;refine pJ (ai @hset<|ai @ny<|ai @f<|ai @dH<|ai @F<|ai @G @NH) ?_;refine E _ k om om ?_;refine tV trivial ?_;rw[wZ a k j,u];repeat' first|rfl|omega|(simp only[bZ,dX,dJ];done)|apply And.intro
def jc:=an @wi<|an @aI<|an @aW @aO
theorem NI{b v1 v0 w:Nat}(h:q*v1+r=u)(h2:q*v0≤r*b+w):q*(v1*b+v0)≤u*b+w:=by
 rw[←h,fQ,kQ,fB];omega
theorem kover{b v1 v0 w:Nat}(h:q*v1+r=u)(h2:r*b+w<q*v0):u*b+w<q*(v1*b+v0):=by
 rw[←h,fQ,kQ,fB];omega
theorem Yh{q0:Nat}(a:0<Y)(h1:q*Y≤N)(h2:q≤q0)(c:q=q0∨N<(q+1)*Y):q=min q0 (N/Y):=by
 have f:=(rZ a).2 h1;rcases c with h|h
 ·omega
 ·have:=(fP a).2 h;omega
theorem Qd{v0 w:Nat}(hq:q≤18446744073709551616)(a:v0≤18446744073709551616)(c:18446744073709551616≤r):q*v0≤r*18446744073709551616+w:=by
 have f:=tX hq a;omega
theorem SS{lo w:Nat}(e:18446744073709551616*hi+lo=p)(h:hi<r∨hi=r∧lo≤w)(hl:lo<18446744073709551616):p≤r*18446744073709551616+w:=om
theorem NJ{lo w:Nat}(e:18446744073709551616*hi+lo=p)(h:¬(hi<r∨hi=r∧lo≤w))(a:w<18446744073709551616):r*18446744073709551616+w<p:=om
theorem DJ(q0 r0 l v1 v0 u:Nat)(hqB:q0<18446744073709551616)(hrB:r0<18446744073709551616)(C:l<18446744073709551616)(P:v1<18446744073709551616)(m:v0<18446744073709551616)
 (H:0<v1*18446744073709551616+v0) (Q:q0*v1+r0=u):
 aT 197 [.i .u64 (q0:Int),.i .u64 (r0:Int),.i .u64 (l:Int),.i .u64 (v1:Int),.i .u64 (v0:Int)] (.i .u64 ((min q0 ((u*18446744073709551616+l)/(v1*18446744073709551616+v0)):Nat):Int)):=by
 refine f_ aN a_ Tryz.func197 ?_
 refine aX @jc ?_
 refine aF [] (Nat×Nat) (fun x=>⟨[(0,.i .u64 (x.1:Int)),(1,.i .u64 (x.2:Int)),(2,.i .u64 (l:Int)),(3,.i .u64 (v1:Int)),(4,.i .u64 (v0:Int))],[],0⟩)
  (fun x=>x.1*v1+x.2=u∧x.2<18446744073709551616∧x.1≤q0∧(x.1=q0∨u*18446744073709551616+l<(x.1+1)*(v1*18446744073709551616+v0))) (fun x=>x.1) (q0,r0)
  ⟨Q,hrB,aY _,.inl rfl⟩ (by exact oL) (by
  exact lC) ?_
 rintro⟨q,r⟩ ⟨c,I,A,z⟩ U L G T
 simp only[]at c I A z ⊢
 have j:=Ht q v0 om m
 have F:=qo (q*v0) 18446744073709551616
 have E:=cu (q*v0) (show 0<18446744073709551616 by decide)
 generalize q*v0/18446744073709551616=J at*
 generalize q*v0%18446744073709551616=O at*
 by_cases t1:(J:Int)<(r:Int)
 ·have N:=j;refine pJ (ai @t1 @jc) ?_;refine G _ _ ?_;have a:=Yh H (NI c (SS F om E)) A z;rw[←a];refine aX @jc ?_;exact rP @jc
 ·by_cases t2:(J:Int)=(r:Int)
  ·obtain rfl:r=J:=om;by_cases t3:(O:Int)≤(l:Int)
   ·have M:=j;refine pJ (ai @t3<|ai @U9<|ai @Int.lt_irrefl @jc) ?_;refine G _ _ ?_;have a:=Yh H (NI c (SS F om E)) A z;rw[←a];refine aX @jc ?_;exact rP @jc
   ·repeat first|(refine hK _ ?_;clear hK K)|simp only[Sv,↓reduceIte,Nat.reduceEqDiff]|((first|refine ay (fun K hK=>?_)|refine ax (fun K hK=>?_)|refine ak (fun K hK=>?_));refine iw @jc ?_)
    refine qc _ _ (j) ?_ ?_
    ·exact OJ @jc
    refine iw @jc ?_;have iM:=kover c (NJ F om C);have f:1≤q:=by
     rcases kz q with h|h
     ·subst h;simp at iM
     ·exact h
    have g:=pq c f;by_cases hc:(((r+v1)/18446744073709551616:Nat):Int)=1
    ·repeat first|(refine hK _ ?_;clear hK K)|simp only[Sv,↓reduceIte,Nat.reduceEqDiff]|((first|refine ay (fun K hK=>?_)|refine ax (fun K hK=>?_)|refine ak (fun K hK=>?_));refine iw (ai @nT<|ai @t3<|ai @U9<|ai @Int.lt_irrefl @jc) ?_)
     refine uG _ (xh r v1) ?_;refine iw (ai @nT<|ai @t3<|ai @U9<|ai @Int.lt_irrefl @jc) ?_;try (refine hK _ ?_;clear hK K)
     refine aX (ai @hc @jc) ?_;refine G _ _ ?_;have y:=NI g (Qd (w:=l) (show q-1≤18446744073709551616 by omega) (qC m) (show 18446744073709551616≤r+v1 by omega));have a:=Yh H y (show q-1≤q0 by omega) (.inr (by rw[qG f];exact iM));rw[←a];try (refine hK _ ?_;clear hK K)
     refine aX @jc ?_;exact rP @jc
    ·repeat first|(refine hK _ ?_;clear hK K)|simp only[Sv,↓reduceIte,Nat.reduceEqDiff]|((first|refine ay (fun K hK=>?_)|refine ax (fun K hK=>?_)|refine ak (fun K hK=>?_));refine iw (ai @nT<|ai @t3<|ai @U9<|ai @Int.lt_irrefl @jc) ?_)
     refine uG _ (xh r v1) ?_;refine iw (ai @nT<|ai @t3<|ai @U9<|ai @Int.lt_irrefl @jc) ?_;try (refine hK _ ?_;clear hK K)
     refine aX (ai @hc @jc) ?_;refine L _ (q-1,r+v1) ⟨g,by simp only;omega,by simp only;omega,by simp only;rw[qG f];exact .inr iM⟩ (by simp only;omega) ?_;exact lC
  ·repeat first|(refine hK _ ?_;clear hK K)|simp only[Sv,↓reduceIte,Nat.reduceEqDiff]|((first|refine ay (fun K hK=>?_)|refine ax (fun K hK=>?_)|refine ak (fun K hK=>?_));refine iw @jc ?_)
   refine qc _ _ (j) ?_ ?_
   ·exact OJ @jc
   refine iw @jc ?_;have iM:=kover c (NJ F om C);have f:1≤q:=by
    rcases kz q with h|h
    ·subst h;simp at iM
    ·exact h
   have g:=pq c f;by_cases hc:(((r+v1)/18446744073709551616:Nat):Int)=1
   ·repeat first|(refine hK _ ?_;clear hK K)|simp only[Sv,↓reduceIte,Nat.reduceEqDiff]|((first|refine ay (fun K hK=>?_)|refine ax (fun K hK=>?_)|refine ak (fun K hK=>?_));refine iw (ai @nT<|ai @t2<|ai @t1 @jc) ?_)
    refine uG _ (xh r v1) ?_;refine iw (ai @nT<|ai @t2<|ai @t1 @jc) ?_;try (refine hK _ ?_;clear hK K)
    refine aX (ai @hc @jc) ?_;refine G _ _ ?_;have y:=NI g (Qd (w:=l) (show q-1≤18446744073709551616 by omega) (qC m) (show 18446744073709551616≤r+v1 by omega));have a:=Yh H y (show q-1≤q0 by omega) (.inr (by rw[qG f];exact iM));rw[←a];try (refine hK _ ?_;clear hK K)
    refine aX @jc ?_;exact rP @jc
   ·repeat first|(refine hK _ ?_;clear hK K)|simp only[Sv,↓reduceIte,Nat.reduceEqDiff]|((first|refine ay (fun K hK=>?_)|refine ax (fun K hK=>?_)|refine ak (fun K hK=>?_));refine iw (ai @nT<|ai @t2<|ai @t1 @jc) ?_)
    refine uG _ (xh r v1) ?_;refine iw (ai @nT<|ai @t2<|ai @t1 @jc) ?_;try (refine hK _ ?_;clear hK K)
    refine aX (ai @hc @jc) ?_;refine L _ (q-1,r+v1) ⟨g,by simp only;omega,by simp only;omega,by simp only;rw[qG f];exact .inr iM⟩ (by simp only;omega) ?_;exact lC
theorem gmin(a:0<Y)(hq:q≤18446744073709551615)(h:N<(q+1)*Y):min q (N/Y)=min 18446744073709551615 (N/Y):=by
 have:=(fP a).2 h;omega
theorem Hy(a u1 c v1 v0:Nat)(h2:a≤v1)(E:0<v1)(u:u1<18446744073709551616)(j:c<18446744073709551616)(f:v1<18446744073709551616)(g:v0<18446744073709551616):
 aT 189 [.i .u64 (a:Int),.i .u64 (u1:Int),.i .u64 (c:Int),.i .u64 (v1:Int),.i .u64 (v0:Int)]
  (.i .u64 ((min 18446744073709551615 (((a*18446744073709551616+u1)*18446744073709551616+c)/(v1*18446744073709551616+v0)):Nat):Int)):=by
 have m:0<v1*18446744073709551616+v0:=om
 refine f_ aN a_ Tryz.func189 ?_
 by_cases t:(v1:Int)≤(a:Int)
 ·obtain rfl:a=v1:=om;have l:18446744073709551615*a+(u1+a)=a*18446744073709551616+u1:=om;by_cases hc:(((u1+a)/18446744073709551616:Nat):Int)=1
  ·have A:=NI (w:=c) l (Qd (q:=18446744073709551615) (v0:=v0) (w:=c) om om (show 18446744073709551616≤u1+a by omega));have C:=Yh m A (aY _) (.inl rfl);rw[←C];repeat first|(refine hK _ ?_;clear hK K)|simp only[Sv,↓reduceIte,Nat.reduceEqDiff]|((first|refine ay (fun K hK=>?_)|refine ax (fun K hK=>?_)|refine ak (fun K hK=>?_));refine iw (ai @Int.le_refl @jc) ?_)
   refine uG _ (xh u1 a) ?_;refine iw (ai @Int.le_refl @jc) ?_;try (refine hK _ ?_;clear hK K)
   exact U8 (ai @hc @jc)
  ·have hmod:(u1+a)%18446744073709551616=u1+a:=bD om;repeat first|(refine hK _ ?_;clear hK K)|simp only[Sv,↓reduceIte,Nat.reduceEqDiff]|((first|refine ay (fun K hK=>?_)|refine ax (fun K hK=>?_)|refine ak (fun K hK=>?_));refine iw (ai @Int.le_refl @jc) ?_)
   refine uG _ (xh u1 a) ?_;refine iw (ai @Int.le_refl @jc) ?_;have G:=DJ 18446744073709551615 (u1+a) c a v0 _ om om j f g m l;try (refine hK _ ?_;clear hK K)
   exact jO (ai @hmod<|ai @hc @jc)
 ·have e:=qo (a*18446744073709551616+u1) v1;have H:=cu (a*18446744073709551616+u1) E;have I:=Hw a u1 v1 om f u;have hqB:(a*18446744073709551616+u1)/v1<18446744073709551616:=by
   refine(fP E).2 ?_;have:=kF 18446744073709551616 (show a+1≤v1 by omega);omega
  rw[bV]at e;obtain⟨U,J⟩:∃U,U=a*18446744073709551616+u1:=⟨_,rfl⟩;rw[←J]at e H I hqB ⊢;have L:U*18446744073709551616+c<(U/v1+1)*(v1*18446744073709551616+v0):=by
   rw[fQ,←fB,kQ _ 1 v1,iV];generalize U/v1*v1=z at*
   generalize (U/v1+1)*v0=y at*
   omega
  rw[←gmin m om L];have F:=DJ (U/v1) (U%v1) c v1 v0 U hqB om j f g m e;try (refine hK _ ?_;clear hK K)
  exact jO (ai @t @jc)
theorem NK{V:Nat}(l:0<P)(A:U<V*B)(z:B≤V/P):U/V≤min (B-1) (U/P/(V/P))∧min (B-1) (U/P/(V/P))≤U/V+1:=by
 have C:0<B:=dc;have a:0<V/P:=eu C z;have c:0<V:=eu a (fE _ _);have G:V/P*P≤V:=Nat.div_mul_le_self V P;have H:U/V<B:=(fP c).2 (by rw[bV];exact A);refine⟨?_,?_⟩
 ·refine Nat.le_min.2 ⟨om,?_⟩;rw[rZ a,rZ l,fB];exact bK (iZ _ G) (Nat.div_mul_le_self U V)
 ·rcases dW (U/V+1) (min (B-1) (U/P/(V/P)))with h|h
  ·exfalso;obtain⟨g,j⟩:∃g,g=min (B-1) (U/P/(V/P)):=⟨_,rfl⟩;rw[←j]at h;have u:g≤B-1:=by rw[j];exact Nat.min_le_left _ _
   have f:g≤U/P/(V/P):=by rw[j];exact Nat.min_le_right _ _
   rw[rZ a,rZ l]at f;have L:U<(U/V+1)*V:=by rw[kQ,iV,bV (U/V)];exact Nat.lt_mul_div_succ U c |> fun h=>by rwa[Nat.mul_succ]at h
   have J:(U/V+1)*V≤(g-1)*V:=kF V om;have F:V<(V/P+1)*P:=by have:=Nat.lt_mul_div_succ V l;rwa[bV]at this
   have I:(g-1)*V≤(g-1)*((V/P+1)*P):=iZ _ (qC F);have m:g*(V/P)*P<(g-1)*((V/P+1)*P):=om;rw[←fB]at m;have E:=Nat.lt_of_mul_lt_mul_right m;have y:1≤g:=cZ (aG _) h;obtain⟨k,rfl⟩:∃k,g=k+1:=⟨g-1,om⟩;rw[CW,kQ,iV,fQ,aO]at E;omega
  ·exact h
theorem Yi{V g:Nat}(L:A<P)(J:U=A+P*t)(I:V<P)(z:0<V)(u:U/V≤g)(l:g≤U/V+1)(G:o<P)(h:o+V*g=A+P*c):
 (c≤t→g=U/V∧t=c∧o=U%V)∧(t<c→g=U/V+1∧c=t+1∧o+V=U%V+P):=by
 have e:=qo U V
 have H:=cu U z
 have f:U+P*c=o+V*g+P*t:=om
 obtain⟨d,E⟩:∃d,d=U/V:=⟨_,rfl⟩
 rw[←E]at e u l ⊢
 generalize U%V=m at*
 refine⟨fun F=>?_,fun C=>?_⟩
 ·obtain⟨s,rfl⟩:∃s,t=c+s:=⟨t-c,om⟩;have y:g=d:=by
   rcases dW d g with a|a
   ·obtain rfl:g=d+1:=om;rw[fQ,fQ,aO]at f;omega
   ·omega
  subst y;rw[fQ]at f;have j:s=0:=by
   rcases kz s with a|a
   ·exact a
   ·have:=iZ P (show 1≤s from a);omega
  subst j;exact⟨rfl,om,om⟩
 ·obtain⟨s,rfl⟩:∃s,c=t+1+s:=⟨c-t-1,om⟩;rw[fQ,fQ,aO]at f;have y:g=d+1:=by
   rcases dW d g with a|a
   ·omega
   ·obtain rfl:g=d:=om;omega
  subst y;rw[fQ,aO]at f;have j:s=0:=by
   rcases kz s with a|a
   ·exact a
   ·have:=iZ P (show 1≤s from a);omega
  subst j;exact⟨rfl,om,om⟩
theorem Yj{n:Nat}:((U/B^(n+2))*B+U/B^(n+1)%B)*B+U/B^n%B=U/B^n:=by
 have c:U/B^(n+2)=U/B^(n+1)/B:=by rw[lZ,←dO]
 have a:U/B^(n+1)=U/B^n/B:=by rw[lZ,←dO]
 rw[c,Nat.div_add_mod',a,Nat.div_add_mod']
theorem SX{V n:Nat}(h:V<B^(n+2)):(V/B^(n+1)%B)*B+V/B^n%B=V/B^n:=by
 have c:V/B^(n+1)=V/B^n/B:=by rw[lZ,←dO]
 have a:V/B^(n+1)<B:=(fP (bg dc)).2 (by rw[←Nat.pow_succ'];exact h);rw[bD a,c,Nat.div_add_mod']
set_option maxHeartbeats 4000000 in
set_option maxRecDepth 100000 in
theorem Yk(n:Nat)(h0:0<n)(c:n≤1000000000000)(w:World):
 Calls Tryz.prog 196 #[.slice none 0 0,.int .i64 n] w fun e w'=>
  e= .returned (.slice (some ⟨w.heap.size,0,none⟩) 0 (grownCap w n 0 49))∧
  w'=(w.alloc (.cells (Builtin.zeroCells #[.int .u64 0] n++Builtin.zeroCells #[.int .u64 0] (grownCap w n 0 49-n)) 49)).drew:=by
 have j:¬((n:Int)<0):=om
 have g:wrap64 ((n:Int)-0)=(n:Int):=by unfold wrap64;omega
 have f:(n:Int)>0:=om
 have hfit:Builtin.nextslicecap n 0*8≤281474976710656:=growslice_fits (need:=n) (old:=0) (bytes:=8) h0 om
 go_enter Tryz.func196,Tryz.ntmps196
 go_wp2
 all_goals first|(exfalso;omega)|(exfalso;simp only[show Tryz.t49.bytes=8 from rfl]at *;omega)|(go_ret;exact⟨rfl,rfl⟩)
theorem Vf(w:World):Calls Tryz.prog 196 #[.slice none 0 0,.int .i64 0] w fun e w'=>e= .returned (.slice none 0 0)∧w'=w:=by
 go_enter Tryz.func196,Tryz.ntmps196;go_wp2;all_goals (go_ret;exact⟨rfl,rfl⟩)
theorem Vg(n:Nat)(y:n≤1000000000000):aT 196 [.nl,.i .i64 (n:Int)] (.o 49 1 []):=by
 refine .of0 rfl ?_;intro w H m C A E c;match m,c with
 |[a,b],c=>
  have e1:=Rep.rq (ov:=fun _=>none) (.up (c.2 0 a _ rfl rfl));have z:=Rep.dU (ov:=fun _=>none) (.up (c.2 1 b _ rfl rfl));subst e1 z;rcases kz n with h|h
  ·subst h;refine(Vf w).mono ?_;rintro e l ⟨rfl,rfl⟩;exact⟨_,rfl,Below.refl _ _,fun _=>False,fun b hb=>hb.elim,.inr (.inl ⟨_,_,[],0,[],rfl,dc,World.ownsRow_nil _ _ _ _,⟨rfl,fun j v x h=>by simp at h⟩,fun x f=>by(cases f),aG _,fun b hb=>by cases hb⟩)⟩
  ·refine(Yk n h y w).mono ?_;rintro e l ⟨rfl,rfl⟩;have F:=grownCap_ge w n 0 49;have g:=grownCap_le_maxLen w n 0 49 (by unfold maxLen;omega);generalize grownCap w n 0 49=G at*
   refine⟨_,rfl,((Below.refl _ _).alloc (aY _) _).drew,fun _=>False,fun b hb=>hb.elim,.inr (.inl ⟨49,1,[],0,[],rfl,dc,⟨rfl,.inr ⟨w.heap.size,G,_,rfl,aY _,heap_alloc_new w _,aG _,g,?_,sy⟩⟩,⟨rfl,fun j v x h=>by simp at h⟩,fun x f=>by(cases f),aG _,fun b hb h=>h⟩)⟩;simp[Builtin.zeroCells];omega
def zQ:=an @wi<|an @aI<|an @aW<|an @aO<|an @aQ<|an @Hf<|an @di @fZ
def PW(ps:List (List Nat)):List V:=ps.map fun p=>V.l 1 (W p)
theorem wC(ps:List (List Nat)):(PW ps).length=ps.length:=by simp[PW]
theorem Yl(ps:List (List Nat))(i:Nat)(h:i<ps.length):(PW ps).getD i .un=V.l 1 (W (ps.getD i [])):=by simp[PW,dN,h]
theorem Jy(ps:List (List Nat))(i:Nat)(h:i<ps.length):(ps.take (i+1)).flatten=(ps.take i).flatten++ps.getD i []:=by
 rw[y7 h,List.flatten_append,dN,bC h];simp
theorem vg(ps:List (List Nat))(i:Nat):(ps.take i).flatten.length≤ps.flatten.length:=by
 have:ps.flatten=(ps.take i).flatten++(ps.drop i).flatten:=by rw[←List.flatten_append,List.take_append_drop]
 rw[this,bZ];omega
theorem E_(ps:List (List Nat))(C:ps.length≤1000000)(hl:ps.flatten.length≤1000000000000):aT 188 [.l 1 (PW ps)] (.o 49 1 (W ps.flatten)):=by
 refine f_ aN a_ Tryz.func188 ?_;refine aX (ai @wC @zQ) ?_;refine aF [] Nat (fun i=>⟨[(0,.l 1 (PW ps)),(3,.i .i64 ((ps.take i).flatten.length:Int)),(9,.l 1 (PW ps)),(10,.i .i64 (ps.length:Int)),(11,.i .i64 (i:Int))],[],0⟩)
  (fun i=>i≤ps.length) (fun i=>ps.length-i) 0 (aG _) (by exact oL) (by
  exact lC) ?_
 intro i hi F z y A;have c:=vg ps i;by_cases hlt:(i:Int)<ps.length
 ·have g:=congrArg List.length (Jy ps i om);rw[bZ]at g;have f:=vg ps (i+1);have hneg:¬(((ps.take i).flatten.length:Int)+((ps.getD i []).length:Int))<0:=om;refine aX (ai @hneg<|ai @Yl<|ai @hlt<|ai @wC @zQ) ?_;refine z _ (i+1) om om ?_;exact lC
 ·obtain rfl:i=ps.length:=om;refine aX (ai @hlt<|ai @wC @zQ) ?_;refine y _ _ ?_;rw[iH];repeat first|(refine hK _ ?_;clear hK K)|simp only[Sv,↓reduceIte,Nat.reduceEqDiff]|((first|refine ay (fun K hK=>?_)|refine ax (fun K hK=>?_)|refine ak (fun K hK=>?_));refine iw (ai @wC @zQ) ?_)
  refine clp_ofn _ _ (Vg ps.flatten.length hl) ?_ ?_
  ·exact OJ (ai @wC @zQ)
  refine iw (ai @wC @zQ) ?_;try (refine hK _ ?_;clear hK K)
  refine aX (ai @wC @zQ) ?_;refine aF [] Nat (fun i=>⟨[(6,.ow 1 0 (ps.take i).flatten.length),(25,.l 1 (PW ps)),(26,.i .i64 (ps.length:Int)),(27,.i .i64 (i:Int))],[(0,some ⟨49,1,W (ps.take i).flatten,true,false⟩)],1⟩)
   (fun i=>i≤ps.length) (fun i=>ps.length-i) 0 (aG _) (by exact oL) (by
   exact lC) ?_
  intro i hi E m j u;have c:=vg ps i;by_cases hlt:(i:Int)<ps.length
  ·have a:=Jy ps i om;have g:=congrArg List.length a;rw[bZ]at g;have f:=vg ps (i+1);try (refine hK _ ?_;clear hK K)
   refine aX (ai @Yl<|ai @hlt<|ai @wC @zQ) ?_;refine m _ (i+1) om om ?_;refine tV trivial ?_;rw[a];repeat' first|rfl|omega|(simp only[bZ,dX,dJ];done)|apply And.intro
  ·obtain rfl:i=ps.length:=om;try (refine hK _ ?_;clear hK K)
   refine aX (ai @hlt<|ai @wC @zQ) ?_;refine j _ _ ?_;rw[iH];try (refine hK _ ?_;clear hK K)
   refine aX (ai @wC @zQ) ?_;exact rP (ai @wC @zQ)
section
variable {X A Z R:List Nat} {t j n:Nat}
theorem xk(a:X.length=j)(c:A.length=n):(X++(A++t::Z)).length=j+n+1+Z.length:=by simp;omega
theorem AQ(a:X.length=j)(c:A.length=n):(X++(A++t::Z)).getD (j+n) 0=t:=by
 rw[dN,rY om,rY om,a,c,show j+n-j-n=0 from om];rfl
theorem Gg(a:X.length=j)(f:A.length=n){k i:Nat}(c:k<n)(hi:i=j+k):(X++(A++t::Z)).getD i 0=A.getD k 0:=by
 subst hi;rw[dN,rY om,uO om,a,show j+k-j=k from om,dN]
theorem DK(a:X.length=j)(c:A.length=n):((X++(A++t::Z)).drop j).take n=A:=by
 rw[List.drop_append_of_le_length om,←a,List.drop_length,uQ,RI om,←c,iH]
theorem Gi(a:X.length=j)(c:A.length=n):((X++(A++t::Z)).take (j+n)).drop j=A:=by
 rw[List.drop_take,qX];exact DK a c
theorem Gj(a:X.length=j)(c:A.length=n)(t':Nat):(X++(A++t::Z)).set (j+n) t'=X++(A++t'::Z):=by
 rw[nZ _ _ om,nZ _ _ om,a,c,show j+n-j-n=0 from om];rfl
end
theorem Jz{α:Type}:∀(X A R Y:List α),A.length=R.length→setAt (X++(A++Y)) X.length R=X++(R++Y)
 |X,[],[],Y,_=>rfl
 |X,[],_::_,Y,h=>by simp at h
 |X,_::_,[],Y,h=>by simp at h
 |X,a::A,r::R,Y,h=>by
  have e:(X++(a::A++Y)).set X.length r=(X++[r])++(A++Y):=by
   rw[nZ _ _ (aY _),gW];simp
  show setAt ((X++(a::A++Y)).set X.length r) (X.length+1) R=_;rw[e,show X.length+1=(X++[r]).length from sy,Jz (X++[r]) A R Y (by simpa using h)];simp
theorem KF{X A Z R:List Nat}(a:X.length=j)(c:A.length=R.length):setAt (W (X++(A++t::Z))) j (W R)=W (X++(R++t::Z)):=by
 have h:=Jz (W X) (W A) (W R) (W (t::Z)) (by rw[aQ,aQ];exact c);rw[aQ,a,Hf,Hf,Hf,Hf]at h;exact h
theorem Ym{n v:Nat}(h:v<B^n):dg B v++List.replicate (n-(dg B v).length) 0=fl B n v:=by
 have e:=xI (by decide:2≤B) h;obtain⟨k,a⟩:=xY (fl B n v);rw[e]at a;have hl:=congrArg List.length a;rw[bH,bZ,nS]at hl;rw[show n-(dg B v).length=k from om];exact a.symm
theorem SY{b:List Nat}(hb:Wd b)(h1:1≤b.length)(h:b.getD (b.length-1) 0≠0):
 B^(b.length-1)≤nv B b*2^(64-bl (b.getD (b.length-1) 0))∧nv B b*2^(64-bl (b.getD (b.length-1) 0))<B^b.length∧B^(b.length-1)≤nv B b:=by
 have f:=fV hb (b.length-1)
 have e:=jd (b:=B) b (b.length-1) om
 rw[show b.length-1+1=b.length from om,iH]at e
 have j:=dD (b:=B) dc hb (b.length-1)
 have hpow:B^b.length=B^(b.length-1)*B:=by rw[←dO,show(b.length-1).succ=b.length from om]
 have z:0<B^(b.length-1):=bg dc
 generalize b.getD (b.length-1) 0=y at*
 generalize nv B (b.take (b.length-1))=lo at*
 generalize B^(b.length-1)=P at*
 have l:=y9 f
 have g:(y+1)*2^(64-bl y)≤B:=by
  have:=kF (2^(64-bl y)) (show y+1≤2^bl y from zJ y);rw[←dn,show bl y+(64-bl y)=64 from om]at this;exact this
 have a:=t_ (64-bl y)
 have c:P≤nv B b:=by
  have:=iZ P (show 1≤y by omega);omega
 refine⟨bK c (Nat.le_mul_of_pos_right _ a),?_,c⟩
 have u:nv B b<P*(y+1):=by rw[fQ];omega
 have m:=(Nat.mul_lt_mul_right a).2 u
 rw[hpow]
 refine eu m ?_
 rw[fB]
 exact iZ P g
theorem NL{V a n s:Nat}(j:n≤a)(h1:1≤n)(f:A<B^a)(c:B^(n-1)≤V):A*2^s/B^(a+1-n)<V*2^s:=by
 refine(fP (bg dc)).2 ?_;have g:=(Nat.mul_lt_mul_right (t_ s)).2 f;refine eu g ?_;rw[Nat.mul_right_comm];refine kF _ ?_;have:=kF (B^(a+1-n)) c;rw[←dn,show n-1+(a+1-n)=a from om]at this;exact this
theorem Yn{V w:Nat}(f:A<P):A+P*Ve A V w P-V*w<P∧A+P*Ve A V w P-V*w+V*w=A+P*Ve A V w P:=by
 have a:0<P:=om;have e:=qo (V*w+(P-1-A)) P;have c:=cu (V*w+(P-1-A)) a;unfold Ve;generalize (V*w+(P-1-A))%P=r at*
 generalize P*((V*w+(P-1-A))/P)=z at*
 generalize V*w=y at*
 omega
def uL(As Vs m n i:Nat):List Nat:=fl B i As++(fl B n (As/B^i%Vs)++List.replicate (m+1-i-n) 0)
def qL(As Vs Q i:Nat):List Nat:=List.replicate i 0++fl B (Q-i) (As/B^i/Vs)
theorem Yo{n:Nat}(a:n≤m+1)(h:As/B^(m+1-n)<Vs):fl B (m+1) As=uL As Vs m n (m+1-n):=by
 unfold uL;rw[bD h,show m+1-(m+1-n)-n=0 from om,List.replicate_zero,qF,←GL,show m+1-n+n=m+1 from om]
theorem win_fl{R n:Nat}(a:x<B):x::fl B n R=fl B n (R*B+x)++[(R*B+x)/B^n%B]:=by
 have f:(R*B+x)%B=x:=by rw[bV,Nat.mul_add_mod,bD a]
 have c:(R*B+x)/B=R:=by rw[bV,Nat.mul_add_div (by decide:0<B),jQ a,ik]
 rw[←iY,fl,f,c]
theorem Yp{n:Nat}:uL As Vs m n (j+1)=fl B j As++(fl B n (As/B^(j+1)%Vs*B+As/B^j%B)++((As/B^(j+1)%Vs*B+As/B^j%B)/B^n%B)::List.replicate (m+1-(j+1)-n) 0):=by
 have e:=win_fl (R:=As/B^(j+1)%Vs) (n:=n) (cu (As/B^j) (by decide:0<B));unfold uL;generalize List.replicate (m+1-(j+1)-n) 0=Z;rw[iY,nY,List.singleton_append,←tZ,e,nY,List.singleton_append]
theorem KG{n:Nat}(h:j+1+n≤m+1)(R:Nat)(a:As/B^j%Vs=R):fl B j As++(fl B n R++0::List.replicate (m+1-(j+1)-n) 0)=uL As Vs m n j:=by
 unfold uL;rw[a,show m+1-j-n=(m+1-(j+1)-n)+1 from om,nR]
theorem Yq{i:Nat}(h:i≤Q):(qL As Vs Q i).length=Q:=by unfold qL;rw[bZ,nS,bH];omega
theorem Yr{d:Nat}(h:j+1≤Q)(h1:As/B^j/Vs%B=d)(h2:As/B^j/Vs/B=As/B^(j+1)/Vs):(qL As Vs Q (j+1)).set j d=qL As Vs Q j:=by
 unfold qL;rw[show Q-j=(Q-(j+1))+1 from om,fl,h1,h2,List.replicate_succ',nY,nZ _ _ (by rw[nS];exact aY _),nS,gW];rfl
theorem Cc{b:Nat}:∀(n v k:Nat),k<n→(fl b n v).getD k 0=v/b^k%b
 |0,v,k,h=>om
 |n+1,v,0,h=>by simp[fl]
 |n+1,v,k+1,h=>by
  show(fl b n (v/b)).getD k 0=_;rw[Cc n (v/b) k om,lZ,dO,bV]
