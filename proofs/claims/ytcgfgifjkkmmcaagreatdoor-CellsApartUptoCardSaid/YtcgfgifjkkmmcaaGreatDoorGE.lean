import Derived.Test.YtcgfgifjkkmmcaaGreatDoorGD
set_option linter.all false
set_option maxRecDepth 2000000
set_option maxHeartbeats 10000000
namespace Go.Proofs.YtcgfgifjkkmmcaaGreatDoor
open Go Go.RowKit Ab
end Go.Proofs.YtcgfgifjkkmmcaaGreatDoor
namespace Go.Proofs.YtcgfgifjkkmmcaaGreatDoor
open Go Go.RowKit Ab
end Go.Proofs.YtcgfgifjkkmmcaaGreatDoor
namespace Go.Proofs.YtcgfgifjkkmmcaaGreatDoor
open Go Go.RowKit Ab
end Go.Proofs.YtcgfgifjkkmmcaaGreatDoor
namespace Go.Proofs.YtcgfgifjkkmmcaaGreatDoor
open Go Go.RowKit Ab
theorem YK{x y:Nat}:(sg x y<0)=(x<y):=by
 unfold sg;split
 ·rename_i h;simp[h]
 ·rename_i h;split<;>simp[h]
end Go.Proofs.YtcgfgifjkkmmcaaGreatDoor
namespace Go.Proofs.YtcgfgifjkkmmcaaGreatDoor
open Go Go.RowKit Ab
def Bl(a:List Nat):List V:=a.map fun x:Nat=> .b (decide (x=1))
theorem Bl_len(a:List Nat):(Bl a).length=a.length:=by simp[Bl]
theorem Bl_nil:Bl []=[]:=rfl
theorem Bl_nf(a:List Nat):kN (Bl a)=false:=by
 induction a with
 |nil=>rfl
 |cons x r ih=>simpa[Bl,kN,V.nf]using ih
end Go.Proofs.YtcgfgifjkkmmcaaGreatDoor
namespace Go.Proofs.YtcgfgifjkkmmcaaGreatDoor
open Go Go.RowKit Ab
def bM:=an @aH (an @Nat.div_one (an @Nat.mul_one (an @aO (an @eY (an @dF (an @Ky (an @Kz (an @wi (an @wu @DW)))))))))
theorem B1:0<B:=dc
theorem wH(a:List Nat)(n:Nat)(ha:Wd a)(la:a.length≤1000000000000)(hn:n≤1048576):ah Tryz.prog J0 131 [.l 1 (W a),.i .i64 (n:Int)] (.t [.l 1 (W (jB a n)),.i .i64 0]):=by
 refine d_ aX bV Tryz.func131 ?_;have h1:¬(n:Int)<0:=om;have h2:¬(1048576:Int)<(n:Int):=om;have hr64:n%64<64:=Nat.mod_lt _ dc;by_cases h0:((n%64:Nat):Int)=0
 ·have e:jB a n=List.replicate (n/64) 0++a:=by unfold jB;rw[if_pos om]
  refine aJ (ai @dh (ai @Ai (ai @h0 (ai @h2 (ai @h1 @bM))))) ?_;exact jX (ai @e @bM)
 ·have e:jB a n=List.replicate (n/64) 0++fl B (a.length+1) (nv B a*2^(n%64)):=by unfold jB;rw[if_neg om]
  rw[e];generalize hw:n/64=w at*
  generalize hr:n%64=r at*
  have hwl:w≤1048576:=om;have Wp:(List.replicate w 0).length=w:=sy;refine aJ (ai @hr (ai @hw (ai @h0 (ai @h2 (ai @h1 @bM))))) ?_;refine aF [] Nat (fun i=>⟨[(8,.ow 1 0 (w+i)),(7,.i .u64 (r:Int)),(9,.i .u64 ((nv B (a.take i)*2^r/B^i:Nat):Int)),(35,.l 1 (W a)),(36,.i .i64 (a.length:Int)),(37,.i .i64 (i:Int))],[(0,some ⟨31,1,W (List.replicate w 0++fl B i (nv B (a.take i)*2^r)),true,false⟩)],1⟩)
   (fun i=>i≤a.length) (fun i=>a.length-i) 0 (Nat.zero_le _) (by exact mF) (by
   refine nO trivial ?_
   simp[nv,fl]) ?_
  intro i hi Q' hQ he hr';obtain⟨s1,s2,s3,s4⟩:=QI (P:=B^i) (V:=nv B (a.take i)) (x:=a.getD i 0) (r:=r) (Nat.pow_pos B1) (aZ B1 ha i) (lC ha B1 i) om;have hxl:=dA ha i;have hlow:nv B (a.take i)*2^r/B^i<18446744073709551616:=Nat.lt_of_lt_of_le s4 (by have:(18446744073709551616:Nat)=2^64:=rfl;rw[this];exact Nat.pow_le_pow_right dc om);by_cases h:(i:Int)<a.length
  ·have hor:=FY (a.getD i 0*2^r%18446744073709551616) (nv B (a.take i)*2^r/B^i) (Nat.mod_lt _ dc) hlow;rw[I_ om s4,←s1]at hor;have hsh:=Cf (a.getD i 0) r om;have QP:=jT (a.getD i 0) (64-r) om;rw[←s2]at QP;have e1:fl B i (nv B (a.take i)*2^r)++[(nv B (a.take i)+B^i*a.getD i 0)*2^r/B^i%B]=fl B (i+1) (nv B (a.take (i+1))*2^r):=by
    rw[dO,af,ed B1 s3]
   repeat first
    |(refine hK _ ?_;clear hK K)
    |((first|refine ay (fun K hK=>?_)|refine aB (fun K hK=>?_)|refine au (fun K hK=>?_));simp(disch:=(first|omega|assumption)) only[S1,seval,-Int.reduceToNat,-List.reduceReplicate,a_.sb,a_.mut,bZ,↓Bool.false_eq_true,beq_self_eq_true,ite_self,bM,h,cZ,hsh,hor,QP,Ci,xk,List.append_assoc,e1];refine hK _ ?_;clear hK K)
    |simp only[Sv,↓reduceIte,Nat.reduceEqDiff]
   refine hQ _ (i+1) om om ?_;refine nO trivial ?_;refine⟨om,?_,om⟩;rw[af,Nat.pow_succ]
  ·obtain rfl:i=a.length:=om;have e2:nv B a*2^r/B^a.length%B=nv B a*2^r/B^a.length:=by
    rw[List.take_length]at hlow;exact Nat.mod_eq_of_lt hlow
   refine aJ (ai @h @bM) ?_;refine he _ _ ?_;rw[List.take_length];have e3:fl B a.length (nv B a*2^r)++[nv B a*2^r/B^a.length]=fl B (a.length+1) (nv B a*2^r):=by rw[dO,e2]
   repeat first
    |(refine hK _ ?_;clear hK K)
    |((first|refine ay (fun K hK=>?_)|refine aB (fun K hK=>?_)|refine au (fun K hK=>?_));simp(disch:=(first|omega|assumption)) only[S1,seval,-Int.reduceToNat,-List.reduceReplicate,a_.sb,a_.mut,bZ,↓Bool.false_eq_true,beq_self_eq_true,ite_self,bM,xk,List.append_assoc,e3];refine hK _ ?_;clear hK K)
    |simp only[Sv,↓reduceIte,Nat.reduceEqDiff]
   exact jX @bM
theorem xU(a b:Nat):((a:Int)+(b:Int)).toNat=a+b:=om
theorem xW{m i v d:Nat}(hi:i<m)(hd:d=v/B^i%B):(fl B i v++List.replicate (m-i) 0).set i d=fl B (i+1) v++List.replicate (m-(i+1)) 0:=by
 obtain⟨k,hk⟩:∃k,m-i=k+1:=⟨m-i-1,om⟩;rw[dO,hk,show m-(i+1)=k from om,List.set_append_right _ _ (by rw[bg];omega),bg,Nat.sub_self,List.replicate_succ,List.set_cons_zero,hd,List.append_assoc];rfl
theorem Aq(l:List Nat)(i x:Nat)(h:i<l.length):(l.set i x).getD i 0=x:=by
 rw[List.getD_eq_getElem?_getD,List.getElem?_set_self h];rfl
theorem DZ(a:List Nat)(n:Nat)(ha:Wd a)(la:a.length≤1000000000000)(hn:n<9223372036854775808):ah Tryz.prog J0 115 [.l 1 (W a),.i .i64 (n:Int)] (.t [.l 1 (W (fl B (a.length-n/64) (nv B a/2^n))),.any,.i .i64 0]):=by
 refine d_ aX bV Tryz.func115 ?_;have h1:¬(n:Int)<0:=om;have hr64:n%64<64:=Nat.mod_lt _ dc;have hdig:=fun i=>Ny (A:=nv B a) (n:=n) (i:=i)
 generalize nv B a/2^n=v at hdig ⊢;generalize hw:n/64=w at*
 generalize hr:n%64=r at*
 by_cases hge:(a.length:Int)≤(w:Int)
 ·have e:a.length-w=0:=om;have U6:=pI a om;refine wdO (ai @e (ai @hge (ai @hr (ai @hw (ai @h1 @bM))))) ?_;rfl
 ·obtain⟨m,hm⟩:∃m,a.length=w+m:=⟨a.length-w,om⟩;have em:a.length-w=m:=om;have hsub:(a.length:Int)-(w:Int)=(m:Int):=om;have hsh:=Cf (a.getD w 0) (64-r) om;have Wp:(List.replicate m 0).length=m:=sy;rw[em];by_cases g1:0<(((tz (a.take w)).length:Nat):Int)
  ·have zc2:=pI (a.take w) (by rw[List.length_take];omega);refine qc (ai @Wp (ai @hsub (ai @g1 (ai @nD (ai @hge (ai @hr (ai @hw (ai @h1 @bM)))))))) ?_;refine aF [] Nat (fun i=>⟨[(0,.l 1 (W a)),(7,.i .i64 (w:Int)),(8,.i .u64 (r:Int)),(10,.ow 1 0 m),(51,.i .i64 (m:Int)),(52,.i .i64 (i:Int))],[(0,some ⟨31,1,W (fl B i v++List.replicate (m-i) 0),true,false⟩)],1⟩)
    (fun i=>i≤m) (fun i=>m-i) 0 (Nat.zero_le _) (by exact mF) (by
    refine nO trivial ?_
    simp[fl]) ?_
   intro i hi Q' hQ he hr';by_cases h:(i:Int)<m
   ·have hd:=hdig i;have d0:=jI (b:=B) B1 ha (w+i);have d1:=jI (b:=B) B1 ha (w+i+1);rw[Nat.pow_succ,←Nat.div_div_eq_div_mul]at d1;generalize nv B a/B^(w+i)=X at hd d0 d1;have ll:(fl B i v++List.replicate (m-i) 0).length=m:=by rw[List.length_append,bg,List.length_replicate];omega
    have QP:=jT (a.getD (w+i) 0) r om;have hbw:w+i<a.length:=om;by_cases hr0:0<(r:Int)
    ·obtain⟨s1,s2⟩:=Aj (X:=X) (r:=r) om om;rw[←hd,←d0,←d1]at s1;rw[←d0]at s2;have hor:=FY (a.getD (w+i) 0/2^r) (a.getD (w+i+1) 0*2^(64-r)%18446744073709551616) (Nat.lt_of_le_of_lt (Nat.div_le_self _ _) (dA ha _)) (Nat.mod_lt _ dc);rw[DU om s2,←s1]at hor;have hsl:=Cf (a.getD (w+i+1) 0) (64-r) om;have ll2:((fl B i v++List.replicate (m-i) 0).set i (a.getD (w+i) 0/2^r)).length=m:=by rw[List.length_set,ll]
     have hset:=xW (v:=v) (i:=i) (m:=m) om rfl;have zc3:=jr a (w+i+1);repeat first|(refine hK _ ?_;clear hK K)|simp only[Sv,↓reduceIte,Nat.reduceEqDiff]|((first|refine ay (fun K hK=>?_)|refine aB (fun K hK=>?_)|refine au (fun K hK=>?_)|refine kL ?_|refine iL (by assumption) ?_|refine kM ?_|(apply iM;assumption)|(apply iP;assumption));simp(disch:=(first|omega|assumption)) only[S1,seval,-Int.reduceToNat,-List.reduceReplicate,a_.sb,a_.mut,bZ,↓Bool.false_eq_true,beq_self_eq_true,ite_self,bM,h,hr0,QP,xU,cZ,iQ,ll,ll2,hsl,hor,Ci,Aq,List.set_set,hset])
     refine hQ _ (i+1) om om ?_;refine nO trivial ?_;omega
    ·have r0:r=0:=om;have hset:=xW (v:=v) (i:=i) (m:=m) (d:=a.getD (w+i) 0/2^r) om (by rw[hd,d0,r0];simp);refine aJ (ai @hset (ai @ll (ai @iQ (ai @QP (ai @cZ (ai @xU (ai @hr0 (ai @h @bM)))))))) ?_;refine hQ _ (i+1) om om ?_;refine nO trivial ?_;omega
   ·obtain rfl:i=m:=om;refine aJ (ai @h @bM) ?_;refine he _ _ ?_;refine aJ @bM ?_;simp(disch:=(first|omega|assumption)) only[fM,iW,jb,lY,iC,V.aQ,and_true,true_and,S1,seval,-Int.reduceToNat,-List.reduceReplicate,a_.sb,a_.mut,bZ,↓Bool.false_eq_true,beq_self_eq_true,ite_self,bM,Nat.sub_self,List.replicate_zero]
  ·by_cases g2:((a.getD w 0*2^(64-r)%18446744073709551616:Nat):Int)=0
   ·have zc4:=pI (a.take w) (by rw[List.length_take];omega);refine qc (ai @Wp (ai @hsub (ai @g2 (ai @hsh (ai @Ci (ai @g1 (ai @cZ (ai @nD (ai @hge (ai @hr (ai @hw (ai @h1 @bM)))))))))))) ?_;refine aF [] Nat (fun i=>⟨[(0,.l 1 (W a)),(7,.i .i64 (w:Int)),(8,.i .u64 (r:Int)),(10,.ow 1 0 m),(51,.i .i64 (m:Int)),(52,.i .i64 (i:Int))],[(0,some ⟨31,1,W (fl B i v++List.replicate (m-i) 0),true,false⟩)],1⟩)
     (fun i=>i≤m) (fun i=>m-i) 0 (Nat.zero_le _) (by exact mF) (by
     refine nO trivial ?_
     simp[fl]) ?_
    intro i hi Q' hQ he hr';by_cases h:(i:Int)<m
    ·have hd:=hdig i;have d0:=jI (b:=B) B1 ha (w+i);have d1:=jI (b:=B) B1 ha (w+i+1);rw[Nat.pow_succ,←Nat.div_div_eq_div_mul]at d1;generalize nv B a/B^(w+i)=X at hd d0 d1;have ll:(fl B i v++List.replicate (m-i) 0).length=m:=by rw[List.length_append,bg,List.length_replicate];omega
     have QP:=jT (a.getD (w+i) 0) r om;have hbw:w+i<a.length:=om;by_cases hr0:0<(r:Int)
     ·obtain⟨s1,s2⟩:=Aj (X:=X) (r:=r) om om;rw[←hd,←d0,←d1]at s1;rw[←d0]at s2;have hor:=FY (a.getD (w+i) 0/2^r) (a.getD (w+i+1) 0*2^(64-r)%18446744073709551616) (Nat.lt_of_le_of_lt (Nat.div_le_self _ _) (dA ha _)) (Nat.mod_lt _ dc);rw[DU om s2,←s1]at hor;have hsl:=Cf (a.getD (w+i+1) 0) (64-r) om;have ll2:((fl B i v++List.replicate (m-i) 0).set i (a.getD (w+i) 0/2^r)).length=m:=by rw[List.length_set,ll]
      have hset:=xW (v:=v) (i:=i) (m:=m) om rfl;have zc5:=jr a (w+i+1);repeat first|(refine hK _ ?_;clear hK K)|simp only[Sv,↓reduceIte,Nat.reduceEqDiff]|((first|refine ay (fun K hK=>?_)|refine aB (fun K hK=>?_)|refine au (fun K hK=>?_)|refine kL ?_|refine iL (by assumption) ?_|refine kM ?_|(apply iM;assumption)|(apply iP;assumption));simp(disch:=(first|omega|assumption)) only[S1,seval,-Int.reduceToNat,-List.reduceReplicate,a_.sb,a_.mut,bZ,↓Bool.false_eq_true,beq_self_eq_true,ite_self,bM,h,hr0,QP,xU,cZ,iQ,ll,ll2,hsl,hor,Ci,Aq,List.set_set,hset])
      refine hQ _ (i+1) om om ?_;refine nO trivial ?_;omega
     ·have r0:r=0:=om;have hset:=xW (v:=v) (i:=i) (m:=m) (d:=a.getD (w+i) 0/2^r) om (by rw[hd,d0,r0];simp);refine aJ (ai @hset (ai @ll (ai @iQ (ai @QP (ai @cZ (ai @xU (ai @hr0 (ai @h @bM)))))))) ?_;refine hQ _ (i+1) om om ?_;refine nO trivial ?_;omega
    ·obtain rfl:i=m:=om;refine aJ (ai @h @bM) ?_;refine he _ _ ?_;refine aJ @bM ?_;simp(disch:=(first|omega|assumption)) only[fM,iW,jb,lY,iC,V.aQ,and_true,true_and,S1,seval,-Int.reduceToNat,-List.reduceReplicate,a_.sb,a_.mut,bZ,↓Bool.false_eq_true,beq_self_eq_true,ite_self,bM,Nat.sub_self,List.replicate_zero]
   ·have zc6:=pI (a.take w) (by rw[List.length_take];omega);refine qc (ai @Wp (ai @hsub (ai @g2 (ai @hsh (ai @Ci (ai @g1 (ai @cZ (ai @nD (ai @hge (ai @hr (ai @hw (ai @h1 @bM)))))))))))) ?_;refine aF [] Nat (fun i=>⟨[(0,.l 1 (W a)),(7,.i .i64 (w:Int)),(8,.i .u64 (r:Int)),(10,.ow 1 0 m),(51,.i .i64 (m:Int)),(52,.i .i64 (i:Int))],[(0,some ⟨31,1,W (fl B i v++List.replicate (m-i) 0),true,false⟩)],1⟩)
     (fun i=>i≤m) (fun i=>m-i) 0 (Nat.zero_le _) (by exact mF) (by
     refine nO trivial ?_
     simp[fl]) ?_
    intro i hi Q' hQ he hr';by_cases h:(i:Int)<m
    ·have hd:=hdig i;have d0:=jI (b:=B) B1 ha (w+i);have d1:=jI (b:=B) B1 ha (w+i+1);rw[Nat.pow_succ,←Nat.div_div_eq_div_mul]at d1;generalize nv B a/B^(w+i)=X at hd d0 d1;have ll:(fl B i v++List.replicate (m-i) 0).length=m:=by rw[List.length_append,bg,List.length_replicate];omega
     have QP:=jT (a.getD (w+i) 0) r om;have hbw:w+i<a.length:=om;by_cases hr0:0<(r:Int)
     ·obtain⟨s1,s2⟩:=Aj (X:=X) (r:=r) om om;rw[←hd,←d0,←d1]at s1;rw[←d0]at s2;have hor:=FY (a.getD (w+i) 0/2^r) (a.getD (w+i+1) 0*2^(64-r)%18446744073709551616) (Nat.lt_of_le_of_lt (Nat.div_le_self _ _) (dA ha _)) (Nat.mod_lt _ dc);rw[DU om s2,←s1]at hor;have hsl:=Cf (a.getD (w+i+1) 0) (64-r) om;have ll2:((fl B i v++List.replicate (m-i) 0).set i (a.getD (w+i) 0/2^r)).length=m:=by rw[List.length_set,ll]
      have hset:=xW (v:=v) (i:=i) (m:=m) om rfl;have zc7:=jr a (w+i+1);repeat first|(refine hK _ ?_;clear hK K)|simp only[Sv,↓reduceIte,Nat.reduceEqDiff]|((first|refine ay (fun K hK=>?_)|refine aB (fun K hK=>?_)|refine au (fun K hK=>?_)|refine kL ?_|refine iL (by assumption) ?_|refine kM ?_|(apply iM;assumption)|(apply iP;assumption));simp(disch:=(first|omega|assumption)) only[S1,seval,-Int.reduceToNat,-List.reduceReplicate,a_.sb,a_.mut,bZ,↓Bool.false_eq_true,beq_self_eq_true,ite_self,bM,h,hr0,QP,xU,cZ,iQ,ll,ll2,hsl,hor,Ci,Aq,List.set_set,hset])
      refine hQ _ (i+1) om om ?_;refine nO trivial ?_;omega
     ·have r0:r=0:=om;have hset:=xW (v:=v) (i:=i) (m:=m) (d:=a.getD (w+i) 0/2^r) om (by rw[hd,d0,r0];simp);refine aJ (ai @hset (ai @ll (ai @iQ (ai @QP (ai @cZ (ai @xU (ai @hr0 (ai @h @bM)))))))) ?_;refine hQ _ (i+1) om om ?_;refine nO trivial ?_;omega
    ·obtain rfl:i=m:=om;refine aJ (ai @h @bM) ?_;refine he _ _ ?_;refine aJ @bM ?_;simp(disch:=(first|omega|assumption)) only[fM,iW,jb,lY,iC,V.aQ,and_true,true_and,S1,seval,-Int.reduceToNat,-List.reduceReplicate,a_.sb,a_.mut,bZ,↓Bool.false_eq_true,beq_self_eq_true,ite_self,bM,Nat.sub_self,List.replicate_zero]
end Go.Proofs.YtcgfgifjkkmmcaaGreatDoor
namespace Go.Proofs.YtcgfgifjkkmmcaaGreatDoor
open Go Go.RowKit Ab
def xX:=an @aH (an @fV (an @Bl_len (an @Nat.div_one (an @Nat.mul_one (an @aO (an @eY (an @oD (an @Bl_nf (an @dF (an @jm (an @Bl_nil (an @Ky (an @Kz (an @wi @wu))))))))))))))
theorem aS(v:Nat):nv B (dg B v)=v:=jS B2 v
theorem az(v:Nat):Wd (dg B v):=mQ B0 v
theorem bC{v k:Nat}(h:v<B^k):(dg B v).length≤k:=xx B2 h
theorem fO{a:List Nat}{m:Nat}(ha:Wd a)(la:a.length≤m):nv B a<B^m:=Nat.lt_of_lt_of_le (bY ha) (Nat.pow_le_pow_right B0 la)
theorem Ja{v k m:Nat}(h:v<B^k)(hk:k≤m):v<B^m:=Nat.lt_of_lt_of_le h (Nat.pow_le_pow_right B0 hk)
theorem zJ{u v k:Nat}(h:u<B^k)(h':v<B^k):u+v<B^(k+1):=by
 have h5:B^k*2≤B^(k+1):=Nat.mul_le_mul_left _ B2;omega
theorem D5(a:List Nat)(ha:Wd a)(la:a.length≤1099511627776):ah Tryz.prog J0 103 [.l 1 (W a)] (.o 31 1 (W (dg B (nv B a)))):=by
 have:=su a la;rwa[yt B2 ha]at this
theorem nv_mod{b:Nat}{l:List Nat}(hb:0<b)(h:Lt b l)(i:Nat):nv b (l.take i)=nv b l%b^i:=by
 rcases Nat.lt_or_ge l.length i with h1|h1
 ·rw[List.take_of_length_le om,Nat.mod_eq_of_lt (Nat.lt_of_lt_of_le (bY h) (Nat.pow_le_pow_right hb om))]
 ·rw[qC l i h1,Nat.add_mul_mod_self_left,Nat.mod_eq_of_lt (aZ hb h i)]
def uo(v:Nat)(n:Int):List Nat×Int:=if n<0∨1048576<n then([],3)else(dg B (v*2^n.toNat),0)
def Jb(v:Nat)(n:Int):List Nat×Int:=if n<0 then([],3)else(dg B (v/2^n.toNat),0)
noncomputable def Wq:AC:=gc Tryz.prog Tryz.f104
theorem Ar(a:List Nat)(n:Int)(ha:Wd a)(la:a.length≤100000000000):ah Tryz.prog J0 104 [.l 1 (W a),.i .i64 n] (.t [.l 1 (W (uo (nv B a) n).1),.i .i64 (uo (nv B a) n).2]):=by
 refine d_ aX bV Tryz.func104 ?_;by_cases h1:n<0
 ·rw[show uo (nv B a) n=([],3)from if_pos (.inl h1)];exact YI (ai @h1 (ai @aS @xX))
 ·by_cases h2:1048576<n
  ·rw[show uo (nv B a) n=([],3)from if_pos (.inr h2)];exact YI (ai @h2 (ai @h1 (ai @aS @xX)))
  ·rw[show uo (nv B a) n=(dg B (nv B a*2^n.toNat),0)from if_neg om];obtain⟨k,rfl⟩:∃k:Nat,n=(k:Int):=⟨n.toNat,om⟩;have lt:=kZ a;have lo:=Ak (tz a) k;have e:nv B (jB (tz a) k)=nv B a*2^k:=by rw[Cm (oN ha),nT]
   have U6:=mM a om;have zc2:=wH (tz a) k (oN ha) om om;have zc3:=D5 (jB (tz a) k) (Cj (oN ha) k) om;exact jR (ai @e (ai @h2 (ai @h1 (ai @aS @xX))))
noncomputable def a78:AC:=gc Tryz.prog Tryz.f78
