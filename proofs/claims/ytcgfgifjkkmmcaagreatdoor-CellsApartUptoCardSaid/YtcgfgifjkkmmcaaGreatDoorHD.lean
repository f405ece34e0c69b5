import Derived.Test.YtcgfgifjkkmmcaaGreatDoorGE
import Derived.Test.YtcgfgifjkkmmcaaGreatDoorHA
set_option linter.all false
set_option maxHeartbeats 10000000
set_option maxRecDepth 2000000
namespace Go.Proofs.YtcgfgifjkkmmcaaGreatDoor
open Go Go.RowKit Ab
def bF:=an @aH (an @Nat.div_one (an @Nat.mul_one (an @aO (an @eY (an @dF (an @wi (an @lX (an @Bool.false_and @dh))))))))
theorem _root_.Go.Proofs.YtcgfgifjkkmmcaaGreatDoor.Ab.ah.mktn{P:Program}{J:World→Prop}(jP:P.follows .mixedOrders=true)(hJs:∀w e w',J w→aI w e w'→J w'){f:FuncId}{fn:Func}{c:Code}{ac:AC}{t0:Nat}{ts:List Nat}{args:List V}{e sz:Nat}{rs:List V}(hf:P.funcs[f]? =some fn)(hb:fn.body=some c)(hc:dW P fn.ntmps c=some ac)(hts:bG fn.results.toList=some (t0::ts))(hts1:ts≠[])(hn':Nat.ble args.length fn.ntmps=true)
 (hsz:0<sz)
 (hv:r_ (ah P J) (iJ P) ac (fun ex s=>match ex with| .normal| .ret=>s.get t0= .nl∧iW s ts rs| .exit _=>False) (pq args)):ah P J f args (.to e sz [] rs):=by
 have hn:args.length≤fn.ntmps:=Nat.le_of_ble_eq_true hn'
 refine⟨hsz,?_⟩
 intro w H vs hJ hT hH gX
 refine calls_of_wp hf hb ?_
 have hlen:vs.length=args.length:=gX.1
 have hsize:(vs.toArray++Array.replicate (fn.ntmps-vs.toArray.size) undef).size=fn.ntmps:=by simp;omega
 have iE:Conc w ⟨H,fun _=>False,[]⟩ w H (fun _=>none) fn.ntmps {tmps:=vs.toArray++Array.replicate (fn.ntmps-vs.toArray.size) undef,defers:=[]} (pq args):=by
  refine⟨⟨aI.refl _ _,hT,hH,fun b hb _=> .inl hb,fun id o h=>(by cases h),fun i j oi oj vi vj b hij h=>(by cases h)⟩,hsize,rfl,fun _ _ h=>(by cases h),fun t=>?_,fun _ _=>rfl⟩;show Rep w H (fun _=>none) _ (lk (fC 0 args) t);rw[mJ];simp only[Nat.zero_le,if_true,Nat.sub_zero];by_cases ht:t<args.length
  ·have Ic:t<vs.length:=om;have:=gX.2 t vs[t] args[t] (List.getElem?_eq_getElem Ic) (List.getElem?_eq_getElem ht);simp only[Array.getD_eq_getD_getElem?,List.getD,List.getElem?_eq_getElem ht,Option.getD_some];rw[Array.getElem?_append_left (by simpa using Ic)];simp only[List.getElem?_toArray,List.getElem?_eq_getElem Ic,Option.getD_some];exact .up this
  ·have:args.getD t V.any= .any:=by simp[List.getD,List.getElem?_eq_none (Nat.le_of_not_lt ht)]
   rw[this];exact .any _
 have last:∀(s':St) (H':Nat→Prop) (bJ:Nat→Option Value) (a':Act) (w':World),(s'.get t0= .nl∧iW s' ts rs)→Conc w ⟨H,fun _=>False,[]⟩ w' H' bJ fn.ntmps a' s'→
  a'.defers=[]∧∃r,(results fn a'.tmps).run P w'= .ok r w'∧∃(u:Value) (us:List Value) (n:Nat) (xs:List Value) (N:Nat→Prop),Ending.returned r= .returned (.tuple (u::us).toArray)∧Below w.heap.size w w'∧w'.ownsRow w.heap.size e sz u n xs∧(∀b,N b→w.heap.size≤b∧b<w'.heap.size)∧(∀b,blk u=some b→¬N b)∧
   aj w' (fun b=>H b∨N b) xs []∧(∀x,x∈([]:List V)→x.cell=true)∧n≤maxLen∧aj w' (fun b=>H b∨N b) us rs:=by
  rintro s' H' bJ a' w' ⟨h1,h3⟩ hc'
  have hr:=hc'.env t0
  rw[h1]at hr
  have e1:=hr.jJ
  obtain⟨hl,up,hup,hkey,gX⟩:=xR hc' ts rs h3
  obtain⟨H1,ik,hm1,hfr,Vl⟩:=hc'.mem.freeze hup
  have hin:∀b,H1 b→H b∨(H1 b∧w.heap.size≤b):=fun b hb=>by
   rcases Nat.lt_or_ge b w.heap.size with h|h
   ·exact .inl ((hm1.low b hb h).resolve_right (fun h=>h))
   ·exact .inr ⟨hb,h⟩
  refine⟨hc'.BZ,_,aV hts _ _,a'.tmps.getD t0 undef,ts.map fun t=>a'.tmps.getD t undef,0,[],fun b=>H1 b∧w.heap.size≤b,?_,hc'.mem.bel.below (fun _ h=>h),by rw[e1];exact World.ownsRow_nil _ _ _ _,fun b hb=>⟨hb.2,hm1.uk b hb.1⟩,fun b hb hN=>(by rw[e1]at hb;cases hb),⟨rfl,fun j v x h=>by simp at h⟩,fun x h=>by simp at h,Nat.zero_le _,⟨by simpa using hl,fun j v x h5 h6=>?_⟩⟩
  ·match ts,hts1 with
   |t1::ts',_=>rfl
  ·simp only[List.getElem?_map,Option.map_eq_some_iff]at h5;obtain⟨q,hq,rfl⟩:=h5;exact(gX H1 ik.hH hfr j q x hq h6).mono hin (fun _ _=>rfl)
 refine wp_mono (iw (J:=J) (H0:=⟨H,fun _=>False,[]⟩) jP (fun w' hb=>hJs w _ w' hJ hb) c ac hc (fun _ _ h=>by cases h) _ _ _ w H (fun _=>none) iE hv) fun ex a' w' hq=>?_
 cases ex with
 |normal=>obtain⟨s',H',bJ,hr,hc'⟩:=hq;exact last s' H' bJ a' w' hr hc'
 |ret=>obtain⟨s',H',bJ,hr,hc'⟩:=hq;exact last s' H' bJ a' w' hr hc'
 |exit i=>obtain⟨s',H',bJ,hr,_⟩:=hq;exact hr.elim
 |goto l=>exact hq.elim
 |panic ch=>exact hq.elim
 |outgrown=>exact hq.elim
theorem subO(a b:List Nat)(ha:Wd a)(hb:Wd b)(la:a.length≤1099511627776)(lb:b.length≤1099511627776):
 ah Tryz.prog J0 107 [.l 1 (W a),.l 1 (W b)] (.to 31 1 (W (if nv B a<nv B b then[]else dg B (nv B a-nv B b))) [.i .i64 ((if nv B a<nv B b then 2 else 0:Nat):Int)]):=by
 by_cases h:nv B a<nv B b
 ·simp only[h,↓reduceIte,dF];refine ah.mktn aX bV Tryz.func107 rfl (ac:=a107) kf rfl dc rfl dc ?_;apply dG;unfold a107;conv in gc _ _=>reduce
  simp only[fZ,fC,Int.reduceOfNat,Int.reduceNegSucc];refine aJ @bF ?_;try simp only[Sv,↓reduceIte,Nat.reduceEqDiff]
  refine ay (fun K hK=>?_);refine dM @bF ?_;refine pY @bF (qF a b ha hb la lb) ?_;refine dM @bF ?_;refine hK _ ?_;clear hK K;simp only[h,↓reduceIte];try (refine hK _ ?_;clear hK K)
  refine aJ @bF ?_;exact⟨trivial,⟨rfl,rfl⟩,trivial⟩
 ·have hw:(fl B (max a.length b.length) (nv B a+B^max a.length b.length-nv B b)).length≤1099511627776:=by rw[bg];omega
  have e:tz (fl B (max a.length b.length) (nv B a+B^max a.length b.length-nv B b))=dg B (nv B a-nv B b):=by
   have h1:=bY ha;have h2:B^a.length≤B^max a.length b.length:=Nat.pow_le_pow_right B0 om;rw[←qM B2 (n:=max a.length b.length) (by omega:nv B a-nv B b<_)];congr 1;exact ed B0 (by rw[show nv B a+B^max a.length b.length-nv B b=(nv B a-nv B b)+B^max a.length b.length from om,Nat.add_mod_right])
  have hown:=su _ hw;rw[e]at hown;simp only[h,↓reduceIte];refine ah.mkt aX bV Tryz.func107 rfl (ac:=a107) kf rfl dc rfl dc ?_;apply dG;unfold a107;conv in gc _ _=>reduce
  simp only[fZ,fC,Int.reduceOfNat,Int.reduceNegSucc];try (refine hK _ ?_;clear hK K)
  refine aJ @bF ?_;try simp only[Sv,↓reduceIte,Nat.reduceEqDiff]
  refine ay (fun K hK=>?_);refine dM @bF ?_;refine pY @bF (qF a b ha hb la lb) ?_;refine dM @bF ?_;refine hK _ ?_;clear hK K;simp only[h,↓reduceIte];try (refine hK _ ?_;clear hK K)
  refine aJ @bF ?_;try simp only[Sv,↓reduceIte,Nat.reduceEqDiff]
  refine ay (fun K hK=>?_);refine dM @bF ?_;refine pY @bF (hown) ?_;refine dM @bF ?_;refine hK _ ?_;clear hK K;try (refine hK _ ?_;clear hK K)
  refine aJ @bF ?_;exact⟨⟨_,_,rfl,rfl,rfl⟩,⟨rfl,rfl⟩,trivial⟩
theorem diffO(a b:List Nat)(ha:Wd a)(hb:Wd b)(la:a.length≤1099511627776)(lb:b.length≤1099511627776):
 ah Tryz.prog J0 71 [.l 1 (W a),.l 1 (W b)] (.to 31 1 (W (if nv B a<nv B b then dg B (nv B b-nv B a)else dg B (nv B a-nv B b))) [.b (decide (nv B a<nv B b))]):=by
 by_cases h:nv B a<nv B b
 ·simp only[h,↓reduceIte,decide_true];refine ah.mkt aX bV Tryz.func71 rfl (ac:=a71) kf rfl dc rfl dc ?_;apply dG;unfold a71;conv in gc _ _=>reduce
  simp only[fZ,fC,Int.reduceOfNat,Int.reduceNegSucc];refine aJ @bF ?_;try simp only[Sv,↓reduceIte,Nat.reduceEqDiff]
  refine ay (fun K hK=>?_);refine dM @bF ?_;refine pY @bF (subO a b ha hb la lb) ?_;simp only[h,↓reduceIte,dF];refine dM @bF ?_;refine hK _ ?_;clear hK K;try (refine hK _ ?_;clear hK K)
  refine aJ @bF ?_;try simp only[Sv,↓reduceIte,Nat.reduceEqDiff]
  refine ay (fun K hK=>?_);refine dM @bF ?_;refine pY @bF (subO b a hb ha lb la) ?_;simp only[show¬nv B b<nv B a from om,↓reduceIte];refine dM @bF ?_;refine hK _ ?_;clear hK K;try (refine hK _ ?_;clear hK K)
  refine aJ @bF ?_;exact⟨⟨_,_,rfl,rfl,rfl⟩,⟨rfl,rfl⟩,trivial⟩
 ·simp only[h,↓reduceIte,decide_false];refine ah.mkt aX bV Tryz.func71 rfl (ac:=a71) kf rfl dc rfl dc ?_;apply dG;unfold a71;conv in gc _ _=>reduce
  simp only[fZ,fC,Int.reduceOfNat,Int.reduceNegSucc];try (refine hK _ ?_;clear hK K)
  refine aJ @bF ?_;try simp only[Sv,↓reduceIte,Nat.reduceEqDiff]
  refine ay (fun K hK=>?_);refine dM @bF ?_;refine pY @bF (subO a b ha hb la lb) ?_;simp only[h,↓reduceIte];refine dM @bF ?_;refine hK _ ?_;clear hK K;try (refine hK _ ?_;clear hK K)
  refine aJ @bF ?_;exact⟨⟨_,_,rfl,rfl,rfl⟩,⟨rfl,rfl⟩,trivial⟩
theorem shlO(a:List Nat)(n:Int)(ha:Wd a)(la:a.length≤100000000000):ah Tryz.prog J0 104 [.l 1 (W a),.i .i64 n] (.to 31 1 (W (uo (nv B a) n).1) [.i .i64 (uo (nv B a) n).2]):=by
 by_cases h1:n<0∨1048576<n
 ·rw[show uo (nv B a) n=([],3)from if_pos h1];simp only[dF];refine ah.mktn aX bV Tryz.func104 rfl (ac:=Wq) kf rfl dc rfl dc ?_;apply dG;unfold Wq;conv in gc _ _=>reduce
  simp only[fZ,fC,Int.reduceOfNat,Int.reduceNegSucc];by_cases h2:n<0
  ·refine aJ (ai @h2 @bF) ?_;exact⟨trivial,⟨rfl,rfl⟩,trivial⟩
  ·have h3:1048576<n:=h1.resolve_left h2;refine aJ (ai @h3 (ai @h2 @bF)) ?_;exact⟨trivial,⟨rfl,rfl⟩,trivial⟩
 ·have h2:¬n<0:=fun h=>h1 (.inl h)
  have h3:¬1048576<n:=fun h=>h1 (.inr h)
  rw[show uo (nv B a) n=(dg B (nv B a*2^n.toNat),0)from if_neg om];obtain⟨k,rfl⟩:∃k:Nat,n=(k:Int):=⟨n.toNat,om⟩;have lt:=kZ a;have lo:=Ak (tz a) k;have e:nv B (jB (tz a) k)=nv B a*2^k:=by rw[Cm (oN ha),nT]
  refine ah.mkt aX bV Tryz.func104 rfl (ac:=Wq) kf rfl dc rfl dc ?_;apply dG;unfold Wq;conv in gc _ _=>reduce
  simp only[fZ,fC,Int.reduceOfNat,Int.reduceNegSucc];have U6:=mM a om;have zc2:=wH (tz a) k (oN ha) om om;have zc3:=D5 (jB (tz a) k) (Cj (oN ha) k) om;refine qc (ai @e (ai @h3 (ai @h2 @bF))) ?_;exact⟨⟨_,_,rfl,rfl,rfl⟩,⟨rfl,rfl⟩,trivial⟩
theorem shrO(a:List Nat)(n:Int)(ha:Wd a)(la:a.length≤100000000000)(hn:n<9223372036854775808):ah Tryz.prog J0 78 [.l 1 (W a),.i .i64 n] (.to 31 1 (W (Jb (nv B a) n).1) [.i .i64 (Jb (nv B a) n).2]):=by
 by_cases h1:n<0
 ·rw[show Jb (nv B a) n=([],3)from if_pos h1];simp only[dF];refine ah.mktn aX bV Tryz.func78 rfl (ac:=a78) kf rfl dc rfl dc ?_;apply dG;unfold a78;conv in gc _ _=>reduce
  simp only[fZ,fC,Int.reduceOfNat,Int.reduceNegSucc];refine aJ (ai @h1 @bF) ?_;exact⟨trivial,⟨rfl,rfl⟩,trivial⟩
 ·rw[show Jb (nv B a) n=(dg B (nv B a/2^n.toNat),0)from if_neg h1];obtain⟨k,rfl⟩:∃k:Nat,n=(k:Int):=⟨n.toNat,om⟩;have e:nv B (fl B (a.length-k/64) (nv B a/2^k))=nv B a/2^k:=by
   rw[mW,Nat.mod_eq_of_lt];rw[CB,←Nat.div_div_eq_div_mul];refine Nat.lt_of_le_of_lt (Nat.div_le_self _ _) ?_;rcases Nat.lt_or_ge a.length (k/64)with h|h
   ·rw[Nat.div_eq_of_lt (Nat.lt_of_lt_of_le (bY ha) (Nat.pow_le_pow_right B0 om))];exact Nat.pow_pos B0
   ·rw[Nat.div_lt_iff_lt_mul (Nat.pow_pos B0),←Nat.pow_add,show a.length-k/64+k/64=a.length from om];exact bY ha
  refine ah.mkt aX bV Tryz.func78 rfl (ac:=a78) kf rfl dc rfl dc ?_;apply dG;unfold a78;conv in gc _ _=>reduce
  simp only[fZ,fC,Int.reduceOfNat,Int.reduceNegSucc];have zc4:=DZ a k ha om om;have zc5:=D5 (fl B (a.length-k/64) (nv B a/2^k)) (lI B0 _ _) (by rw[bg];omega);refine qc (ai @e (ai @h1 @bF)) ?_;exact⟨⟨_,_,rfl,rfl,rfl⟩,⟨rfl,rfl⟩,trivial⟩
end Go.Proofs.YtcgfgifjkkmmcaaGreatDoor
namespace Go.Proofs.YtcgfgifjkkmmcaaGreatDoor
open Go Go.RowKit Go.Proofs Ab
end Go.Proofs.YtcgfgifjkkmmcaaGreatDoor
namespace Go.Proofs.YtcgfgifjkkmmcaaGreatDoor
open Go Go.RowKit Ab
def Xp(w:World)(A1 A2:List Nat)(f:Int)(e:Ending)(w':World):Prop:=
 ∃(v1 v2:Value) (n1 n2:Nat),e= .returned (.tuple #[v1,v2,.int .i64 f])∧Below w.heap.size w w'∧w'.ownsRow w.heap.size 31 1 v1 n1 (Wv A1)∧w'.ownsRow w.heap.size 31 1 v2 n2 (Wv A2)∧∀q,v1.ownBlock=some q→v2.ownBlock≠some q
