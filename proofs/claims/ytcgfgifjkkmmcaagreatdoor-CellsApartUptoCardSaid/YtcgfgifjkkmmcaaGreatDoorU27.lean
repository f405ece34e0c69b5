import Derived.Laws.BytesArg
import Derived.Test.YtcgfgifjkkmmcaaGreatDoorU26
set_option linter.all false
set_option maxHeartbeats 10000000
set_option maxRecDepth 2000000
namespace Go.Proofs.YtcgfgifjkkmmcaaGreatDoor
open Go Go.RowKit Go.Proofs Ab
section
section
variable {w0 w:World} {N i:Nat} {R:Nat→Option Δ} {Bx:Bs} {dst:Option Tmp} {t:TypeId} {p:String} {e:Array Edge} {gd:Option (Nat×Bool)}
theorem yK{x y:Operand}{BC:Array TypeId}{s:Bool}{A:List Nat}{u:Nat}(hx:bI R x (.k (.bool s)))(hy:bI R y (.ow A u)):Ok Tryz.prog w0 N ⟨dst,.call ⟨.value (.func 67),#[x,y],BC⟩,t,p,e,gd⟩ i R Bx (.g [.k (.bool (s&&decide (0<A.length))),.ow A u]) none:=⟨fun Q γ a w F K hz hW Tt hR hB hK=>by
 have e1:a.eval x= .bool s:=hx.ev hR;have h2:=hy.ev hR;obtain⟨ua,c,e2⟩:=h2.1.shape;replace e2:a.eval y= .slice ua A.length c:=e2;unfold Oper.wp;rw[kX kf,Oper.upon_enter];have hc:=JA (w:=w) (s:=s) (ua:=ua) (n:=A.length) (c:=c);rw[show(List.map a.eval #[x,y].toList).toArray=#[.bool s,.slice ua A.length c]from by simp[e1,e2]];refine hc.mono ?_;rintro e w' ⟨rfl,hb⟩;refine hK γ _ w' (.of hb) hb ((hW.Ep (below_le hW hb)).sub fun k hk=>hk.1) ⟨[.bool (s&&decide (0<A.length)),.slice ua A.length c],rfl,rfl,?_,trivial⟩ fun b h=>by cases h
 rw[←e2];exact s0.up (d:= .ow A u) hW (.of hb) h2⟩
end
variable {s t:Bool} {a b:List Nat} {x z:Int}
theorem yL{v u:Nat}:iO (zI s v) u= .g [.k (.bool (s&&decide (0<(dg B v).length))),.ow (dg B v) u]:=by
 unfold iO;rw[Jq,AZ,dgp]
theorem TR(ha:Wd a)(la:a.length≤100000000):Fn 68 [.rd a] (.ow (dg B (nv B a)) 0):=uZ fun w vs _ h=>match vs,h with
 |[u],h=>pO (vs:=[u]) (lV a ha om) (fun q h=>h) (EM (EN h.1))
section
variable (hx:zv s a=x) (ha:Wd a) (la:a.length≤100000000)
include hx ha la
theorem yg:Fn 35 [iD s a] (iO x 0):=by
 rw[←hx,show zv s a=zI s (nv B a)from rfl,yL];refine dI Tryz.func35 (code:=qf Tryz.f35) rfl rfl fun w ac S=>?_
 refine bK ?_;clear S;intro _ _ _ S;(refine wp_seq (bQ 6 [_,_,_,_,_,_] [_,_,_,_,_,_] [[(1,none)],[(3,some 0)],[(1,none)],[(5,some 2)],[(6,some 3)],[(4,some 1),(7,some 4)]] rfl S aX kf kf kf ⟨px,px,px,px,pc (TR ha la),yK rfl rfl,trivial⟩ ?_);clear S;intro _ _ _ S);refine bK ?_;clear S;intro _ _ _ S;exact wp_ret (kW [_] S rfl ⟨_,_,_,rfl,rfl,rfl⟩)
theorem TS:Fn 85 [iD s a] (iO (-x) 0):=by
 rw[←hx,show-zv s a=zI (!s) (nv B a)from by unfold zv zI;cases s<;>simp,yL];refine dI Tryz.func85 (code:=qf Tryz.f85) rfl rfl fun w ac S=>?_
 refine bK ?_;clear S;intro _ _ _ S;(refine wp_seq (bQ 7 [_,_,_,_,_,_,_] [_,_,_,_,_,_,_] [[(1,none)],[(3,some 0)],[(4,some 1)],[(1,none)],[(6,some 3)],[(7,some 4)],[(5,some 2),(8,some 5)]] rfl S aX kf kf kf ⟨px,px,px,px,px,pc (TR ha la),yK rfl rfl,trivial⟩ ?_);clear S;intro _ _ _ S);refine bK ?_;clear S;intro _ _ _ S;exact wp_ret (kW [_] S rfl ⟨_,_,_,rfl,rfl,rfl⟩)
theorem TT:Fn 83 [.k (.bool s),.rd a] (iO x 0):=by
 refine dI Tryz.func83 (code:=qf Tryz.f83) rfl rfl fun w ac S=>?_
 refine bK ?_;clear S;intro _ _ _ S;(refine ax S (pc (yg hx ha la)) ?_;clear S;intro _ _ _ S);refine bK ?_;clear S;intro _ _ _ S;exact wp_ret (kW [_] S rfl ⟨_,_,_,rfl,rfl,rfl⟩)
end
end
section
variable {s t:Bool} {a b:List Nat} {x z:Int}
section
variable (ha:Wd a) (la:a.length≤100000000) (hb:Wd b) (lb:b.length≤100000000)
include ha la hb lb
theorem g_add:Fn 70 [.rd a,.rd b] (.ow (dg B (nv B a+nv B b)) 0):=uZ fun w vs _ h=>match vs,h with
 |[u,v],h=>pO (vs:=[u,v]) (kP a b ha hb om om) (fun q h=>h) (NQ (EN h.1) (EN h.2.1))
theorem g_diff:Fn 71 [.rd a,.rd b] (.t [.ow (dg B (if nv B a<nv B b then nv B b-nv B a else nv B a-nv B b)) 0,.k (.bool (decide (nv B a<nv B b)))]):=Ez fun w vs _ h=>match vs,h with
 |[u,v],h=>by
  have hd:=diffO a b ha hb om om;rw[←apply_ite (dg B)]at hd;exact Eh (vs:=[u,v]) hd (fun w' H' z hz=>(Rep.up (ov:=fun _=>none) hz).lK) (fun q h=>h) (NQ (EN h.1) (EN h.2.1))
end
variable (hx:zv s a=x) (ha:Wd a) (la:a.length≤100000000) (hz:zv t b=z) (hb:Wd b) (lb:b.length≤100000000)
include hx ha la hz hb lb
theorem f_mul:Fn 137 [iD s a,iD t b] (iO (x*z) 0):=by
 rw[←hx,←hz,show zv s a*zv t b=zI (s != t) (nv B a*nv B b)from by unfold zv zI;cases s<;>cases t<;>simp[Int.neg_mul,Int.mul_neg],yL];refine dI Tryz.func137 (code:=qf Tryz.f137) rfl rfl fun w ac S=>?_
 refine bK ?_;clear S;intro _ _ _ S;(refine wp_seq (bQ 11 [_,_,_,_,_,_,_,_,_,_,_] [_,_,_,_,_,_,_,_,_,_,_] [[(2,none)],[(5,some 0)],[(3,none)],[(7,some 2)],[(6,some 1),(8,some 3)],[(2,none)],[(10,some 5)],[(3,none)],[(12,some 7)],[(11,some 6),(13,some 8)],[(9,some 4),(14,some 9)]] rfl S aX kf kf kf ⟨px,px,px,px,px,px,px,px,px,pc (TB ha la hb lb rfl rfl),yK rfl rfl,trivial⟩ ?_);clear S;intro _ _ _ S);refine bK ?_;clear S;intro _ _ _ S;exact wp_ret (kW [_] S rfl ⟨_,_,_,rfl,rfl,rfl⟩)
theorem f_add:Fn 37 [iD s a,iD t b] (iO (x+z) 0):=by
 by_cases hst:s=t
 ·subst hst;rw[←hx,←hz,show zv s a+zv s b=zI s (nv B a+nv B b)from by unfold zv zI;cases s<;>simp<;>omega,yL];refine dI Tryz.func37 (code:=qf Tryz.f37) rfl rfl fun w ac S=>?_
  refine bK ?_;clear S;intro _ _ _ S;refine aW S rfl (beq_self_eq_true s) ?_;(refine wp_seq (bQ 8 [_,_,_,_,_,_,_,_] [_,_,_,_,_,_,_,_] [[(2,none)],[(12,some 0)],[(2,none)],[(14,some 2)],[(3,none)],[(16,some 4)],[(15,some 3),(17,some 5)],[(13,some 1),(18,some 6)]] rfl S aX kf kf kf ⟨px,px,px,px,px,px,pc (g_add ha la hb lb),yK rfl rfl,trivial⟩ ?_);clear S;intro _ _ _ S);refine bK ?_;clear S;intro _ _ _ S;exact wp_ret (kW [_] S rfl ⟨_,_,_,rfl,rfl,rfl⟩)
 ·rw[←hx,←hz,show zv s a+zv t b=zI (s != decide (nv B a<nv B b)) (if nv B a<nv B b then nv B b-nv B a else nv B a-nv B b)from by
   unfold zv zI;by_cases hlt:nv B a<nv B b
   ·rw[if_pos hlt];cases s<;>cases t<;>simp at hst<;>simp[hlt]<;>omega
   ·rw[if_neg hlt];cases s<;>cases t<;>simp at hst<;>simp[hlt]<;>omega,yL]
  refine dI Tryz.func37 (code:=qf Tryz.f37) rfl rfl fun w ac S=>?_
  refine bK ?_;clear S;intro _ _ _ S;refine aK S rfl (beq_eq_false_iff_ne.2 hst) (wp_skip (bK ?_));clear S;intro _ _ _ S;(refine ax S (pc (g_diff ha la hb lb)) ?_;clear S;intro _ _ _ S);refine bK ?_;clear S;intro _ _ _ S;(refine ax S (yK rfl rfl) ?_;clear S;intro _ _ _ S);refine bK ?_;clear S;intro _ _ _ S;exact wp_ret (kW [_] S rfl ⟨_,_,_,rfl,rfl,rfl⟩)
theorem w_sub:Fn 120 [iD s a,iD t b] (iO (x-z) 0):=by
 rw[Int.sub_eq_add_neg];refine dI Tryz.func120 (code:=qf Tryz.f120) rfl rfl fun w ac S=>?_
 refine bK ?_;clear S;intro _ _ _ S;(refine wp_seq (bQ 4 [_,_,_,_] [_,_,_,_] [[(2,none)],[(3,none)],[(6,some 1)],[(5,some 0),(7,some 2)]] rfl S aX kf kf kf ⟨px,px,pc (TS hz hb lb),pc (f_add hx ha la (dJ (-z)) (az _) (by rw[Int.natAbs_neg,←hz,HY];exact Nat.le_trans (bC (bY hb)) lb)),trivial⟩ ?_);clear S;intro _ _ _ S);refine bK ?_;clear S;intro _ _ _ S;exact wp_ret (kW [_] S rfl ⟨_,_,_,rfl,rfl,rfl⟩)
end
section
variable {s t:Bool} {a b:List Nat} {x z:Int}
theorem k2_lt{w w':World}{A1 A2:List Nat}{u v:Value}(h:Own w A1 u w')(h2:Own w A2 v w'):∀t q,k2 u v t=some (some q)→w.heap.size≤q∧q<w'.heap.size:=fun t q hq=>by
 unfold k2 at hq;split at hq
 ·obtain⟨m,_,ho⟩:=h;exact ho.lt q (Option.some.inj hq)
 ·split at hq
  ·obtain⟨m,_,ho⟩:=h2;exact ho.lt q (Option.some.inj hq)
  ·cases hq
theorem k2_in{u v:Value}(hne:∀q,u.ownBlock=some q→v.ownBlock≠some q):∀t t' q,k2 u v t=some (some q)→k2 u v t'=some (some q)→t=t':=fun t t' q h1 h2=>by
 unfold k2 at h1 h2;split at h1
 ·split at h2
  ·omega
  ·split at h2
   ·exact absurd (Option.some.inj h2) (hne q (Option.some.inj h1))
   ·cases h2
 ·split at h1
  ·split at h2
   ·exact absurd (Option.some.inj h1) (hne q (Option.some.inj h2))
   ·split at h2
    ·omega
    ·cases h2
  ·cases h1
section
variable (ha:Wd a) (la:a.length≤100000000) (hb:Wd b) (lb:b.length≤100000000) (h0:nv B b≠0)
include ha la hb lb h0
theorem g_quo:Fn 136 [.rd a,.rd b] (.t [.ow (dg B (nv B a/nv B b)) 0,.ow (dg B (nv B a%nv B b)) 1,e0]):=⟨fun w vs _ h=>match vs,h with
 |[u,v],h=>by
  have hc:=Ej (fun q h=>h) (EN h.1) (EN h.2.1) ha hb om om;rw[qE_p om,qR_p om,show qQ (nv B a) (nv B b)=dg B (nv B a/nv B b)from rfl]at hc;refine hc.mono ?_;rintro e w' ⟨u1,u2,n1,n2,rfl,b1,o1,o2,hne⟩;exact⟨k2 u1 u2,_,rfl,b1,k2_lt ⟨n1,Em o1,o1⟩ ⟨n2,Em o2,o2⟩,k2_in hne,[u1,u2,.int .i64 0],rfl,⟨⟨n1,Em o1,o1⟩,rfl⟩,⟨⟨n2,Em o2,o2⟩,rfl⟩,rfl,trivial⟩⟩
end
section
variable (hx:zv s a=x) (hz:zv t b=z) (ha:Wd a) (la:a.length≤100000000) (hb:Wd b) (lb:b.length≤100000000) (h0:z≠0)
include hx hz ha la hb lb h0
theorem w_quo:Fn 119 [iD s a,iD t b] (.t [iO (zq x z) 0,iO (zr x z) 1,e0]):=by
 have hv:nv B b≠0:=fun e=>h0 (by rw[←hz];exact(zv_z (s:=t)).2 e)
 subst hx;subst hz;rw[show zq (zv s a) (zv t b)=zI (s != t) (nv B a/nv B b)from(Ec s t _ _).symm,show zr (zv s a) (zv t b)=zI s (nv B a%nv B b)from(zr_p h0).trans (KR s t _ _).symm,yL,yL];refine dI Tryz.func119 (code:=qf Tryz.f119) rfl rfl fun w ac S=>?_
 refine bK ?_;clear S;intro _ _ _ S;(refine ax S (pc (g_quo ha la hb lb hv)) ?_;clear S;intro _ _ _ S);refine bK ?_;clear S;intro _ _ _ S;refine aK S rfl (rfl) (wp_skip (bK ?_));(refine wp_seq (bQ 11 [_,_,_,_,_,_,_,_,_,_,_] [_,_,_,_,_,_,_,_,_,_,_] [[(2,none)],[(24,some 0)],[(3,none)],[(26,some 2)],[(25,some 1),(27,some 3)],[(7,none)],[(28,some 4),(29,some 5)],[(2,none)],[(31,some 7)],[(8,none)],[(32,some 8),(33,some 9)]] rfl S aX kf kf kf ⟨px,px,px,px,px,px,yK rfl rfl,px,px,px,yK rfl rfl,trivial⟩ ?_);clear S;intro _ _ _ S);refine bK ?_;clear S;intro _ _ _ S;exact wp_ret (iH [_,_] S rfl rfl ⟨⟨_,_,_,rfl,rfl,rfl⟩,⟨_,_,_,rfl,rfl,rfl⟩,rfl,trivial⟩)
end
end
section
variable {s:Bool} {a:List Nat} {x:Int} {k:Nat}
theorem g_shl(ha:Wd a)(la:a.length≤100000000)(hk:k≤1048576):Fn 104 [.rd a,.k (.int .i64 (k:Int))] (.t [.ow (dg B (nv B a*2^k)) 0,e0]):=Ez fun w vs _ h=>match vs,h with
 |[u,v],h=>by
  have e:v= .int .i64 (k:Int):=h.2.1;subst e;have hf:uo (nv B a) (k:Int)=(dg B (nv B a*2^k),0):=by
   unfold uo;rw[if_neg om];simp
  have hS:=shlO a (k:Int) ha om;rw[hf]at hS;exact Eh (vs:=[u,.int .i64 (k:Int)]) hS (fun w' H' z hz=>(Rep.up (ov:=fun _=>none) hz).bP) (fun q h=>h) (NQ (EN h.1) (.i _ _))
theorem TU(hx:zv s a=x)(ha:Wd a)(la:a.length≤100000000){k:Nat}(hk:k≤1048576):Fn 69 [iD s a,.k (.int .i64 (k:Int))] (.t [iO (x*2^k) 0,e0]):=by
 rw[show x*2^k=zI s (nv B a*2^k)from by
  rw[←hx];unfold zv zI;cases s<;>simp[Int.neg_mul],yL]
 refine dI Tryz.func69 (code:=qf Tryz.f69) rfl rfl fun w ac S=>?_
 refine bK ?_;clear S;intro _ _ _ S;refine aK S rfl (rfl) (wp_skip (bK ?_));clear S;intro _ _ _ S;(refine ax S (pc (g_shl ha la hk)) ?_;clear S;intro _ _ _ S);refine bK ?_;clear S;intro _ _ _ S;refine aK S rfl (rfl) (wp_skip (bK ?_));clear S;intro _ _ _ S;(refine ax S (yK rfl rfl) ?_;clear S;intro _ _ _ S);refine bK ?_;clear S;intro _ _ _ S;exact wp_ret (iH [_] S rfl rfl ⟨⟨_,_,_,rfl,rfl,rfl⟩,rfl,trivial⟩)
end
section
section
variable {w0 w w':World} {γ:Gh} {N c:Nat} {E:En} {Bx:Bs} {a a':Act}
theorem TV(S:PS w0 N c E Bx γ a w){t j:Nat}{bt:TypeId}{d1 d2:Δ}(h1:lk E t=some (.p j 0))(h2:lk Bx j=some (bt,[d1,d2])):∃q u v,a.tmps.getD t undef= .pointer (some ⟨q,0,none⟩)∧q<w.heap.size∧w.cell? ⟨q,0,none⟩=some u∧w.cell? ⟨q,1,none⟩=some v∧s0 w0 γ w d1 u∧s0 w0 γ w d2 v:=by
 obtain⟨q,hq,e⟩:=S.env t _ h1;obtain⟨q',xs,hq',hg,hds⟩:=S.box j _ h2;obtain rfl:q=q':=Option.some.inj (hq.symm.trans hq');match xs,hds with
 |[u,v],hds=>exact⟨q,u,v,e,oz hg,jM hg (k:=0) rfl,jM hg (k:=1) rfl,hds.1,hds.2.1⟩
theorem PS.raw(S:PS w0 N c E Bx γ a w)(E':En)(hb:Below w.heap.size w w')(hz:a'.tmps.size=N)(hd:a'.defers=a.defers)(he:∀t d,lk E' t=some d→(lk E t=some d∧a'.tmps.getD t undef=a.tmps.getD t undef)∨s2 w0 γ w' d (a'.tmps.getD t undef)):PS w0 N c E' Bx γ a' w':=
 ⟨S.W.Ep (below_le S.W hb),hz,hd.trans S.df,fun t d h=>(he t d h).elim (fun h=>by rw[h.2];exact s2.up S.W (.of hb) (S.env t d h.1)) id,fun i b h=>(S.box i b h).up S.W (.of hb) fun q hq=>hb.block q (S.W.bn i q hq).2⟩
theorem JS{s:Bool}{A:List Nat}{d:Δ}{u:Value}{x:Int}(hd:d= .rd A∨∃t,d= .ow A t)(h:s0 w0 γ w d u)(hA:Wd A)(lA:A.length≤1000000000)(hx:zv s A=x):∀w1,Below w.heap.size w w1→Calls Tryz.prog 79 #[.agg #[.bool s,u]] w1 (fun e w2=>e= .returned (.int .i64 (iZ x))∧Below w1.heap.size w1 w2):=fun w1 hb=>by
 have hr:Rep0 w1 (fun q=>q<w1.heap.size) u (.l 1 (W A)):=by
  rcases hd with rfl|⟨t,rfl⟩
  ·obtain⟨H,h1,h2⟩:=h;exact h2.mono (fun q hq=>Nat.lt_of_lt_of_le (h1 q hq).1 hb.size) fun q hq=>hb.block q (h1 q hq).1
  ·exact h.1.rep.mono (fun q hq=>Nat.lt_of_lt_of_le hq hb.size) fun q hq=>hb.block q hq
 have:=A8 (vs:=[.agg #[.bool s,u]]) (qI s A hA lA) (fun q h=>h) (EM (IA.rep ⟨u,rfl,hr⟩));rw[hx]at this;exact this
end
variable {s t:Bool} {a b:List Nat} {x z:Int}
theorem XZ(hx:zv s a=x)(ha:Wd a)(la:a.length≤100000000)(hz:zv t b=z)(hb:Wd b)(lb:b.length≤100000000)(h0:z≠0):Fn 84 [iD s a,iD t b] (.t [iO (x.fdiv z) 0,e0]):=by
 obtain⟨M,hM⟩:∃M:Nat,M=100000000:=⟨_,rfl⟩;have hl:x.natAbs<B^M:=by rw[←hx];exact dD (s:=s) ha om
 have lq:(dg B (zq x z).natAbs).length≤100000000:=Nat.le_trans (zlen (Nat.lt_of_le_of_lt (zq_abs x z) hl)) om;have lr:(dg B (zr x z).natAbs).length≤100000000:=Nat.le_trans (zlen (Nat.lt_of_le_of_lt (zr_abs x z) hl)) om;have hq:=w_quo hx hz ha la hb lb h0;have hz0:iZ (zr x z)=0↔x.tmod z=0:=by
  rw[zr_p h0];unfold iZ;generalize x.tmod z=z;split
  ·omega
  ·split<;>omega
 rw[KT x z h0];refine dI Tryz.func84 (code:=qf Tryz.f84) rfl rfl fun w ac S=>?_
 refine bK ?_;clear S;intro _ _ _ S;(refine ax S (pc (hq)) ?_;clear S;intro _ _ _ S);refine bK ?_;clear S;intro _ _ _ S;refine aK S rfl (rfl) (wp_skip ?_);refine wp_seq (wp_seq ?_);obtain⟨qx,u0,ux,e2,l2,c0,c1,hu0,hux⟩:=TV S (t:=2) rfl rfl;obtain⟨qy,v0,uy,e3,l3,c2,c3,hv0,huy⟩:=TV S (t:=3) rfl rfl;obtain⟨qr,r0,ur,e7,l7,c4,c5,hr0,hur⟩:=TV S (t:=7) rfl rfl;obtain rfl:u0= .bool s:=hu0;obtain rfl:v0= .bool t:=hv0;obtain rfl:r0= .bool (decide (zr x z<0)):=hr0;have sx:=JS (.inl rfl) hux ha om hx;have sy:=JS (.inl rfl) huy hb om hz;have sr:=JS (.inr ⟨_,rfl⟩) hur (az _) om (dJ (zr x z));by_cases h1:x.tmod z=0
 ·rw[if_neg (fun h=>h.1 h1)];refine fl4f (x:=ux) (y:=uy) (za:=iZ x) (zb:=iZ z) S.sz e2 e3 e7 l2 l3 l7 c0 c1 c2 c3 c4 c5 (hz0.2 h1) sr sx sy fun a4 w4 z4 m2 m3 m4 m6 m7 h29 d4 B4=>?_
  replace S:=S.raw [(29,.k (.bool false)),(2,_),(3,_),(4,_),(6,_)] B4 z4 d4 fun t d h=>by
   rcases aG h with ⟨rfl,rfl⟩|⟨_,h⟩
   ·exact .inr h29
   rcases aG h with ⟨rfl,rfl⟩|⟨_,h⟩
   ·exact .inl ⟨rfl,m2⟩
   rcases aG h with ⟨rfl,rfl⟩|⟨_,h⟩
   ·exact .inl ⟨rfl,m3⟩
   rcases aG h with ⟨rfl,rfl⟩|⟨_,h⟩
   ·exact .inl ⟨rfl,m4⟩
   rcases aG h with ⟨rfl,rfl⟩|⟨_,h⟩
   ·exact .inl ⟨rfl,m6⟩
   cases h
  refine aK S rfl (rfl) (wp_skip (bK ?_));clear S;intro _ _ _ S;exact wp_ret (iH [_] S rfl rfl ⟨⟨_,_,_,rfl,rfl,rfl⟩,rfl,trivial⟩)
 ·refine fl4t (x:=ux) (y:=uy) (za:=iZ x) (zb:=iZ z) S.sz e2 e3 e7 l2 l3 l7 c0 c1 c2 c3 c4 c5 (fun h=>h1 (hz0.1 h)) sr sx sy fun a4 w4 z4 m2 m3 m4 m6 m7 h29 d4 B4=>?_
  replace S:=S.raw [(29,.k (.bool (iZ x != iZ z))),(2,_),(3,_),(4,_),(6,_)] B4 z4 d4 fun t d h=>by
   rcases aG h with ⟨rfl,rfl⟩|⟨_,h⟩
   ·exact .inr h29
   rcases aG h with ⟨rfl,rfl⟩|⟨_,h⟩
   ·exact .inl ⟨rfl,m2⟩
   rcases aG h with ⟨rfl,rfl⟩|⟨_,h⟩
   ·exact .inl ⟨rfl,m3⟩
   rcases aG h with ⟨rfl,rfl⟩|⟨_,h⟩
   ·exact .inl ⟨rfl,m4⟩
   rcases aG h with ⟨rfl,rfl⟩|⟨_,h⟩
   ·exact .inl ⟨rfl,m6⟩
   cases h
  by_cases h2:iZ x=iZ z
  ·rw[if_neg (fun h=>h.2 h2)];refine aK S rfl (by rw[h2];simp) (wp_skip ?_);refine bK ?_;clear S;intro _ _ _ S;exact wp_ret (iH [_] S rfl rfl ⟨⟨_,_,_,rfl,rfl,rfl⟩,rfl,trivial⟩)
  ·rw[if_pos ⟨h1,h2⟩];refine aW S rfl (by simp[h2]) ?_;(refine bQ 3 [_,_,_] [_,_,_] [[(6,none)],[],[(30,some 0),(31,some 1)]] rfl S aX kf kf kf ⟨px,pc (JD),pc (w_sub (dJ (zq x z)) (az _) lq (dJ 1) (az 1) dc),trivial⟩ ?_;clear S;intro _ _ _ S);refine bK ?_;clear S;intro _ _ _ S;exact wp_ret (iH [_] S rfl rfl ⟨⟨_,_,_,rfl,rfl,rfl⟩,rfl,trivial⟩)
end
section
variable {s:Bool} {a d:List Nat} {x:Int} {D0:Nat}
theorem BM{v:Nat}{m:Nat}(h:v<B^m)(hm:m≤100000000):(dg B v).length≤100000000:=Nat.le_trans (bC h) hm
theorem GZ{m:Nat}(hm:m≤100000000)(hx:zv s a=x)(hD:nv B d=D0)(ha:Wd a)(la:a.length≤m)(hd:Wd d)(ld:d.length≤m)(h0:D0≠0):Fn 73 [iD s a,.rd d] (qO (rz x D0) (dC x D0) 0 1):=by
 have lx:x.natAbs<B^m:=hx▸dD (s:=s) ha la;have lD:D0<B^m:=hD▸fO hd ld;have hg:=Eb (z:=x) h0;have d1:rG x D0∣x.natAbs:=Nat.gcd_dvd_left _ _;have d2:rG x D0∣D0:=Nat.gcd_dvd_right _ _;have lg:rG x D0<B^m:=Nat.lt_of_le_of_lt (Nat.le_of_dvd om d2) lD;refine dI Tryz.func73 (code:=qf Tryz.f73) rfl rfl fun w ac S=>?_
 refine bK ?_;clear S;intro _ _ _ S;(refine ax S (pc (yg hx ha om)) ?_;clear S;intro _ _ _ S);refine bK ?_;clear S;intro _ _ _ S;(refine ax S (pc (f_gcd (az _) (BM lx hm) hd om (aS _) hD)) ?_;clear S;intro _ _ _ S);refine bK ?_;clear S;intro _ _ _ S;(refine ax S (pc (Y3 (az _) (BM lx hm) (az _) (BM lg hm) (aS _) (aS _) d1 om)) ?_;clear S;intro _ _ _ S);refine bK ?_;clear S;intro _ _ _ S;(refine ax S (pc (Y3 hd om (az _) (BM lg hm) hD (aS _) d2 om)) ?_;clear S;intro _ _ _ S);refine bK ?_;clear S;intro _ _ _ S;(refine ax S (pc (TT (s:=decide (x<0)) (x:=rz x D0) (by unfold zv;rw[aS];exact rz_I x D0) (az _) (BM (Nat.lt_of_le_of_lt (Nat.div_le_self _ _) lx) hm))) ?_;clear S;intro _ _ _ S);refine bK ?_;clear S;intro _ _ _ S;exact wp_ret (kW [_,_] S rfl ⟨_,_,_,rfl,rfl,rfl⟩)
theorem Ze(d:List Nat)(h:nv B d=D0):zv false d=(D0:Int):=by rw[←h];rfl
theorem Ls{m:Nat}(hm:2*m≤100000000)(hx:zv s a=x)(hD:nv B d=D0)(ha:Wd a)(la:a.length≤m)(hd:Wd d)(ld:d.length≤m):Fn 111 [iD s a,.rd d] (iO (x*D0) 0):=by
 have lD:D0<B^m:=hD▸fO hd ld;refine dI Tryz.func111 (code:=qf Tryz.f111) rfl rfl fun w ac S=>?_
 refine bK ?_;clear S;intro _ _ _ S;(refine wp_seq (bQ 4 [_,_,_,_] [_,_,_,_] [[(2,none)],[(1,none)],[(6,some 1)],[(5,some 0),(7,some 2)]] rfl S aX kf kf kf ⟨px,px,pc (TT (Ze d hD) hd om),pc (f_mul hx ha om (dJ (D0:Int)) (az _) (BM lD om)),trivial⟩ ?_);clear S;intro _ _ _ S);refine bK ?_;clear S;intro _ _ _ S;exact wp_ret (kW [_] S rfl ⟨_,_,_,rfl,rfl,rfl⟩)
end
section
variable {s:Bool} {a d:List Nat} {x:Int} {D0:Nat}
abbrev qD(s:Bool)(a d:List Nat):Δ:= .g [.k (.bool s),.rd a,.rd d]
theorem TW(hD:nv B d=D0)(hd:Wd d)(ld:d.length≤100000000)(h0:D0≠0):Fn 44 [qD s a d] e0:=by
 refine dI Tryz.func44 (code:=qf Tryz.f44) rfl rfl fun w ac S=>?_
 refine bK ?_;clear S;intro _ _ _ S;(refine ax S (pc (JE hd ld)) ?_;clear S;intro _ _ _ S);refine bK ?_;clear S;intro _ _ _ S;refine aK S rfl (decide_eq_false (by rw[hD];intro h;have:=QJ h0;omega)) (wp_skip ?_);refine bK ?_;clear S;intro _ _ _ S;exact wp_ret (kW [] S rfl rfl)
theorem f_two{n:Nat}(hn:n≤1048576):Fn 74 [.k (.int .i64 (n:Int))] (.ow (dg B (2^n)) 0):=uZ fun w vs _ h=>match vs,h with
 |[u],h=>by
  have e:u= .int .i64 (n:Int):=h.1;subst e;exact XH hn
theorem f_dyn{m k:Nat}(hm:m≤100000000)(hk0:0<k)(hk:k≤1048576)(hm1:16385≤m)(hx:zv s a=x)(ha:Wd a)(la:a.length≤m):Fn 40 [iD s a,.k (.int .i64 (-(k:Int)))] (.t [qO (rz x (2^k)) (dC x (2^k)) 0 1,e0]):=by
 have l2:2^k<B^m:=Nat.lt_of_lt_of_le (Jo k) (Nat.pow_le_pow_right dc om);refine dI Tryz.func40 (code:=qf Tryz.f40) rfl rfl fun w ac S=>?_
 refine bK ?_;clear S;intro _ _ _ S;refine aK S rfl (rfl) (wp_skip (bK ?_));clear S;intro _ _ _ S;refine aW S rfl (rfl) (bK ?_);(refine wp_seq (bQ 5 [_,_,_,_,_] [_,_,_,_,_] [[(2,none)],[(1,none)],[(18,some 1)],[(19,some 2)],[(17,some 0),(20,some 3)]] rfl S aX kf kf kf ⟨px,px,px,pc (f_two hk),pc (GZ hm hx (aS _) ha la (az _) (Nat.le_trans (bC l2) (Nat.le_refl _)) (Nat.pos_iff_ne_zero.1 (Nat.two_pow_pos k))),trivial⟩ ?_);clear S;intro _ _ _ S);refine bK ?_;clear S;intro _ _ _ S;exact wp_ret (iH [_,_] S rfl rfl ⟨⟨_,_,_,rfl,rfl,rfl⟩,rfl,trivial⟩)
end
section
variable {s t:Bool} {a b d e:List Nat} {x z:Int} {D0 E0:Nat} {m:Nat}
theorem f_dy0(hm:m≤90000000)(hm1:16385≤m)(hx:zv s a=x)(ha:Wd a)(la:a.length≤m):Fn 40 [iD s a,.k (.int .i64 0)] (.t [qO (rz x 1) (dC x 1) 0 1,e0]):=by
 have lx:x.natAbs<B^m:=hx▸dD (s:=s) ha la;have h2:=TU hx ha om (k:=0) om;rw[Int.pow_zero,Int.mul_one]at h2;refine dI Tryz.func40 (code:=qf Tryz.f40) rfl rfl fun w ac S=>?_
 refine bK ?_;clear S;intro _ _ _ S;refine aK S rfl (rfl) (wp_skip (bK ?_));clear S;intro _ _ _ S;refine aK S rfl (rfl) (wp_skip (bK ?_));clear S;intro _ _ _ S;(refine ax S (pc (h2)) ?_;clear S;intro _ _ _ S);refine bK ?_;clear S;intro _ _ _ S;(refine wp_seq (yJ 6 [.v _ _,.v _ _,.v _ _,.v _ _,.st (S.tg 4) _,.v _ _] [[(6,none)],[],[(28,some 0),(29,some 1)],[(7,none)],[(4,none),(30,some 2)],[(31,some 3)]] rfl S aX kf kf ⟨px,pc (f_nof (n:=1) dc),pc (GZ (m:=m) om (dJ x) (aS 1) (az _) (bC lx) (az _) (by have:=bC (show 1<B^1 by decide);omega) dc),px,UK,px,trivial⟩ kf kf ?_);intro _ _ _ S);refine bK ?_;exact wp_ret (iH [_,_] S rfl rfl ⟨⟨_,_,_,rfl,rfl,rfl⟩,rfl,trivial⟩)
theorem f_dy{k:Nat}(hm:m≤90000000)(hk:k≤1048576)(hm1:16385≤m)(hx:zv s a=x)(ha:Wd a)(la:a.length≤m):Fn 40 [iD s a,.k (.int .i64 (-(k:Int)))] (.t [qO (rz x (2^k)) (dC x (2^k)) 0 1,e0]):=by
 by_cases h:k=0
 ·subst h;exact f_dy0 hm hm1 hx ha la
 ·exact f_dyn om om hk hm1 hx ha la
theorem fq_add(hm:m≤40000000)(hx:zv s a=x)(hz:zv t b=z)(hD:nv B d=D0)(hE:nv B e=E0)(ha:Wd a)(hb:Wd b)(hd:Wd d)(he:Wd e)(la:a.length≤m)(lb:b.length≤m)(ld:d.length≤m)(le:e.length≤m)(d0:D0≠0)(e00:E0≠0):
 Fn 75 [qD s a d,qD t b e] (.t [qO (rz (x*E0+z*D0) (D0*E0)) (dC (x*E0+z*D0) (D0*E0)) 0 1,e0]):=by
 have h1:=SA s t a b d e hd he om om
 have h0:D0*E0≠0:=Nat.mul_ne_zero d0 e00
 rw[hD,hE,re_p h0]at h1
 have b1:(x*E0).natAbs<B^(m+m):=mul_lt (hx▸dD ha la) (hE▸fO he le)
 have b2:(z*D0).natAbs<B^(m+m):=mul_lt (hz▸dD hb lb) (hD▸fO hd ld)
 have b3:D0*E0<B^(m+m):=wM (hD▸fO hd ld) (hE▸fO he le)
 have b4:(x*E0+z*D0).natAbs<B^(m+m+1):=Nat.lt_of_le_of_lt (Int.natAbs_add_le _ _) (zJ b1 b2)
 refine dI Tryz.func75 (code:=qf Tryz.f75) rfl rfl fun w ac S=>?_
 refine bK ?_
 clear S
 intro _ _ _ S
 (refine ax S (ok_bsq rfl rfl rfl rfl rfl rfl) ?_;clear S;intro _ _ _ S)
 (refine ax S (pfs h1) ?_;clear S;intro _ _ _ S)
 refine bK ?_
 clear S
 intro _ _ _ S
 refine aK S rfl (rfl) (wp_skip ?_)
 (refine wp_seq (bQ 17 [_,_,_,_,_,_,_,_,_,_,_,_,_,_,_,_,_] [_,_,_,_,_,_,_,_,_,_,_,_,_,_,_,_,_] [[(2,none)],[(15,some 0)],[(3,none)],[(17,some 2)],[(16,some 1),(18,some 3)],[(3,none)],[(20,some 5)],[(2,none)],[(22,some 7)],[(21,some 6),(23,some 8)],[(19,some 4),(24,some 9)],[(2,none)],[(26,some 11)],[(3,none)],[(28,some 13)],[(27,some 12),(29,some 14)],[(25,some 10),(30,some 15)]] rfl S aX kf kf kf ⟨px,px,px,px,pc (Ls om hx hE ha la he le),px,px,px,px,pc (Ls om hz hD hb lb hd ld),pc (f_add (dJ (x*E0)) (az _) (BM b1 om) (dJ (z*D0)) (az _) (BM b2 om)),px,px,px,px,pc (TB hd om he om hD hE),pc (GZ (m:=m+m+1) om (dJ (x*E0+z*D0)) (aS (D0*E0)) (az _) (bC b4) (az _) (bC (Ja b3 om)) h0),trivial⟩ ?_);clear S;intro _ _ _ S)
 refine bK ?_
 clear S
 intro _ _ _ S
 exact wp_ret (iH [_,_] S rfl rfl ⟨⟨_,_,_,rfl,rfl,rfl⟩,rfl,trivial⟩)
end
section
variable {s t:Bool} {a b d e:List Nat} {x z:Int} {D0 E0:Nat} {m:Nat}
theorem TY(ha:Wd a)(la:a.length≤100000000)(hD:nv B a=D0){w:Nat}(hw:w<18446744073709551616):Fn 76 [.rd a,.k (.int .u64 (w:Int))] (.ow (dg B (D0*w)) 0):=uZ fun w1 vs _ h=>match vs,h with
 |[u,v],h=>by
  have e:v= .int .u64 (w:Int):=h.2.1;subst e;rw[←hD];exact pO (vs:=[u,.int .u64 (w:Int)]) (GR a w ha hw om) (fun q h=>h) (NQ (EN h.1) (.i _ _))
theorem TZ{x:Int}{D0 m:Nat}(h:x.natAbs<B^m):(rz x D0).natAbs<B^m:=by
 rw[Jl];exact Nat.lt_of_le_of_lt (Nat.div_le_self _ _) h
theorem T_{x:Int}{D0 m:Nat}(h:D0<B^m):dC x D0<B^m:=Nat.lt_of_le_of_lt (Nat.div_le_self _ _) h
theorem fq_mid(hm:m≤40000000)(hx:zv s a=x)(hz:zv t b=z)(hD:nv B d=D0)(hE:nv B e=E0)(ha:Wd a)(hb:Wd b)(hd:Wd d)(he:Wd e)(la:a.length≤m)(lb:b.length≤m)(ld:d.length≤m)(le:e.length≤m)(d0:D0≠0)(e00:E0≠0):
 Fn 41 [qD s a d,qD t b e] (.t [qO (rz (rz (x*E0+z*D0) (D0*E0)) (dC (x*E0+z*D0) (D0*E0)*2)) (dC (rz (x*E0+z*D0) (D0*E0)) (dC (x*E0+z*D0) (D0*E0)*2)) 0 1,e0]):=by
 have h1:=fq_add hm hx hz hD hE ha hb hd he la lb ld le d0 e00
 have h0:D0*E0≠0:=Nat.mul_ne_zero d0 e00
 have b1:(x*E0).natAbs<B^(m+m):=mul_lt (hx▸dD ha la) (hE▸fO he le)
 have b2:(z*D0).natAbs<B^(m+m):=mul_lt (hz▸dD hb lb) (hD▸fO hd ld)
 have b3:D0*E0<B^(m+m):=wM (hD▸fO hd ld) (hE▸fO he le)
 have b4:(x*E0+z*D0).natAbs<B^(m+m+1):=Nat.lt_of_le_of_lt (Int.natAbs_add_le _ _) (zJ b1 b2)
 generalize x*E0+z*D0=X at*
 generalize D0*E0=Y at*
 have c1:=TZ (D0:=Y) b4
 have c2:=T_ (x:=X) b3
 have c3:dC X Y≠0:=nJ h0
 generalize rz X Y=U at*
 generalize dC X Y=V at*
 have c4:V*2<B^(m+m+1):=by
  rw[Nat.pow_succ];exact Nat.mul_lt_mul_of_lt_of_le c2 dc dc
 refine dI Tryz.func41 (code:=qf Tryz.f41) rfl rfl fun w ac S=>?_
 refine bK ?_
 clear S
 intro _ _ _ S
 (refine ax S (pc (h1)) ?_;clear S;intro _ _ _ S)
 refine bK ?_
 clear S
 intro _ _ _ S
 refine aK S rfl (rfl) (wp_skip ?_)
 (refine wp_seq (bQ 6 [_,_,_,_,_,_] [_,_,_,_,_,_] [[(6,none)],[(18,some 0)],[(6,none)],[(20,some 2)],[(21,some 3)],[(19,some 1),(22,some 4)]] rfl S aX kf kf kf ⟨px,px,px,px,pc (TY (w:=2) (az _) (BM c2 om) (aS _) dc),pc (GZ (m:=m+m+1) om (dJ U) (aS (V*2)) (az _) (bC c1) (az _) (bC c4) om),trivial⟩ ?_);clear S;intro _ _ _ S)
 refine bK ?_
 clear S
 intro _ _ _ S
 exact wp_ret (iH [_,_] S rfl rfl ⟨⟨_,_,_,rfl,rfl,rfl⟩,rfl,trivial⟩)
theorem G5{k:Nat}(hk:k≤1048576)(hm:m≤40000000)(hx:zv s a=x)(hD:nv B d=D0)(ha:Wd a)(hd:Wd d)(la:a.length≤m)(ld:d.length≤m)(d0:D0≠0):
 Fn 45 [qD s a d,.k (.int .i64 (k:Int))] (.t [iO ((x*2^k).fdiv (D0:Int)) 0,e0]):=by
 have lx:x.natAbs<B^m:=hx▸dD (s:=s) ha la
 have lD:D0<B^m:=hD▸fO hd ld
 have hb:(x*2^k).natAbs<B^(m+16384):=by
  rw[Int.natAbs_mul,Int.natAbs_pow];exact zy lx hk
 refine dI Tryz.func45 (code:=qf Tryz.f45) rfl rfl fun w ac S=>?_
 refine bK ?_
 clear S
 intro _ _ _ S
 (refine ax S (pc (TW hD hd om d0)) ?_;clear S;intro _ _ _ S)
 refine bK ?_
 clear S
 intro _ _ _ S
 refine aK S rfl (rfl) (wp_skip (bK ?_))
 clear S
 intro _ _ _ S
 refine aK S rfl (rfl) (wp_skip ?_)
 (refine wp_seq (bQ 7 [_,_,_,_,_,_,_] [_,_,_,_,_,_,_] [[(2,none)],[(22,some 0)],[(2,none)],[(24,some 2)],[(25,some 3)],[],[]] rfl S aX kf kf kf ⟨px,px,px,px,pc (TT (Ze d hD) hd om),px,px,trivial⟩ ?_);clear S;intro _ _ _ S)
 refine bK ?_
 clear S
 intro _ _ _ S
 refine aK S rfl (rfl) (wp_region_lit (bK ?_))
 clear S
 intro _ _ _ S
 (refine ax S (pc (TU hx ha om hk)) ?_;clear S;intro _ _ _ S)
 refine bK ?_
 clear S
 intro _ _ _ S
 (refine ax S (pc (XZ (dJ (x*2^k)) (az _) (BM hb om) (dJ (D0:Int)) (az _) (BM lD om) om)) ?_;clear S;intro _ _ _ S)
 refine bK ?_
 clear S
 intro _ _ _ S
 exact wp_ret (iH [_] S rfl rfl ⟨⟨_,_,_,rfl,rfl,rfl⟩,rfl,trivial⟩)
theorem X0{k:Nat}(hk:k≤1048576)(hm:m≤40000000)(hx:zv s a=x)(hD:nv B d=D0)(ha:Wd a)(hd:Wd d)(la:a.length≤m)(ld:d.length≤m)(d0:D0≠0):
 Fn 46 [qD s a d,.k (.int .i64 (k:Int))] (.t [iO (-((-x*2^k).fdiv (D0:Int))) 0,e0]):=by
 have lx:x.natAbs<B^m:=hx▸dD (s:=s) ha la
 have ln:(-x).natAbs<B^m:=by rw[Int.natAbs_neg];exact lx
 have h2:=G5 hk hm (dJ (-x)) hD (az _) hd (bC ln) ld d0
 have hb:(-x*2^k).natAbs<B^(m+16384):=by
  rw[Int.natAbs_mul,Int.natAbs_pow];exact zy ln hk
 have hq:((-x*2^k).fdiv (D0:Int)).natAbs<B^(m+16384):=by
  rw[Int.fdiv_eq_ediv_of_nonneg _ om];have:=Int.natAbs_ediv_le_natAbs (-x*2^k) (D0:Int);omega
 refine dI Tryz.func46 (code:=qf Tryz.f46) rfl rfl fun w ac S=>?_
 refine bK ?_
 clear S
 intro _ _ _ S
 (refine ax S (pc (TS hx ha om)) ?_;clear S;intro _ _ _ S)
 refine bK ?_
 clear S
 intro _ _ _ S
 (refine ps_s2 S rfl rfl rfl kf rfl rfl ?_;clear S;intro _ _ S)
 refine bK ?_
 clear S
 intro _ _ _ S
 (refine ax S (pc (h2)) ?_;clear S;intro _ _ _ S)
 refine bK ?_
 clear S
 intro _ _ _ S
 refine aK S rfl (rfl) (wp_skip (bK ?_))
 clear S
 intro _ _ _ S
 (refine ax S (pc (TS (dJ ((-x*2^k).fdiv (D0:Int))) (az _) (BM hq om))) ?_;clear S;intro _ _ _ S)
 refine bK ?_
 clear S
 intro _ _ _ S
 exact wp_ret (iH [_] S rfl rfl ⟨⟨_,_,_,rfl,rfl,rfl⟩,rfl,trivial⟩)
end
section
variable {s:Bool} {a:List Nat} {x:Int} {m k:Nat} {p:Bool}
abbrev cD(s:Bool)(a:List Nat)(k:Nat)(p:Bool):Δ:= .g [.k (.bool s),.rd a,.k (.int .i64 (k:Int)),.k (.bool p)]
abbrev cO(z:Int)(k:Nat)(p:Bool)(t:Nat):Δ:= .g [.k (.bool (decide (z<0))),.ow (dg B z.natAbs) t,.k (.int .i64 (k:Int)),.k (.bool p)]
theorem Bi(hk:k≤1048576):Fn 34 [cD s a k p] e0:=by
 refine dI Tryz.func34 (code:=qf Tryz.f34) rfl rfl fun w ac S=>?_
 refine bK ?_;clear S;intro _ _ _ S;refine wp_seq (wp_block (bK ?_));clear S;intro _ _ _ S;refine aK S rfl (rfl) (bK ?_);clear S;intro _ _ _ S;refine aK S rfl (rfl) (wp_skip (bK ?_));clear S;intro _ _ _ S;exact wp_ret (kW [] S rfl rfl)
theorem X3(hk:k≤1048576)(hx:zv s a=x)(ha:Wd a)(la:a.length≤100000000):Fn 9 [cD s a k p] (.t [cO x k p 0,e0]):=by
 refine dI Tryz.func9 (code:=qf Tryz.f9) rfl rfl fun w ac S=>?_
 refine bK ?_;clear S;intro _ _ _ S;(refine ax S (pc (Bi hk)) ?_;clear S;intro _ _ _ S);refine bK ?_;clear S;intro _ _ _ S;refine aK S rfl (rfl) (wp_skip ?_);(refine wp_seq (bQ 8 [_,_,_,_,_,_,_,_] [_,_,_,_,_,_,_,_] [[(1,none)],[(11,some 0)],[(12,some 1)],[(1,none)],[(14,some 3)],[(1,none)],[(16,some 5)],[(13,some 2),(15,some 4),(17,some 6)]] rfl S aX kf kf kf ⟨px,px,pc (yg hx ha la),px,px,px,px,px,trivial⟩ ?_);clear S;intro _ _ _ S);refine bK ?_;clear S;intro _ _ _ S;exact wp_ret (iH [_] S rfl rfl ⟨⟨_,_,_,rfl,rfl,rfl⟩,rfl,trivial⟩)
theorem Bj(hk:k≤1048576)(hx:zv s a=x)(ha:Wd a)(la:a.length≤100000000):Fn 36 [iD s a,.k (.int .i64 (k:Int))] (iO (x*2^k) 0):=by
 refine dI Tryz.func36 (code:=qf Tryz.f36) rfl rfl fun w ac S=>?_
 refine bK ?_;clear S;intro _ _ _ S;(refine ax S (pc (TU hx ha la hk)) ?_;clear S;intro _ _ _ S);refine bK ?_;clear S;intro _ _ _ S;exact wp_ret (kW [_] S rfl ⟨_,_,_,rfl,rfl,rfl⟩)
end
section
variable {s:Bool} {a:List Nat} {x:Int} {m k:Nat} {p:Bool}
theorem yh(hx:zv s a=x)(ha:Wd a)(la:a.length≤100000000):Fn 36 [iD s a,.k (.int .i64 ((k-k:Nat):Int))] (iO x 0):=by
 have h:=Bj (k:=k-k) om hx ha la;rw[show x*2^(k-k)=x from by rw[Nat.sub_self,Int.pow_zero,Int.mul_one]]at h;exact h
theorem Ua(hk:k≤1048576)(hx:zv s a=x)(ha:Wd a)(la:a.length≤100000000):Fn 39 [cD s a k true,.k (.int .i64 (k:Int))] (.t [iO x 0,iO x 0]):=by
 have h:=yh (k:=k) hx ha la;refine dI Tryz.func39 (code:=qf Tryz.f39) rfl rfl fun w ac S=>?_
 refine bK ?_;clear S;intro _ _ _ S;(refine ax S (pc (h)) ?_;clear S;intro _ _ _ S);refine bK ?_;clear S;intro _ _ _ S;refine aW S rfl (rfl) ?_;(refine wp_seq (yJ 4 [.v _ _,.v _ _,.st (S.tg 4) _,.st (S.tg 5) _] [[(6,none)],[(6,none)],[(4,none),(16,some 0)],[(5,none),(17,some 1)]] rfl S aX kf kf ⟨px,px,UK,UK,trivial⟩ kf kf ?_);intro _ _ _ S);exact wp_ret (iH [_] S rfl rfl ⟨⟨_,_,_,rfl,rfl,rfl⟩,⟨_,_,_,rfl,rfl,rfl⟩,trivial⟩)
theorem Ub(hm:m≤90000000)(hk:k≤1048576)(hx:zv s a=x)(ha:Wd a)(la:a.length≤m):Fn 39 [cD s a k false,.k (.int .i64 (k:Int))] (.t [iO x 0,iO (x+1) 1]):=by
 have h:=yh (k:=k) hx ha om;have lx:x.natAbs<B^m:=hx▸dD (s:=s) ha la;have l1:(x+1).natAbs<B^(m+1):=by
  have:(x+1).natAbs≤x.natAbs+1:=om;have h2:B^m+B^m≤B^(m+1):=by rw[Nat.pow_succ,Nat.mul_comm,←Nat.two_mul];exact Nat.mul_le_mul_right _ dc
  have:=Nat.pow_pos (n:=m) B0;omega
 have h2:=yh (k:=k) (dJ (x+1)) (az _) (BM l1 om);refine dI Tryz.func39 (code:=qf Tryz.f39) rfl rfl fun w ac S=>?_
 refine bK ?_;clear S;intro _ _ _ S;(refine ax S (pc (h)) ?_;clear S;intro _ _ _ S);refine bK ?_;clear S;intro _ _ _ S;refine aK S rfl (rfl) (wp_skip ?_);(refine wp_seq (bQ 10 [_,_,_,_,_,_,_,_,_,_] [_,_,_,_,_,_,_,_,_,_] [[(6,none)],[(2,none)],[(19,some 1)],[],[(20,some 2),(21,some 3)],[(1,none)],[(2,none)],[(24,some 6)],[(23,some 5),(25,some 7)],[(22,some 4),(26,some 8)]] rfl S aX kf kf kf ⟨px,px,px,pc (JD),pc (f_add hx ha om (show zv false (dg B 1)=1 from dJ 1) (az _) (BM (show 1<B^1 by decide) dc)),px,px,px,px,pc (h2),trivial⟩ ?_);clear S;intro _ _ _ S);refine bK ?_;clear S;intro _ _ _ S;exact wp_ret (iH [_,_] S rfl rfl ⟨⟨_,_,_,rfl,rfl,rfl⟩,⟨_,_,_,rfl,rfl,rfl⟩,trivial⟩)
end
section
variable {s:Bool} {a:List Nat} {x:Int} {m k:Nat} {p:Bool}
theorem Uc(hm:m≤40000000)(hm1:16385≤m)(hk:k≤1048576)(hx:zv s a=x)(ha:Wd a)(la:a.length≤m):Fn 11 [cD s a k true] (.t [qO (rz x (2^k)) (dC x (2^k)) 0 1,qO (rz x (2^k)) (dC x (2^k)) 2 3,e0]):=by
 have lx:x.natAbs<B^m:=hx▸dD (s:=s) ha la;have h:=f_dy (m:=m) om hk hm1 (dJ x) (az _) (bC lx);refine dI Tryz.func11 (code:=qf Tryz.f11) rfl rfl fun w ac S=>?_
 refine bK ?_;clear S;intro _ _ _ S;(refine ax S (pc (Bi hk)) ?_;clear S;intro _ _ _ S);refine bK ?_;clear S;intro _ _ _ S;refine aK S rfl (rfl) (wp_skip (bK ?_));clear S;intro _ _ _ S;(refine ax S (pc (Ua hk hx ha om)) ?_;clear S;intro _ _ _ S);refine bK ?_;clear S;intro _ _ _ S;(refine ax S (pc (h)) ?_;clear S;intro _ _ _ S);refine bK ?_;clear S;intro _ _ _ S;(refine ax S (pc (h)) ?_;clear S;intro _ _ _ S);refine bK ?_;clear S;intro _ _ _ S;(refine wp_seq (yJ 5 [.v _ _,.v _ _,.st (S.tg 2) _,.st (S.tg 3) _,.v _ _] [[(8,none)],[(10,none)],[(2,none),(42,some 0)],[(3,none),(43,some 1)],[]] rfl S aX kf kf ⟨px,px,UK,UK,px,trivial⟩ kf kf ?_);intro _ _ _ S);exact wp_ret (iH [_,_,_,_] S rfl rfl ⟨⟨_,_,_,rfl,rfl,rfl⟩,⟨_,_,_,rfl,rfl,rfl⟩,rfl,trivial⟩)
theorem Ud{x:Int}{m:Nat}(lx:x.natAbs<B^m):(x+1).natAbs<B^(m+1):=by
 have:(x+1).natAbs≤x.natAbs+1:=om;have h2:B^m+B^m≤B^(m+1):=by rw[Nat.pow_succ,Nat.mul_comm,←Nat.two_mul];exact Nat.mul_le_mul_right _ dc
 have:=Nat.pow_pos (n:=m) B0;omega
theorem Bo(hm:m≤40000000)(hm1:16385≤m)(hk:k≤1048576)(hx:zv s a=x)(ha:Wd a)(la:a.length≤m):Fn 11 [cD s a k false] (.t [qO (rz x (2^k)) (dC x (2^k)) 0 1,qO (rz (x+1) (2^k)) (dC (x+1) (2^k)) 2 3,e0]):=by
 have lx:x.natAbs<B^m:=hx▸dD (s:=s) ha la;have h:=f_dy (m:=m) om hk hm1 (dJ x) (az _) (bC lx);have h2:=f_dy (m:=m+1) om hk om (dJ (x+1)) (az _) (bC (Ud lx));refine dI Tryz.func11 (code:=qf Tryz.f11) rfl rfl fun w ac S=>?_
 refine bK ?_;clear S;intro _ _ _ S;(refine ax S (pc (Bi hk)) ?_;clear S;intro _ _ _ S);refine bK ?_;clear S;intro _ _ _ S;refine aK S rfl (rfl) (wp_skip (bK ?_));clear S;intro _ _ _ S;(refine ax S (pc (Ub (m:=m) om hk hx ha la)) ?_;clear S;intro _ _ _ S);refine bK ?_;clear S;intro _ _ _ S;(refine ax S (pc (h)) ?_;clear S;intro _ _ _ S);refine bK ?_;clear S;intro _ _ _ S;(refine ax S (pc (h2)) ?_;clear S;intro _ _ _ S);refine bK ?_;clear S;intro _ _ _ S;(refine wp_seq (yJ 5 [.v _ _,.v _ _,.st (S.tg 2) _,.st (S.tg 3) _,.v _ _] [[(8,none)],[(10,none)],[(2,none),(42,some 0)],[(3,none),(43,some 1)],[]] rfl S aX kf kf ⟨px,px,UK,UK,px,trivial⟩ kf kf ?_);intro _ _ _ S);exact wp_ret (iH [_,_,_,_] S rfl rfl ⟨⟨_,_,_,rfl,rfl,rfl⟩,⟨_,_,_,rfl,rfl,rfl⟩,rfl,trivial⟩)
def hz(z w:Int)(d e:Nat):Int:=rz (rz (z*e+w*d) (d*e)) (dC (z*e+w*d) (d*e)*2)
def hd(z w:Int)(d e:Nat):Nat:=dC (rz (z*e+w*d) (d*e)) (dC (z*e+w*d) (d*e)*2)
theorem fc_mid(hm:m≤30000000)(hm1:16385≤m)(hk:k≤1048576)(hx:zv s a=x)(ha:Wd a)(la:a.length≤m):Fn 12 [cD s a k false] (.t [qO (hz (rz x (2^k)) (rz (x+1) (2^k)) (dC x (2^k)) (dC (x+1) (2^k))) (hd (rz x (2^k)) (rz (x+1) (2^k)) (dC x (2^k)) (dC (x+1) (2^k))) 0 1,e0]):=by
 have lx:x.natAbs<B^m:=hx▸dD (s:=s) ha la;have l2:2^k<B^(m+1):=Ja (Jo k) om;have h2:=Nat.pos_iff_ne_zero.1 (Nat.two_pow_pos k);have b1:=TZ (D0:=2^k) (Ja lx (Nat.le_succ m));have b2:=TZ (D0:=2^k) (Ud lx);have b3:=T_ (x:=x) l2;have b4:=T_ (x:=x+1) l2;have c3:=nJ (z:=x) h2;have c4:=nJ (z:=x+1) h2;have he:=Bo om hm1 hk hx ha la;generalize rz x (2^k)=Z at*
 generalize rz (x+1) (2^k)=W at*
 generalize dC x (2^k)=D0 at*
 generalize dC (x+1) (2^k)=E0 at*
 have h1:=fq_mid (m:=m+1) om (dJ Z) (dJ W) (aS D0) (aS E0) (az _) (az _) (az _) (az _) (bC b1) (bC b2) (bC b3) (bC b4) c3 c4;rw[show rz (rz (Z*E0+W*D0) (D0*E0)) (dC (Z*E0+W*D0) (D0*E0)*2)=hz Z W D0 E0 from rfl,show dC (rz (Z*E0+W*D0) (D0*E0)) (dC (Z*E0+W*D0) (D0*E0)*2)=hd Z W D0 E0 from rfl]at h1;generalize hz Z W D0 E0=U at*
 generalize hd Z W D0 E0=V at*
 refine dI Tryz.func12 (code:=qf Tryz.f12) rfl rfl fun w ac S=>?_
 refine bK ?_;clear S;intro _ _ _ S;(refine ax S (pc (he)) ?_;clear S;intro _ _ _ S);refine bK ?_;clear S;intro _ _ _ S;refine aK S rfl (rfl) (wp_skip (bK ?_));clear S;intro _ _ _ S;(refine ax S (pc (h1)) ?_;clear S;intro _ _ _ S);refine bK ?_;clear S;intro _ _ _ S;exact wp_ret (iH [_,_] S rfl rfl ⟨⟨_,_,_,rfl,rfl,rfl⟩,rfl,trivial⟩)
end
section
variable {s:Bool} {a d:List Nat} {x:Int} {m k D0:Nat} {p:Bool}
theorem Ue(hm:m≤40000000)(hk:k<1048576)(hx:zv s a=x)(ha:Wd a)(la:a.length≤m):Fn 10 [cD s a k false] (.t [cO (x*2) (k+1) false 0,cO (x*2+1) (k+1) true 1,cO (x*2+1) (k+1) false 2,e0]):=by
 have lx:x.natAbs<B^m:=hx▸dD (s:=s) ha la;have l2:(x*2).natAbs<B^(m+1):=by
  rw[Int.natAbs_mul,Nat.pow_succ];exact Nat.mul_lt_mul_of_lt_of_le lx dc dc
 have h:=Bj (k:=1) dc hx ha om;rw[Int.pow_one]at h;refine dI Tryz.func10 (code:=qf Tryz.f10) rfl rfl fun w ac S=>?_
 refine bK ?_;clear S;intro _ _ _ S;(refine ax S (pc (Bi (Nat.le_of_lt hk))) ?_;clear S;intro _ _ _ S);refine bK ?_;clear S;intro _ _ _ S;refine aK S rfl (rfl) (wp_skip (bK ?_));clear S;intro _ _ _ S;refine aK S rfl (rfl) (wp_skip (bK ?_));clear S;intro _ _ _ S;refine aK S rfl (rfl) (wp_skip (bK ?_));clear S;intro _ _ _ S;(refine ax S (pc (h)) ?_;clear S;intro _ _ _ S);refine bK ?_;clear S;intro _ _ _ S;(refine wp_seq (bQ 4 [_,_,_,_] [_,_,_,_] [[(8,none)],[],[(32,some 0),(33,some 1)],[]] rfl S aX kf kf kf ⟨px,pc (JD),pc (f_add (dJ (x*2)) (az _) (BM l2 om) (show zv false (dg B 1)=1 from dJ 1) (az _) (BM (show 1<B^1 by decide) dc)),px,trivial⟩ ?_);clear S;intro _ _ _ S);refine bK ?_;clear S;intro _ _ _ S;(refine wp_seq (yJ 20 [.v _ _,.v _ _,.v _ _,.v _ _,.v _ _,.v _ _,.v _ _,.v _ _,.v _ _,.v _ _,.v _ _,.v _ _,.v _ _,.v _ _,.v _ _,.v _ _,.st (S.tg 2) _,.st (S.tg 3) _,.st (S.tg 4) _,.v _ _] [[(8,none)],[(1,none)],[(36,some 1)],[(37,some 2)],[(35,some 0),(38,some 3)],[(9,none)],[(1,none)],[(41,some 6)],[(42,some 7)],[(40,some 5),(43,some 8)],[(9,none)],[(45,some 10)],[(1,none)],[(47,some 12)],[(48,some 13)],[(46,some 11),(49,some 14)],[(2,none),(39,some 4)],[(3,none),(44,some 9)],[(4,none),(50,some 15)],[]] rfl S aX kf kf ⟨px,px,px,px,px,px,px,px,px,px,px,pc (yg (dJ (x*2+1)) (az _) (BM (Ud l2) om)),px,px,px,px,UK,UK,UK,px,trivial⟩ kf kf ?_);intro _ _ _ S);exact wp_ret (iH [_,_,_] S rfl rfl ⟨⟨_,_,_,rfl,rfl,rfl⟩,⟨_,_,_,rfl,rfl,rfl⟩,⟨_,_,_,rfl,rfl,rfl⟩,rfl,trivial⟩)
end
section
variable {s:Bool} {a d:List Nat} {x:Int} {m k D0:Nat} {p:Bool}
theorem fc_up(hm:m≤40000000)(h0:1≤k)(hk:k≤1048576)(hx:zv s a=x)(ha:Wd a)(la:a.length≤m):Fn 13 [cD s a k false] (.t [cO (x.fdiv 2) (k-1) false 0,e0]):=by
 have lx:x.natAbs<B^m:=hx▸dD (s:=s) ha la;have l2:(x.fdiv 2).natAbs<B^(m+1):=by
  have:=Nat.pow_pos (n:=m) B0;have e:B^(m+1)=B*B^m:=by rw[Nat.pow_succ,Nat.mul_comm]
  have h2:2*B^m≤B^(m+1):=by rw[e];exact Nat.mul_le_mul_right _ dc
  rw[Int.fdiv_eq_ediv_of_nonneg _ dc];omega
 have h:=f_shr (k:=1) hx ha om dc;rw[Int.pow_one]at h;have h2:=Bj (k:=1) dc (dJ (x.fdiv 2)) (az _) (BM l2 om);rw[Int.pow_one]at h2;have l3:(x.fdiv 2*2).natAbs<B^(m+2):=by
  rw[Int.natAbs_mul,Nat.pow_succ];exact Nat.mul_lt_mul_of_lt_of_le l2 dc dc
 have h3:=Y2 (dJ (x.fdiv 2*2)) (az _) (BM l3 om) hx ha om;generalize x.fdiv 2*2=y at*
 generalize x.fdiv 2=z at*
 refine dI Tryz.func13 (code:=qf Tryz.f13) rfl rfl fun w ac S=>?_
 refine bK ?_;clear S;intro _ _ _ S;(refine ax S (pc (Bi hk)) ?_;clear S;intro _ _ _ S);refine bK ?_;clear S;intro _ _ _ S;refine aK S rfl (rfl) (wp_skip (bK ?_));clear S;intro _ _ _ S;refine aK S rfl (rfl) (wp_skip (bK ?_));clear S;intro _ _ _ S;(refine ax S (pc (h)) ?_;clear S;intro _ _ _ S);refine bK ?_;clear S;intro _ _ _ S;(refine wp_seq (yJ 7 [.v _ _,.v _ _,.v _ _,.v _ _,.v _ _,.v _ _,.v _ _] [[(5,none)],[(24,some 0)],[(1,none)],[(26,some 2)],[(25,some 1),(27,some 3)],[(28,some 4)],[(29,some 5)]] rfl S aX kf kf ⟨px,pc (h2),px,px,pc (h3),px,px,trivial⟩ kf kf ?_);intro _ _ _ S);refine bK ?_;clear S;intro _ _ _ S;exact wp_ret (iH [_] S rfl rfl ⟨⟨_,_,_,rfl,rfl,rfl⟩,rfl,trivial⟩)
theorem X4(hk:k≤1048576):Fn 34 [.g [.k (.bool false),.k (.slice none 0 0),.k (.int .i64 (k:Int)),.k (.bool false)]] e0:=by
 refine dI Tryz.func34 (code:=qf Tryz.f34) rfl rfl fun w ac S=>?_
 refine bK ?_;clear S;intro _ _ _ S;refine wp_seq (wp_block (bK ?_));clear S;intro _ _ _ S;refine aK S rfl (rfl) (bK ?_);clear S;intro _ _ _ S;refine aK S rfl (rfl) (wp_skip (bK ?_));clear S;intro _ _ _ S;exact wp_ret (kW [] S rfl rfl)
theorem Zf(hm:m≤30000000)(hk:k≤1048576)(hx:zv s a=x)(hD:nv B d=D0)(ha:Wd a)(hd:Wd d)(la:a.length≤m)(ld:d.length≤m)(d0:D0≠0):Fn 14 [qD s a d,.k (.int .i64 (k:Int))] (.t [cO (EG x D0 k) k (XU x D0 k) 0,e0]):=by
 have lx:x.natAbs<B^m:=hx▸dD (s:=s) ha la;have hbd:∀y:Int,y.natAbs<B^m→((y*2^k).fdiv (D0:Int)).natAbs<B^(m+16384):=fun y hy=>by
  have hb:(y*2^k).natAbs<B^(m+16384):=by
   rw[Int.natAbs_mul,Int.natAbs_pow];exact zy hy hk
  rw[Int.fdiv_eq_ediv_of_nonneg _ om];have:=Int.natAbs_ediv_le_natAbs (y*2^k) (D0:Int);omega
 have b1:=hbd x lx;have b2:=hbd (-x) (by rw[Int.natAbs_neg];exact lx);have h1:=G5 hk (m:=m) om hx hD ha hd la ld d0;have h2:=X0 hk (m:=m) om hx hD ha hd la ld d0;have e:decide (cz ((x*2^k).fdiv (D0:Int)) (-((-x*2^k).fdiv (D0:Int)))=0)=XU x D0 k:=by
  unfold XU EG;have:=XT (x*2^k) d0;rw[Int.neg_mul];exact decide_eq_decide.2 (by rw[cz_0];exact iff_of_eq this)
 rw[show(x*2^k).fdiv (D0:Int)=EG x D0 k from rfl]at b1 h1 e;rw[←Int.natAbs_neg]at b2;have h3:=Y2 (dJ (EG x D0 k)) (az _) (BM b1 om) (dJ (-((-x*2^k).fdiv (D0:Int)))) (az _) (BM b2 om);rw[←e];generalize -((-x*2^k).fdiv (D0:Int))=y at*
 generalize EG x D0 k=z at*
 refine dI Tryz.func14 (code:=qf Tryz.f14) rfl rfl fun w ac S=>?_
 refine bK ?_;clear S;intro _ _ _ S;(refine ax S (pc (TW hD hd om d0)) ?_;clear S;intro _ _ _ S);refine bK ?_;clear S;intro _ _ _ S;refine aK S rfl (rfl) (wp_skip (bK ?_));clear S;intro _ _ _ S;(refine ax S (pc (X4 hk)) ?_;clear S;intro _ _ _ S);refine bK ?_;clear S;intro _ _ _ S;refine aK S rfl (rfl) (wp_skip (bK ?_));clear S;intro _ _ _ S;(refine ax S (pc (h1)) ?_;clear S;intro _ _ _ S);refine bK ?_;clear S;intro _ _ _ S;refine aK S rfl (rfl) (wp_skip (bK ?_));clear S;intro _ _ _ S;(refine ax S (pc (h2)) ?_;clear S;intro _ _ _ S);refine bK ?_;clear S;intro _ _ _ S;refine aK S rfl (rfl) (wp_skip ?_);(refine wp_seq (bQ 7 [_,_,_,_,_,_,_] [_,_,_,_,_,_,_] [[(8,none)],[(1,none)],[(8,none)],[(10,none)],[(46,some 2),(47,some 3)],[(48,some 4)],[(44,some 0),(45,some 1),(49,some 5)]] rfl S aX kf kf kf ⟨px,px,px,px,pc (h3),px,px,trivial⟩ ?_);clear S;intro _ _ _ S);refine bK ?_;clear S;intro _ _ _ S;exact wp_ret (iH [_] S rfl rfl ⟨⟨_,_,_,rfl,rfl,rfl⟩,rfl,trivial⟩)
end
section
variable {a:Act}{w:World}{R:Exit→Act→World→Prop}
theorem tx0(hz:a.tmps.size=45)
 (kk:∀(a':Act),kA a a' 45 2 []<|R .normal a' w):(q1 (qf Tryz.f126)).wp Tryz.prog R a w:=by
 replace kk:=pu kk
 refine rl fun gA=>?_
 go_wp2
 exact kk.down _ gZ gN rfl
theorem tx1{v:Value}{DS:List Nat}(hz:a.tmps.size=45)(h0:a.tmps.getD 0 undef=v)(h1:a.tmps.getD 1 undef= .int .i64 10)
 (cD:Calls Tryz.prog 143 #[v,.int .u64 10] w (fun e w1=>∃da dn dk,e= .returned (.tuple #[.slice da dn dk,.int .i64 0])∧Below w.heap.size w w1∧Rep0 w1 (fun q=>q<w1.heap.size) (.slice da dn dk) (.l 1 (W DS))))
 (kk:∀(a':Act) (w1:World) (da:Option Addr) (dn dk:Nat),kA a a' 45 4 [(5,.slice da dn dk)]<|Below w.heap.size w w1→Rep0 w1 (fun q=>q<w1.heap.size) (.slice da dn dk) (.l 1 (W DS))→R .normal a' w1):(q1 (qd 1 (qf Tryz.f126))).wp Tryz.prog R a w:=by
 replace kk:=pu kk
 refine rl fun gA=>?_
 go_wp2_with (go_at_call 143;refine(cD).mono ?_;rintro e w1 ⟨da,dn,dk,rfl,b1,r1⟩;skip)
 exact kk.down _ w1 da dn dk gZ gN gS rfl b1 r1
theorem tx2t{da:Option Addr}{dn dk:Nat}(hz:a.tmps.size=45)(h5:a.tmps.getD 5 undef= .slice da dn dk)
 (hl:dn=0)
 (kk:∀(a':Act),kA a a' 45 6 [(19,.bool true)]<|R .normal a' w):(q1 (q1 (qd 2 (qf Tryz.f126)))).wp Tryz.prog R a w:=rD
theorem tx2f{da:Option Addr}{dn dk:Nat}(hz:a.tmps.size=45)(h5:a.tmps.getD 5 undef= .slice da dn dk)
 (hl:¬dn=0)
 (kk:∀(a':Act),kA a a' 45 6 [(19,.bool false)]<|R .normal a' w):(q1 (q1 (qd 2 (qf Tryz.f126)))).wp Tryz.prog R a w:=rD
theorem tx3{s:ByteArray}(hz:a.tmps.size=45)
 (hg:0<w.heap.size) (hcv:(convert 157 9 (.slice (some ⟨0,0,none⟩) 1 36)).run Tryz.prog w= .ok (.string s) w)
 (kk:∀(a':Act),kA a a' 45 4 [(4,.string s)]<|R .normal a' w):(q1 (qt (q2 (q1 (qd 2 (qf Tryz.f126)))))).wp Tryz.prog R a w:=rD
theorem tx4{da:Option Addr}{dk:Nat}(hz:a.tmps.size=45)(h5:a.tmps.getD 5 undef= .slice da 1 dk)
 (hmk:(Instr.makeSlice 157 (.int .i64 1) (.int .i64 1)).run Tryz.prog w= .ok (.slice (some ⟨w.heap.size,0,none⟩) 1 1) (w.alloc (.cells #[.int .u8 0] 5)))
 (kk:∀(a':Act),kA a a' 45 7 [(7,.slice (some ⟨w.heap.size,0,none⟩) 1 1)]<|R .normal a' (w.alloc (.cells #[.int .u8 0] 5))):(q1 (qd 3 (qf Tryz.f126))).wp Tryz.prog R a w:=rD
theorem tx5{da:Option Addr}{dk:Nat}(hz:a.tmps.size=45)(h5:a.tmps.getD 5 undef= .slice da 1 dk)
 (kk:∀(a':Act),kA a a' 45 8 [(25,.slice da 1 dk),(26,.int .i64 1),(27,.int .i64 0)]<|R .normal a' w):(q1 (q1 (qd 4 (qf Tryz.f126)))).wp Tryz.prog R a w:=ZC
theorem tx6t(hz:a.tmps.size=45)(h26:a.tmps.getD 26 undef= .int .i64 1)(h27:a.tmps.getD 27 undef= .int .i64 0)
 (kk:∀(a':Act),kA a a' 45 28 [(28,.bool true)]<|R .normal a' w):(q1 (ql (qb (q2 (q1 (qd 4 (qf Tryz.f126))))))).wp Tryz.prog R a w:=rD
theorem tx6f(hz:a.tmps.size=45)(h26:a.tmps.getD 26 undef= .int .i64 1)(h27:a.tmps.getD 27 undef= .int .i64 1)
 (kk:∀(a':Act),kA a a' 45 28 [(28,.bool false)]<|R .normal a' w):(q1 (ql (qb (q2 (q1 (qd 4 (qf Tryz.f126))))))).wp Tryz.prog R a w:=rD
theorem tx7{x:Int}{b of dk:Nat}(hz:a.tmps.size=45)(h25:a.tmps.getD 25 undef= .slice (some ⟨b,of,none⟩) 1 dk)(h27:a.tmps.getD 27 undef= .int .i64 0)
 (c0:w.cell? ⟨b,of,none⟩=some (.int .u64 x))
 (kk:∀(a':Act),a'.tmps.size=45→(∀t,t<28→t≠8→t≠9→a'.tmps.getD t undef=a.tmps.getD t undef)→a'.tmps.getD 8 undef= .int .i64 0→a'.tmps.getD 9 undef= .int .u64 x→a'.defers=a.defers→R .normal a' w):(q1 (qb (q1 (qd 2 (ql (qb (q2 (q1 (qd 4 (qf Tryz.f126)))))))))).wp Tryz.prog R a w:=rW2
theorem tx8{x y:Nat}{b:Nat}{da:Option Addr}{dk:Nat}(hz:a.tmps.size=45)(h5:a.tmps.getD 5 undef= .slice da 1 dk)(h7:a.tmps.getD 7 undef= .slice (some ⟨b,0,none⟩) 1 1)(h8:a.tmps.getD 8 undef= .int .i64 0)(h9:a.tmps.getD 9 undef= .int .u64 (x:Int))
 (hx:x<36) (c0:w.cell? ⟨0,x,none⟩=some (.int .u8 (y:Int))) (hb:w.cell? ⟨b,0,none⟩=some (.int .u8 0)) (hfz:w.frozen? ⟨b,0,none⟩=false)
 (kk:∀(a':Act),kA a a' 45 28 []<|R .normal a' (w.setCell ⟨b,0,none⟩ (.int .u8 (y:Int)))):(q2 (qb (q1 (qd 2 (ql (qb (q2 (q1 (qd 4 (qf Tryz.f126)))))))))).wp Tryz.prog R a w:=by
 replace kk:=pu kk
 refine rl fun gA=>?_
 go_wp2
 exact kk.down _ gZ gN rfl
theorem tx9(hz:a.tmps.size=45)(h27:a.tmps.getD 27 undef= .int .i64 0)
 (kk:∀(a':Act),kA a a' 45 27 [(27,.int .i64 1)]<|R .normal a' w):(q2 (qd 2 (ql (qb (q2 (q1 (qd 4 (qf Tryz.f126)))))))).wp Tryz.prog R a w:=rD
theorem tx10{s:ByteArray}{b:Nat}(hz:a.tmps.size=45)(h7:a.tmps.getD 7 undef= .slice (some ⟨b,0,none⟩) 1 1)
 (hcv:(convert 157 9 (.slice (some ⟨b,0,none⟩) 1 1)).run Tryz.prog w= .ok (.string s) w)
 (kk:∀(a':Act),kA a a' 45 4 [(4,.string s)]<|R .normal a' w):(q1 (qd 5 (qf Tryz.f126))).wp Tryz.prog R a w:=rD
end
def JU(n:Nat):ByteArray:=⟨#[UInt8.ofNat (n+48)]⟩
theorem G6{w:World}{b dk n:Nat}(h:w.cell? ⟨b,0,none⟩=some (.int .u8 ((n:Int)+48)))(hn:n<10):(convert 157 9 (.slice (some ⟨b,0,none⟩) 1 dk)).run Tryz.prog w= .ok (.string (JU n)) w:=by
 have:=run_convert_bytes_arg (P:=Tryz.prog) w 157 5 kf kf b 0 1 dk [(n:Int)+48] rfl (fun i hi=>by
  obtain rfl:i=0:=om;exact h) 9 kf
 rw[this];congr 2
theorem dg10{n:Nat}(h:n<10):dg 10 n=if n=0 then[]else[n]:=by
 rcases(by omega:n=0∨n=1∨n=2∨n=3∨n=4∨n=5∨n=6∨n=7∨n=8∨n=9)with h|h|h|h|h|h|h|h|h|h<;>subst h<;>decide+kernel
theorem Uf{w:World}{v:Value}{n:Nat}(hr:Rep0 w (fun q=>q<w.heap.size) v (.l 1 (W (dg B n))))(hn:n<10):Calls Tryz.prog 143 #[v,.int .u64 10] w (fun e w1=>∃da dn dk,e= .returned (.tuple #[.slice da dn dk,.int .i64 0])∧Below w.heap.size w w1∧Rep0 w1 (fun q=>q<w1.heap.size) (.slice da dn dk) (.l 1 (W (if n=0 then[]else[n])))):=by
 have h:=LQ (dg B n) 10 (az _) dc (by have:=bC (show n<B^1 from Nat.lt_trans hn dc);omega);rw[aS,show dgD n 10=dg 10 n from rfl,dg10 hn,show dgE 10=0 from rfl]at h;refine((h.Vf rfl) w _ [v,.int .u64 10] trivial (NI _ _) (fun q h=>h) (NQ hr (.i _ _))).mono ?_;rintro e w' ⟨u,rfl,hB,NN,hN,h⟩;rcases h with h|⟨e,sz,cs,n,xs,he,_⟩|⟨r,h,_⟩
 ·obtain⟨vs,rfl,hv⟩:=(Rep.up (ov:=fun _=>none) h).O6;match vs,hv with
  |[],hv=>exact absurd hv.1 sy
  |[_],hv=>exact absurd hv.1 sy
  |_::_::_::_,hv=>exact absurd hv.1 sy
  |[p,q],hv=>
   have h1:=hv.2 0 p _ rfl rfl;have h2:=(Rep.up (ov:=fun _=>none) (hv.2 1 q _ rfl rfl)).bP;subst h2;obtain⟨a,m,c,rfl⟩:=mP h1;exact⟨a,m,c,rfl,hB,h1.mono (fun q hq=>hq.elim (fun h=>Nat.lt_of_lt_of_le h hB.size) fun h=>(hN q h).2) fun _ _=>rfl⟩
 ·cases he
 ·cases h
theorem Ug{w:World}{v:Value}{n:Nat}(hJ:Jw w)(hr:Rep0 w (fun q=>q<w.heap.size) v (.l 1 (W (dg B n))))(hn:n<10):Calls Tryz.prog 126 #[v,.int .i64 10] w (fun e w'=>e= .returned (.string (JU n))∧Below w.heap.size w w'):=by
 refine dm (vs:=[v,.int .i64 10]) Tryz.func126 (c:=qf Tryz.f126) rfl (by show 2≤_;decide) fun a0 z0 e0 d0=>?_
 have i0:a0.tmps.getD 0 undef=v:=e0 0 (by show 0<2;decide);have i1:a0.tmps.getD 1 undef= .int .i64 10:=e0 1 (by show 1<2;decide);change a0.tmps.size=45 at z0;have fin:∀(a:Act) (w':World),a.defers=[]→a.tmps.getD 4 undef= .string (JU n)→Below w.heap.size w w'→bodyPost Tryz.prog Tryz.f126 (fun e w'=>e= .returned (.string (JU n))∧Below w.heap.size w w') .ret a w':=fun a w' hd h4 hB=>⟨hd,_,results_tmp rfl _ _ _,by rw[h4],hB⟩
 refine wp_seq ?_;refine tx0 z0 fun a1 z1 s1 d1=>?_
 refine wp_seq ?_;refine tx1 z1 ((s1 0 dc).trans i0) ((s1 1 dc).trans i1) (Uf hr hn) fun a2 w2 da dn dk z2 s2 h5 d2 B2 r2=>?_
 obtain⟨ad,m,cap,f,b,o,he,hsz,hl,hm,hcp,ha,hc,hrr⟩:=r2.nZ;cases he;have hJ2:=hJ.up B2;refine wp_seq ?_;refine wp_seq ?_;by_cases h0:n=0
 ·subst h0;refine tx2t z2 h5 (by simpa[W]using hl.symm) fun a3 z3 s3 h19 d3=>?_
  refine wp_cond_true (by rw[ak,h19]) ?_;refine wp_seq ?_;refine tx3 z3 hJ2.2.1 (G6 (n:=0) (hJ2.2.2 0 dc) dc) fun a4 z4 s4 h4 d4=>?_
  exact wp_ret (fin a4 w2 (d4.trans (d3.trans (d2.trans (d1.trans d0)))) h4 B2)
 ·rw[if_neg h0]at hl ha hc hrr;obtain rfl:dn=1:=by simpa[W]using hl.symm
  refine tx2f z2 h5 dc fun a3 z3 s3 h19 d3=>?_
  refine wp_cond_false (by rw[ak,h19]) ?_;refine wp_skip ?_;rcases ha with ha|⟨rfl,_⟩
  ·simp[W]at ha
  have c0:w2.cell? ⟨b,o,none⟩=some (.int .u64 (n:Int)):=by
   have h1:=hc 0 (by simp[W]);have h2:=(Rep.up (ov:=fun _=>none) (hrr 0 (.i .u64 (n:Int)) rfl)).bP;rw[h2]at h1;exact h1
  have j5:=(s3 5 dc).trans h5;refine wp_seq ?_;have hmk:(Instr.makeSlice 157 (.int .i64 1) (.int .i64 1)).run Tryz.prog w2= .ok (.slice (some ⟨w2.heap.size,0,none⟩) 1 1) (w2.alloc (.cells #[.int .u8 0] 5)):=by
   obtain⟨i,hi⟩:∃i,Tryz.prog.info? 5=some i:=⟨_,rfl⟩;have h1:(Tryz.prog.info? 5).map (fun i=>(i.zero,i.size,i.bytes))=some (some (.int .u8 0),1,1):=by kernel_rfl
   rw[hi]at h1;simp only[Option.map_some,Option.some.injEq,Prod.mk.injEq]at h1;have:=run_make (P:=Tryz.prog) w2 157 5 i (.int .u8 0) kf hi h1.1 .i64 .i64 1 1 dc dc (by rw[h1.2.2];decide) dc;rw[h1.2.1,show madeCells (Value.int .u8 0).cells ((1:Int).toNat*1)=#[Value.int .u8 0]from by kernel_rfl]at this;exact this
  refine tx4 z3 j5 hmk fun a4 z4 s4 h7 d4=>?_
  have B4:=jG w2 (.cells #[.int .u8 0] 5);have hb4:=heap_alloc_new w2 (.cells #[.int .u8 0] 5);have hJ4:=hJ2.up B4;have k5:=(s4 5 dc).trans j5;refine wp_seq ?_;refine wp_seq ?_;refine tx5 z4 k5 fun a5 z5 s5 h25 h26 h27 d5=>?_
  refine wp_block ?_;refine wp_loop_rounds 2 ?_;refine wp_seq ?_;refine tx6t z5 h26 h27 fun a6 z6 s6 h28 d6=>?_
  refine wp_seq ?_;refine wp_cond_true (by rw[ak,h28]) ?_;refine wp_skip ?_;refine wp_seq ?_;refine wp_block ?_;refine wp_seq ?_;have hbl:b<w2.heap.size:=World.block_lt_of_cell? _ _ c0;have e6:∀t,t<8→a6.tmps.getD t undef=a4.tmps.getD t undef:=fun t ht=>(s6 t om).trans (s5 t ht)
  refine tx7 z6 ((s6 25 dc).trans h25) ((s6 27 dc).trans h27) ((aN (B4.block b hbl)).trans c0) fun a7 z7 s7 h8 h9 d7=>?_
  have hsig:=hJ4.2.2 n hn;have hbx:=cell_of_row _ _ 0 _ _ _ hb4;have e7:∀t,t<8→a7.tmps.getD t undef=a4.tmps.getD t undef:=fun t ht=>(s7 t om om om).trans (e6 t ht)
  refine tx8 (y:=n+48) z7 ((e7 5 dc).trans k5) ((e7 7 dc).trans h7) h8 h9 om (by rw[hsig];rfl) hbx (frozen_of_row _ _ 0 _ _ hb4) fun a8 z8 s8 d8=>?_
  have o8:∀t,t<28→t≠8→t≠9→a8.tmps.getD t undef=a5.tmps.getD t undef:=fun t ht h1 h2=>(s8 t ht).trans ((s7 t ht h1 h2).trans (s6 t ht))
  refine tx9 z8 ((o8 27 dc dc dc).trans h27) fun a9 z9 s9 h27' d9=>?_
  refine wp_seq ?_;refine tx6f z9 ((s9 26 dc).trans ((o8 26 dc dc dc).trans h26)) h27' fun a10 z10 s10 h28' d10=>?_
  refine wp_seq ?_;refine wp_cond_false (by rw[ak,h28']) ?_;refine wp_exit ?_;have g10:=heap_setCell_same (w2.alloc (.cells #[.int .u8 0] 5)) w2.heap.size 0 _ _ (.int .u8 ((n+48:Nat):Int)) hb4;refine wp_seq ?_;refine tx10 (b:=w2.heap.size) z10 ((s10 7 dc).trans ((s9 7 dc).trans ((s8 7 dc).trans ((e7 7 dc).trans h7)))) (G6 (n:=n) (cell_of_row _ _ 0 _ _ _ g10) hn) fun a11 z11 s11 h4 d11=>?_
  refine wp_ret (fin a11 _ (d11.trans (d10.trans (d9.trans (d8.trans (d7.trans (d6.trans (d5.trans (d4.trans (d3.trans (d2.trans (d1.trans d0))))))))))) h4 ?_);have b4:=bU B2 B4;exact⟨b4.os,b4.tape,b4.output,by rw[World.size_setCell];exact b4.size,fun q hq=>(heap_setCell_other _ _ q _ (by have:=B2.size;show q≠w2.heap.size;omega)).trans (b4.block q hq)⟩
section
variable {s:Bool} {a d:List Nat} {x:Int} {m k D0 n:Nat} {p:Bool}
theorem f_text(hn:n<10):Fn 126 [.rd (dg B n),.k (.int .i64 10)] (.k (.string (JU n))):=fn_k fun w vs hj h=>match vs,h with
 |[u,v],h=>by
  have e:v= .int .i64 10:=h.2.1;subst e;exact Ug hj (EN h.1) hn
theorem Uh(hn:n<10):Fn 96 [.rd (dg B n)] (.k (.string (JU n))):=by
 have h:=f_text hn;generalize JU n=t at*
 refine dI Tryz.func96 (code:=qf Tryz.f96) rfl rfl fun w ac S=>?_
 refine bK ?_;clear S;intro _ _ _ S;(refine ax S (pc (h)) ?_;clear S;intro _ _ _ S);refine bK ?_;clear S;intro _ _ _ S;exact wp_ret (kW [] S rfl rfl)
theorem f_zprN(hx:zv s a= -(n:Int))(h0:0<n)(hn:n<10)(ha:Wd a)(la:a.length≤100000000):Fn 95 [iD s a] (.k (.string (⟨#[45]⟩++JU n))):=by
 have h:=Uh hn;have h2:=yg hx ha la;rw[show iO (-(n:Int)) 0= .g [.k (.bool true),.ow (dg B n) 0]from by show Δ.g [.k (.bool (decide (-(n:Int)<0))),.ow (dg B (-(n:Int)).natAbs) 0]=_;rw[decide_eq_true om,show(-(n:Int)).natAbs=n from om]]at h2;refine dI Tryz.func95 (code:=qf Tryz.f95) rfl rfl fun w ac S=>?_
 refine bK ?_;clear S;intro _ _ _ S;(refine ax S (pc (h2)) ?_;clear S;intro _ _ _ S);refine bK ?_;clear S;intro _ _ _ S;refine aW S rfl (rfl) (bK ?_);clear S;intro _ _ _ S;(refine ax S (pc (h)) ?_;clear S;intro _ _ _ S);refine bK ?_;clear S;intro _ _ _ S;exact wp_ret (kW [] S rfl rfl)
theorem f_zprP(hx:zv s a=(n:Int))(hn:n<10)(ha:Wd a)(la:a.length≤100000000):Fn 95 [iD s a] (.k (.string (JU n))):=by
 have h:=Uh hn;have h2:=yg hx ha la;rw[show iO (n:Int) 0= .g [.k (.bool false),.ow (dg B n) 0]from by show Δ.g [.k (.bool (decide ((n:Int)<0))),.ow (dg B ((n:Int)).natAbs) 0]=_;rw[decide_eq_false om,show((n:Int)).natAbs=n from om]]at h2;refine dI Tryz.func95 (code:=qf Tryz.f95) rfl rfl fun w ac S=>?_
 refine bK ?_;clear S;intro _ _ _ S;(refine ax S (pc (h2)) ?_;clear S;intro _ _ _ S);refine bK ?_;clear S;intro _ _ _ S;refine aK S rfl (rfl) (wp_skip (bK ?_));clear S;intro _ _ _ S;(refine ax S (pc (h)) ?_;clear S;intro _ _ _ S);refine bK ?_;clear S;intro _ _ _ S;exact wp_ret (kW [] S rfl rfl)
theorem Lu(hm:m≤100000000)(hx:zv s a=x)(hD:nv B d=D0)(ha:Wd a)(hd:Wd d)(la:a.length≤m)(ld:d.length≤m)(d0:D0≠0):Fn 94 [qD s a d] (.t [qO (rz x D0) (dC x D0) 0 1,e0]):=by
 refine dI Tryz.func94 (code:=qf Tryz.f94) rfl rfl fun w ac S=>?_
 refine bK ?_;clear S;intro _ _ _ S;(refine ax S (pc (TW hD hd om d0)) ?_;clear S;intro _ _ _ S);refine bK ?_;clear S;intro _ _ _ S;refine aK S rfl (rfl) (wp_skip (bK ?_));clear S;intro _ _ _ S;(refine ax S (pc (GZ hm hx hD ha la hd ld d0)) ?_;clear S;intro _ _ _ S);refine bK ?_;clear S;intro _ _ _ S;exact wp_ret (iH [_,_] S rfl rfl ⟨⟨_,_,_,rfl,rfl,rfl⟩,rfl,trivial⟩)
theorem Bv{n:Nat}(h:n<10):(dg B n).length≤1:=bC (Nat.lt_trans h dc)
theorem f_qpr1:Fn 62 [qD true (dg B 1) (dg B 2)] (.t [.k (.string ((⟨#[45]⟩++JU 1)++(⟨#[47]⟩++JU 2))),e0]):=by
 have l1:=Bv (n:=1) dc;have l2:=Bv (n:=2) dc;have l1':(dg B (-1:Int).natAbs).length≤1:=l1;have h:=Lu (m:=1) dc (dJ (-1)) (aS 2) (az _) (az _) l1' l2 dc;rw[show rz (-1) 2= -1 from dc,show dC (-1) 2=2 from dc]at h;have h2:=f_zprN (n:=1) (dJ (-1)) dc dc (az _) om;have h3:=JE (az 2) om;rw[aS,show bl 2=2 from by decide+kernel]at h3;have h4:=Uh (n:=2) dc;refine dI Tryz.func62 (code:=qf Tryz.f62) rfl rfl fun w ac S=>?_
 refine bK ?_;clear S;intro _ _ _ S;(refine ax S (pc (h)) ?_;clear S;intro _ _ _ S);refine bK ?_;clear S;intro _ _ _ S;refine aK S rfl (rfl) (wp_skip (bK ?_));clear S;intro _ _ _ S;(refine ax S (pc (h2)) ?_;clear S;intro _ _ _ S);refine bK ?_;clear S;intro _ _ _ S;(refine ax S (pc (h3)) ?_;clear S;intro _ _ _ S);refine bK ?_;clear S;intro _ _ _ S;refine aW S rfl rfl (wp_region_lit (bK ?_));clear S;intro _ _ _ S;(refine ax S (pc (h4)) ?_;clear S;intro _ _ _ S);refine bK ?_;clear S;intro _ _ _ S;exact wp_ret (iH [] S rfl rfl ⟨rfl,rfl,trivial⟩)
theorem f_qpr0:Fn 62 [qD false (dg B 0) (dg B 1)] (.t [.k (.string (JU 0)),e0]):=by
 have l1:=Bv (n:=0) dc;have l2:=Bv (n:=1) dc;have l1':(dg B (0:Int).natAbs).length≤1:=l1;have h:=Lu (m:=1) dc (dJ 0) (aS 1) (az _) (az _) l1' l2 dc;rw[show rz 0 1=0 from dc,show dC 0 1=1 from dc]at h;have h2:=f_zprP (n:=0) (dJ 0) dc (az _) om;have h3:=JE (az 1) om;rw[aS,show bl 1=1 from by decide+kernel]at h3;refine dI Tryz.func62 (code:=qf Tryz.f62) rfl rfl fun w ac S=>?_
 refine bK ?_;clear S;intro _ _ _ S;(refine ax S (pc (h)) ?_;clear S;intro _ _ _ S);refine bK ?_;clear S;intro _ _ _ S;refine aK S rfl (rfl) (wp_skip (bK ?_));clear S;intro _ _ _ S;(refine ax S (pc (h2)) ?_;clear S;intro _ _ _ S);refine bK ?_;clear S;intro _ _ _ S;(refine ax S (pc (h3)) ?_;clear S;intro _ _ _ S);refine bK ?_;clear S;intro _ _ _ S;refine aK S rfl (rfl) (wp_skip (bK ?_));clear S;intro _ _ _ S;exact wp_ret (iH [] S rfl rfl ⟨rfl,rfl,trivial⟩)
def txt:ByteArray:=⟨#[40,45,49,47,50,44,32,48,41]⟩
theorem f_cpr:Fn 28 [cD true (dg B 1) 1 false] (.t [.k (.string txt),e0]):=by
 have l1:=Bv (n:=1) dc;have h:=Bo (m:=16385) (k:=1) dc dc dc (dJ (-1)) (az _) (Nat.le_trans l1 dc);rw[show rz (-1) (2^1)= -1 from dc,show dC (-1) (2^1)=2 from dc,show rz (-1+1) (2^1)=0 from dc,show dC (-1+1) (2^1)=1 from dc]at h;have h1:=f_qpr1;have h2:=f_qpr0;have et:(⟨#[40]⟩++((⟨#[45]⟩++JU 1)++(⟨#[47]⟩++JU 2))++⟨#[44,32]⟩++JU 0++⟨#[41]⟩:ByteArray)=txt:=by decide+kernel
 rw[←et];clear et;refine dI Tryz.func28 (code:=qf Tryz.f28) rfl rfl fun w ac S=>?_
 refine bK ?_;clear S;intro _ _ _ S;(refine ax S (pc (h)) ?_;clear S;intro _ _ _ S);refine bK ?_;clear S;intro _ _ _ S;refine aK S rfl (rfl) (wp_skip (bK ?_));clear S;intro _ _ _ S;(refine ax S (pc (h1)) ?_;clear S;intro _ _ _ S);refine bK ?_;clear S;intro _ _ _ S;refine aK S rfl (rfl) (wp_skip (bK ?_));clear S;intro _ _ _ S;(refine ax S (pc (h2)) ?_;clear S;intro _ _ _ S);refine bK ?_;clear S;intro _ _ _ S;exact wp_ret (iH [] S rfl rfl ⟨rfl,rfl,trivial⟩)
theorem X5:Fn 4 [] (.k (.bool true)):=by
 have l1:=Bv (n:=1) dc;have p1:=Ee 1 3 dc dc dc dc;rw[show rz 1 3=1 from by decide+kernel,show dC 1 3=3 from by decide+kernel]at p1;replace p1:ah Tryz.prog J0 6 [.i .i64 1,.i .i64 3] (.g [.b false,.l 1 (W (dg B 1)),.l 1 (W (dg B 3))]):=p1;have o1:=Zf (m:=1) (k:=2) dc dc (dJ 1) (aS 3) (az _) (az _) l1 (Bv dc) dc;rw[show EG 1 3 2=1 from by decide+kernel,show XU 1 3 2=false from by decide+kernel]at o1;have z1:=yZ (-1) dc dc;replace z1:ah Tryz.prog J0 29 [.i .i64 (-1)] (.g [.b true,.l 1 (W (dg B 1))]):=z1;have z2:=yZ 1 dc dc;replace z2:ah Tryz.prog J0 29 [.i .i64 1] (.g [.b false,.l 1 (W (dg B 1))]):=z2;have t1:=f_cpr;have s1:=sS false (dg B 1) 2 false om;refine dI Tryz.func4 (code:=qf Tryz.f4) rfl rfl fun w ac S=>?_
 refine bK ?_;clear S;intro _ _ _ S;(refine ax S (pf (d:= .g [.k (.bool false),.rd (dg B 1),.rd (dg B 3)]) p1) ?_;clear S;intro _ _ _ S);(refine ax S (pc (o1)) ?_;clear S;intro _ _ _ S);refine bK ?_;clear S;intro _ _ _ S;(refine ax S (pf (d:= .g [.k (.bool true),.rd (dg B 1)]) z1) ?_;clear S;intro _ _ _ S);refine bK ?_;clear S;intro _ _ _ S;(refine ax S (pc (t1)) ?_;clear S;intro _ _ _ S);refine bK ?_;clear S;intro _ _ _ S;(refine wp_seq (yJ 17 [.v _ _,.v _ _,.v _ _,.v _ _,.v _ _,.v _ _,.v _ _,.v _ _,.v _ _,.v _ _,.v _ _,.v _ _,.v _ _,.v _ _,.v _ _,.v _ _,.v _ _] [[(2,none)],[(16,some 0)],[(17,some 1)],[(4,none)],[(19,some 3)],[(18,some 2),(20,some 4)],[(21,some 5)],[(1,none)],[],[(24,some 8)],[(23,some 7),(25,some 9)],[(22,some 6),(26,some 10)],[(27,some 11)],[(3,none)],[(29,some 13)],[(28,some 12),(30,some 14)],[(31,some 15)]] rfl S aX kf kf ⟨px,px,px,px,px,px,px,px,pf (d:= .g [.k (.bool false),.rd (dg B 1)]) z2,px,pf (d:= .k (.bool true)) s1,px,px,px,px,px,px,trivial⟩ kf kf ?_);intro _ _ _ S);exact wp_ret (kW [] S rfl rfl)
end
section
variable {s:Bool} {a:List Nat} {x:Int} {m k:Nat}
abbrev rQ0(p:Rat)(t u:Nat):Δ:=qO p.num p.den t u
theorem X6(hm:m≤40000000)(hm1:16385≤m)(hk:k≤1048576)(hx:zv s a=x)(ha:Wd a)(la:a.length≤m):Fn 11 [cD s a k false] (.t [rQ0 (aU x k) 0 1,rQ0 (aU (x+1) k) 2 3,e0]):=by
 have h:=Bo hm hm1 hk hx ha la;rw[qW (fH k),qX (fH k),qW (fH k),qX (fH k)]at h;exact h
theorem X7(hm:m≤40000000)(hm1:16385≤m)(hk:k≤1048576)(hx:zv s a=x)(ha:Wd a)(la:a.length≤m):Fn 11 [cD s a k true] (.t [rQ0 (aU x k) 0 1,rQ0 (aU x k) 2 3,e0]):=by
 have h:=Uc hm hm1 hk hx ha la;rw[qW (fH k),qX (fH k)]at h;exact h
theorem mk_red{z:Int}{d:Nat}(h:d≠0)(n:Nat)(hn:n≠0):mkRat (rz z d) (dC z d*n)=mkRat z (d*n):=by
 have h1:mkRat (rz z d) (dC z d)=mkRat z d:=by rw[qW h,qX h];exact Rat.mkRat_self _
 have hr:=nJ (z:=z) h;rw[Rat.mkRat_eq_iff hr h]at h1;rw[Rat.mkRat_eq_iff (Nat.mul_ne_zero hr hn) (Nat.mul_ne_zero h hn)];rw[Int.natCast_mul,Int.natCast_mul,←Int.mul_assoc,←Int.mul_assoc,h1]
theorem midc_R(hm:m≤30000000)(hm1:16385≤m)(hk:k≤1048576)(hx:zv s a=x)(ha:Wd a)(la:a.length≤m):Fn 12 [cD s a k false] (.t [rQ0 ((aU x k+aU (x+1) k)/2) 0 1,e0]):=by
 have h:=fc_mid hm hm1 hk hx ha la;have c3:=nJ (z:=x) (fH k);have c4:=nJ (z:=x+1) (fH k);have hp:mkRat (rz x (2^k)) (dC x (2^k))=aU x k:=by rw[qW (fH k),qX (fH k)];exact Rat.mkRat_self _
 have hq:mkRat (rz (x+1) (2^k)) (dC (x+1) (2^k))=aU (x+1) k:=by rw[qW (fH k),qX (fH k)];exact Rat.mkRat_self _
 rw[←hp,←hq];generalize rz x (2^k)=Z at*
 generalize rz (x+1) (2^k)=W at*
 generalize dC x (2^k)=D0 at*
 generalize dC (x+1) (2^k)=E0 at*
 have h0:=Nat.mul_ne_zero c3 c4;have h2:dC (Z*E0+W*D0) (D0*E0)*2≠0:=Nat.mul_ne_zero (nJ h0) dc;have e:mkRat (rz (Z*E0+W*D0) (D0*E0)) (dC (Z*E0+W*D0) (D0*E0)*2)=(mkRat Z D0+mkRat W E0)/2:=(mk_red h0 2 dc).trans (mk_mid Z W c3 c4);rw[show hz Z W D0 E0=((mkRat Z D0+mkRat W E0)/2).num from by unfold hz;rw[qW h2,e],show hd Z W D0 E0=((mkRat Z D0+mkRat W E0)/2).den from by unfold hd;rw[qX h2,e]]at h;exact h
end
section
variable {w0:World} {q2 q3 q6 q7 qb k:Nat} {s t:Bool} {a b d:List Nat} {x y:Int} {D0:Nat} {Z:Nat→Prop}
def Oi(x:Int)(k:Nat)(y:Int)(D0:Nat):Bs:=[(5,27,[.k (.bool (decide (x<0))),.ow (dg B (x).natAbs) 4,.k (.int .i64 ((k:Nat):Int)),.k (.bool false)]),(14,27,[.k (.bool (decide (x*2<0))),.ow (dg B (x*2).natAbs) 32,.k (.int .i64 ((k+1:Nat):Int)),.k (.bool false)]),(15,27,[.k (.bool (decide (x*2+1<0))),.ow (dg B (x*2+1).natAbs) 33,.k (.int .i64 ((k+1:Nat):Int)),.k (.bool true)]),(16,27,[.k (.bool (decide (x*2+1<0))),.ow (dg B (x*2+1).natAbs) 34,.k (.int .i64 ((k+1:Nat):Int)),.k (.bool false)]),(24,29,[.k (.bool (decide ((aU x k).num<0))),.ow (dg B (aU x k).num.natAbs) 76,.ow (dg B (aU x k).den) 77]),(25,29,[.k (.bool (decide ((aU (x+1) k).num<0))),.ow (dg B (aU (x+1) k).num.natAbs) 78,.ow (dg B (aU (x+1) k).den) 79]),(32,29,[.k (.bool (decide (((aU x k+aU (x+1) k)/2).num<0))),.ow (dg B ((aU x k+aU (x+1) k)/2).num.natAbs) 112,.ow (dg B ((aU x k+aU (x+1) k)/2).den) 113]),(44,27,[.k (.bool (decide (x.fdiv 2<0))),.ow (dg B (x.fdiv 2).natAbs) 160,.k (.int .i64 ((k:Nat):Int)),.k (.bool false)]),(51,27,[.k (.bool (decide (EG y D0 7<0))),.ow (dg B (EG y D0 7).natAbs) 188,.k (.int .i64 ((7:Nat):Int)),.k (.bool (XU y D0 7))]),(63,29,[.k (.bool (decide ((aU x k).num<0))),.ow (dg B (aU x k).num.natAbs) 232,.ow (dg B (aU x k).den) 233]),(64,29,[.k (.bool (decide ((aU x k).num<0))),.ow (dg B (aU x k).num.natAbs) 234,.ow (dg B (aU x k).den) 235])]
def Oj(q2 q3 qb:Nat):En:=[(2,(.k (.pointer (some ⟨q2,0,none⟩)))),(3,(.k (.pointer (some ⟨q3,0,none⟩)))),(5,(.k (.pointer (some ⟨qb,0,none⟩)))),(8,.p 5 0),(10,.p 14 0),(11,.p 15 0),(12,.p 16 0),(14,.p 24 0),(15,.p 25 0),(17,.p 32 0),(19,.p 44 0),(21,.p 51 0),(23,.p 63 0),(24,.p 64 0)]
theorem law_2{γ:Gh}{ac:Act}{w:World}{Q:Exit→Act→World→Prop}{Ξ:World→Prop}(hk:k<100)(hx:zv s a=x)(ha:Wd a)(la:a.length≤1048576)(hy:zv t b=y)(hb:Wd b)(lb:b.length≤1048576)(hD:nv B d=D0)(hd:Wd d)(ld:d.length≤1048576)(d0:D0≠0)
 (h2:Old w0 q2 [.k (.bool s),.rz Z a,.k (.int .i64 (k:Int)),.k (.bool false)]) (h3:Old w0 q3 [.k (.bool t),.rz Z b,.rz Z d])
 (hZ:∀q,Z q→q<w0.heap.size) (hz2:¬Z q2) (hg1:¬Z 1) (hg2:¬Z 0)
 (hscr:∀w,Below w0.heap.size w0 w→Calls Tryz.prog 21 #[.pointer (some ⟨qb,0,none⟩)] w (fun e w'=>e= .returned (.tuple #[])∧aI w Z w'∧Ξ w'))
 (kk:∀(w1:World) (γ':Gh) (a':Act) (w':World),Ξ w1→(∀g,g<w0.heap.size→¬Z g→w1.heap[g]? =w0.heap[g]?)→w0.heap.size≤w1.heap.size→PS (JR w0 w1) 230 169 (Oj q2 q3 qb) (Oi x k y D0) γ' a' w'→(qd 20 (qf Tryz.f3)).wp Tryz.prog Q a' w')
 (S:PS w0 230 113 (Oj q2 q3 qb) (Oi x k y D0) γ ac w):
 (qd 16 (qf Tryz.f3)).wp Tryz.prog Q ac w:=by
 have hk1:k≤1048576:=om
 have r1:=JI s a (k:Int) false ha om
 obtain⟨r2,g2⟩:=t_ s a k 1048576 false hk1 ha la dc dc
 obtain⟨r3,g3⟩:=u_ s a k 1048576 false hk1 ha la dc dc
 have r4:=GX t b d 7 1048576 dc hb hd lb ld (by rw[hD];exact d0) dc dc
 obtain⟨r5,g5⟩:=wV s a k 1048576 false hk1 ha la dc dc
 have s1:=sS (decide (x<0)) (dg B x.natAbs) (k:Int) false (by rw[←hx];exact Nat.le_trans (bC (dD (s:=s) ha la)) dc)
 have s2:=TG g2 dc
 have s3:=TG g3 dc
 have s4:=sS (decide (EG y D0 7<0)) (dg B (EG y D0 7).natAbs) ((7:Nat):Int) (XU y D0 7) (by
  obtain⟨M,hM⟩:∃M:Nat,M=1048576:=⟨_,rfl⟩;have bl:(EG y D0 7).natAbs<B^(M+16384+1):=EE (Og (by rw[←hy];exact dD (s:=t) hb om) dc);exact Nat.le_trans (bC bl) om)
 have s5:=TG g5 dc
 rw[hx]at r1 r2 r3 r5 s2 s3 s5
 rw[hy,hD]at r4
 rw[show hiN x false=x+1 from rfl]at r3 r5 s3 s5
 unfold Oj Oi at S
 (refine wp_seq (bQ 9 [_,_,_,_,_,_,_,_,_] [_,_,_,_,_,_,_,_,_] [[(2,none)],[(150,some 0)],[(2,none)],[(152,some 2)],[(2,none)],[(154,some 4)],[],[],[]] rfl S aX kf kf kf ⟨pxx,pz (ds:=[.k (.bool (decide (x<0))),.rz Z (dg B (x).natAbs),.k (.int .i64 ((k:Nat):Int)),.k (.bool false)]) (rest:=[]) r1 hZ,pxx,pz (ds:=[.k (.bool (decide ((aU x k).num<0))),.rz Z (dg B (aU x k).num.natAbs),.rz Z (dg B (aU x k).den)]) (rest:=[]) r2 hZ,pxx,pz (ds:=[.k (.bool (decide ((aU (x+1) k).num<0))),.rz Z (dg B (aU (x+1) k).num.natAbs),.rz Z (dg B (aU (x+1) k).den)]) (rest:=[]) r3 hZ,pxx,pxx,pxx,trivial⟩ ?_);clear S;intro _ _ _ S)
 refine UM ?_
 clear S
 intro _ _ _ S
 (refine ax S (pz (ds:=[.k (.bool (decide (EG y D0 7<0))),.rz Z (dg B (EG y D0 7).natAbs),.k (.int .i64 ((7:Nat):Int)),.k (.bool (XU y D0 7))]) (rest:=[.int .i64 7]) r4 hZ) ?_;clear S;intro _ _ _ S)
 refine UM ?_
 clear S
 intro _ _ _ S
 refine ps_wr (Z:=Z) (Ξ:=Ξ) [2,3,5,8,10,11,12,14,15,17,19,21,23,24,28,29,30,31] [8,10,11,12,14,15,17,19,21,23,24,28,29,30,31] S rfl (hscr _ S.W.bel) hZ hg1 hg2 ⟨trivial,trivial,trivial,trivial,trivial,trivial,trivial,trivial,trivial,trivial,trivial,trivial,trivial,trivial,trivial,trivial,trivial,trivial,trivial⟩ ⟨⟨trivial,trivial,trivial,trivial,trivial⟩,⟨trivial,trivial,trivial,trivial,trivial⟩,⟨trivial,trivial,trivial,trivial,trivial⟩,⟨trivial,trivial,trivial,trivial,trivial⟩,⟨trivial,trivial,trivial,trivial⟩,⟨trivial,trivial,trivial,trivial⟩,⟨trivial,trivial,trivial,trivial⟩,⟨trivial,trivial,trivial,trivial,trivial⟩,⟨trivial,trivial,trivial,trivial,trivial⟩,⟨trivial,trivial,trivial,trivial⟩,⟨trivial,trivial,trivial,trivial⟩,⟨trivial,rfl,trivial,trivial,trivial⟩,⟨trivial,rfl,rfl,trivial⟩,⟨trivial,rfl,rfl,trivial⟩,⟨trivial,rfl,trivial,trivial,trivial⟩,trivial⟩ rfl fun w1 hB hX hJ S'=>?_
 have hsz:=S.W.bel.size
 have hb0:∀g,g<w0.heap.size→¬Z g→w1.heap[g]? =w0.heap[g]? :=fun g hg hn=>(hB.block g (Nat.lt_of_lt_of_le hg hsz) hn).trans (S.W.bel.block g hg)
 have hle:w0.heap.size≤w1.heap.size:=Nat.le_trans hsz hB.size
 have h2:=h2.nw (w':=JR w0 w1) S.W.j ⟨trivial,rfl,trivial,trivial,trivial⟩ hz2 (fun g hg hn=>(qJ hg).trans (hb0 g hg hn)) (oL hle)
 clear S
 have S:=S'
 clear S'
 refine b_ ?_
 replace S:=S.kp 128 [(2,_),(3,_),(5,_),(8,_),(10,_),(11,_),(12,_),(14,_),(15,_),(17,_),(19,_),(21,_),(23,_),(24,_),(28,.p 119 0),(29,.p 120 0),(30,.p 121 0),(31,.p 124 0)] [(_,_),(_,_),(_,_),(_,_),(_,_),(_,_),(_,_),(_,_),(_,_),(_,_),(_,_),(119,_),(120,_),(121,_),(124,_)] [8,10,11,12,14,15,17,19,21,23,24,28,29,30,31] rfl ⟨rfl,rfl,rfl,rfl,rfl,rfl,rfl,rfl,rfl,rfl,rfl,rfl,rfl,rfl,rfl,rfl,rfl,rfl,trivial⟩ ⟨⟨_,rfl⟩,rfl,⟨_,rfl⟩,rfl,⟨_,rfl⟩,rfl,⟨_,rfl⟩,rfl,⟨_,rfl⟩,rfl,⟨_,rfl⟩,rfl,⟨_,rfl⟩,rfl,⟨_,rfl⟩,rfl,⟨_,rfl⟩,rfl,⟨_,rfl⟩,rfl,⟨_,rfl⟩,rfl,⟨_,rfl⟩,rfl,⟨_,rfl⟩,rfl,⟨_,rfl⟩,rfl,⟨_,rfl⟩,rfl,trivial⟩
 refine wp_seq ?_
 (refine wp_seq (yJ 41 (.v _ _:: .v _ _:: .v _ _:: .v _ _:: .v _ _:: .v _ _:: .v _ _:: .v _ _:: .v _ _:: .v _ _:: .v _ _:: .v _ _:: .v _ _:: .v _ _:: .v _ _:: .v _ _:: .v _ _:: .v _ _:: .v _ _:: .v _ _:: .v _ _:: .v _ _:: .v _ _:: .v _ _:: .v _ _:: .v _ _:: .v _ _:: .v _ _:: .v _ _:: .v _ _:: .v _ _:: .v _ _:: .v _ _:: .v _ _:: .v _ _:: .v _ _:: .v _ _:: .v _ _:: .v _ _:: .v _ _:: .v _ _::[]) ([(8,none)]::[(28,none)]::[(162,some 0),(163,some 1)]::[(164,some 2)]::[(165,some 3)]::[(14,none)]::[(29,none)]::[(167,some 5),(168,some 6)]::[(169,some 7)]::[(166,some 4),(170,some 8)]::[(171,some 9)]::[(15,none)]::[(30,none)]::[(173,some 11),(174,some 12)]::[(175,some 13)]::[(172,some 10),(176,some 14)]::[(177,some 15)]::[(23,none)]::[(29,none)]::[(179,some 17),(180,some 18)]::[(181,some 19)]::[(178,some 16),(182,some 20)]::[(183,some 21)]::[(24,none)]::[(29,none)]::[(185,some 23),(186,some 24)]::[(187,some 25)]::[(184,some 22),(188,some 26)]::[(189,some 27)]::[(21,none)]::[(31,none)]::[(191,some 29),(192,some 30)]::[(193,some 31)]::[(190,some 28),(194,some 32)]::[(195,some 33)]::[(17,none)]::[(2,none)]::[(198,some 36)]::[(197,some 35),(199,some 37)]::[(200,some 38)]::[(196,some 34),(201,some 39)]::[]) rfl S aX kf kf ⟨TC rfl rfl rfl,TC rfl rfl rfl,pf (d:= .k (.bool true)) s1,sO rfl,kU rfl,BJ rfl rfl rfl,BJ rfl rfl rfl,pf (d:= .k (.bool true)) s2,sO rfl,qV rfl rfl rfl,kU rfl,BJ rfl rfl rfl,BJ rfl rfl rfl,pf (d:= .k (.bool true)) s3,sO rfl,qV rfl rfl rfl,kU rfl,BJ rfl rfl rfl,BJ rfl rfl rfl,pf (d:= .k (.bool true)) s2,sO rfl,qV rfl rfl rfl,kU rfl,BJ rfl rfl rfl,BJ rfl rfl rfl,pf (d:= .k (.bool true)) s2,sO rfl,qV rfl rfl rfl,kU rfl,TC rfl rfl rfl,TC rfl rfl rfl,pf (d:= .k (.bool true)) s4,sO rfl,qV rfl rfl rfl,kU rfl,BJ rfl rfl rfl,lo_c rfl h2 rfl,pf (d:= .g [.k (.bool (decide (((aU x k+aU (x+1) k)/2).num<0))),.rd (dg B ((aU x k+aU (x+1) k)/2).num.natAbs),.rd (dg B ((aU x k+aU (x+1) k)/2).den)]) r5,pf (d:= .k (.bool true)) s5,sO rfl,qV rfl rfl rfl,trivial⟩ kf kf ?_);intro _ _ _ S)
 refine aK S rfl (rfl) (wp_skip ?_)
 replace S:=S.kp 169 [(2,_),(3,_),(5,_),(8,_),(10,_),(11,_),(12,_),(14,_),(15,_),(17,_),(19,_),(21,_),(23,_),(24,_)] [(_,_),(_,_),(_,_),(_,_),(_,_),(_,_),(_,_),(_,_),(_,_),(_,_),(_,_)] [8,10,11,12,14,15,17,19,21,23,24] rfl ⟨rfl,rfl,rfl,rfl,rfl,rfl,rfl,rfl,rfl,rfl,rfl,rfl,rfl,rfl,trivial⟩ ⟨⟨_,rfl⟩,rfl,⟨_,rfl⟩,rfl,⟨_,rfl⟩,rfl,⟨_,rfl⟩,rfl,⟨_,rfl⟩,rfl,⟨_,rfl⟩,rfl,⟨_,rfl⟩,rfl,⟨_,rfl⟩,rfl,⟨_,rfl⟩,rfl,⟨_,rfl⟩,rfl,⟨_,rfl⟩,rfl,trivial⟩
 exact kk w1 _ _ _ hX hb0 hle S
end
section
variable {w0:World} {q2 q3 q6 q7 qb k:Nat} {s t:Bool} {a b d:List Nat} {x y:Int} {D0:Nat} {Z:Nat→Prop}
theorem law_1{γ:Gh}{ac:Act}{w:World}{Q:Exit→Act→World→Prop}{Ξ:World→Prop}(hk:k<100)(hx:zv s a=x)(ha:Wd a)(la:a.length≤1048576)(hy:zv t b=y)(hb:Wd b)(lb:b.length≤1048576)(hD:nv B d=D0)(hd:Wd d)(ld:d.length≤1048576)(d0:D0≠0)
 (h2:Old w0 q2 [.k (.bool s),.rz Z a,.k (.int .i64 (k:Int)),.k (.bool false)]) (h3:Old w0 q3 [.k (.bool t),.rz Z b,.rz Z d]) (h6:Old w0 q6 [.k (.bool s),.rd a,.k (.int .i64 (k:Int)),.k (.bool false)]) (h7:Old w0 q7 [.k (.bool t),.rd b,.rd d])
 (hZ:∀q,Z q→q<w0.heap.size) (hz2:¬Z q2) (hg1:¬Z 1) (hg2:¬Z 0)
 (hscr:∀w,Below w0.heap.size w0 w→Calls Tryz.prog 21 #[.pointer (some ⟨qb,0,none⟩)] w (fun e w'=>e= .returned (.tuple #[])∧aI w Z w'∧Ξ w'))
 (kk:∀(w1:World) (γ':Gh) (a':Act) (w':World),Ξ w1→(∀g,g<w0.heap.size→¬Z g→w1.heap[g]? =w0.heap[g]?)→w0.heap.size≤w1.heap.size→PS (JR w0 w1) 230 169 (Oj q2 q3 qb) (Oi x k y D0) γ' a' w'→(qd 20 (qf Tryz.f3)).wp Tryz.prog Q a' w')
 (hsp:∀w,Below w0.heap.size w0 w→Calls Tryz.prog 16 #[.pointer (some ⟨qb,0,none⟩)] w (fun e w'=>e= .returned (.bool true)∧Below w.heap.size w w'))
 (S:PS w0 230 0 [(2,.k (.pointer (some ⟨q2,0,none⟩))),(3,.k (.pointer (some ⟨q3,0,none⟩))),(5,.k (.pointer (some ⟨qb,0,none⟩))),(6,.k (.pointer (some ⟨q6,0,none⟩))),(7,.k (.pointer (some ⟨q7,0,none⟩)))] [] γ ac w):
 (qd 7 (qf Tryz.f3)).wp Tryz.prog Q ac w:=by
 have hk1:k≤1048576:=om
 have hk2:k+1≤1048576:=om
 have c10:=Ue (m:=1048576) dc (show k<1048576 by omega) hx ha la
 have c11:=X6 (m:=1048576) dc dc hk1 hx ha la
 have c12:=midc_R (m:=1048576) dc dc hk1 hx ha la
 have c13:=fc_up (m:=1048576) (k:=k+1) dc om hk2 hx ha la
 have c14:=Zf (m:=1048576) (k:=7) dc dc hy hD hb hd lb ld d0
 have c15:=X7 (m:=1048576) dc dc hk1 hx ha la
 have c16:=JH s s a a k k 1048576 false false hk1 hk1 ha ha la la dc
 rw[show eqV false false (aU (zv s a) k) (aU (hiN (zv s a) false) k) (aU (zv s a) k) (aU (hiN (zv s a) false) k)=true from by unfold eqV;simp[Y9]]at c16
 refine UM ?_
 clear S
 intro _ _ _ S
 (refine ax S (pc (X3 hk1 hx ha om)) ?_;clear S;intro _ _ _ S)
 refine UM ?_
 clear S
 intro _ _ _ S
 replace S:=S.kp 8 [(2,_),(3,_),(5,_),(6,_),(7,_),(8,_),(9,_),(63,_)] [(_,_)] [8] rfl ⟨rfl,rfl,rfl,rfl,rfl,rfl,rfl,rfl,trivial⟩ ⟨⟨_,rfl⟩,rfl,trivial⟩
 (refine ax S (pc (c10)) ?_;clear S;intro _ _ _ S)
 refine UM ?_
 clear S
 intro _ _ _ S
 replace S:=S.kp 19 [(2,_),(3,_),(5,_),(6,_),(7,_),(8,_),(9,_),(10,_),(11,_),(12,_),(13,_),(70,_)] [(_,_),(_,_),(_,_),(_,_)] [8,10,11,12] rfl ⟨rfl,rfl,rfl,rfl,rfl,rfl,rfl,rfl,rfl,rfl,rfl,rfl,trivial⟩ ⟨⟨_,rfl⟩,rfl,⟨_,rfl⟩,rfl,⟨_,rfl⟩,rfl,⟨_,rfl⟩,rfl,trivial⟩
 (refine ax S (pc (c11)) ?_;clear S;intro _ _ _ S)
 refine UM ?_
 clear S
 intro _ _ _ S
 replace S:=S.kp 28 [(2,_),(3,_),(5,_),(6,_),(7,_),(8,_),(9,_),(10,_),(11,_),(12,_),(13,_),(14,_),(15,_),(16,_),(76,_)] [(_,_),(_,_),(_,_),(_,_),(_,_),(_,_)] [8,10,11,12,14,15] rfl ⟨rfl,rfl,rfl,rfl,rfl,rfl,rfl,rfl,rfl,rfl,rfl,rfl,rfl,rfl,rfl,trivial⟩ ⟨⟨_,rfl⟩,rfl,⟨_,rfl⟩,rfl,⟨_,rfl⟩,rfl,⟨_,rfl⟩,rfl,⟨_,rfl⟩,rfl,⟨_,rfl⟩,rfl,trivial⟩
 (refine ax S (pc (c12)) ?_;clear S;intro _ _ _ S)
 refine UM ?_
 clear S
 intro _ _ _ S
 replace S:=S.kp 40 [(2,_),(3,_),(5,_),(6,_),(7,_),(8,_),(9,_),(10,_),(11,_),(12,_),(13,_),(14,_),(15,_),(16,_),(17,_),(18,_),(86,_)] [(_,_),(_,_),(_,_),(_,_),(_,_),(_,_),(_,_)] [8,10,11,12,14,15,17] rfl ⟨rfl,rfl,rfl,rfl,rfl,rfl,rfl,rfl,rfl,rfl,rfl,rfl,rfl,rfl,rfl,rfl,rfl,trivial⟩ ⟨⟨_,rfl⟩,rfl,⟨_,rfl⟩,rfl,⟨_,rfl⟩,rfl,⟨_,rfl⟩,rfl,⟨_,rfl⟩,rfl,⟨_,rfl⟩,rfl,⟨_,rfl⟩,rfl,trivial⟩
 (refine ax S (pc (c13)) ?_;clear S;intro _ _ _ S)
 refine UM ?_
 clear S
 intro _ _ _ S
 replace S:=S.kp 47 [(2,_),(3,_),(5,_),(6,_),(7,_),(8,_),(9,_),(10,_),(11,_),(12,_),(13,_),(14,_),(15,_),(16,_),(17,_),(18,_),(19,_),(20,_),(91,_)] [(_,_),(_,_),(_,_),(_,_),(_,_),(_,_),(_,_),(_,_)] [8,10,11,12,14,15,17,19] rfl ⟨rfl,rfl,rfl,rfl,rfl,rfl,rfl,rfl,rfl,rfl,rfl,rfl,rfl,rfl,rfl,rfl,rfl,rfl,rfl,trivial⟩ ⟨⟨_,rfl⟩,rfl,⟨_,rfl⟩,rfl,⟨_,rfl⟩,rfl,⟨_,rfl⟩,rfl,⟨_,rfl⟩,rfl,⟨_,rfl⟩,rfl,⟨_,rfl⟩,rfl,⟨_,rfl⟩,rfl,trivial⟩
 (refine ax S (pc (c14)) ?_;clear S;intro _ _ _ S)
 refine UM ?_
 clear S
 intro _ _ _ S
 replace S:=S.kp 58 [(2,_),(3,_),(5,_),(6,_),(7,_),(8,_),(9,_),(10,_),(11,_),(12,_),(13,_),(14,_),(15,_),(16,_),(17,_),(18,_),(19,_),(20,_),(21,_),(22,_),(100,_)] [(_,_),(_,_),(_,_),(_,_),(_,_),(_,_),(_,_),(_,_),(_,_)] [8,10,11,12,14,15,17,19,21] rfl ⟨rfl,rfl,rfl,rfl,rfl,rfl,rfl,rfl,rfl,rfl,rfl,rfl,rfl,rfl,rfl,rfl,rfl,rfl,rfl,rfl,rfl,trivial⟩ ⟨⟨_,rfl⟩,rfl,⟨_,rfl⟩,rfl,⟨_,rfl⟩,rfl,⟨_,rfl⟩,rfl,⟨_,rfl⟩,rfl,⟨_,rfl⟩,rfl,⟨_,rfl⟩,rfl,⟨_,rfl⟩,rfl,⟨_,rfl⟩,rfl,trivial⟩
 (refine ax S (pc (c15)) ?_;clear S;intro _ _ _ S)
 refine UM ?_
 clear S
 intro _ _ _ S
 replace S:=S.kp 68 [(2,_),(3,_),(5,_),(6,_),(7,_),(8,_),(9,_),(10,_),(11,_),(12,_),(13,_),(14,_),(15,_),(16,_),(17,_),(18,_),(19,_),(20,_),(21,_),(22,_),(23,_),(24,_),(25,_),(106,_),(107,_)] [(_,_),(_,_),(_,_),(_,_),(_,_),(_,_),(_,_),(_,_),(_,_),(_,_),(_,_)] [8,10,11,12,14,15,17,19,21,23,24] rfl ⟨rfl,rfl,rfl,rfl,rfl,rfl,rfl,rfl,rfl,rfl,rfl,rfl,rfl,rfl,rfl,rfl,rfl,rfl,rfl,rfl,rfl,rfl,rfl,rfl,rfl,trivial⟩ ⟨⟨_,rfl⟩,rfl,⟨_,rfl⟩,rfl,⟨_,rfl⟩,rfl,⟨_,rfl⟩,rfl,⟨_,rfl⟩,rfl,⟨_,rfl⟩,rfl,⟨_,rfl⟩,rfl,⟨_,rfl⟩,rfl,⟨_,rfl⟩,rfl,⟨_,rfl⟩,rfl,⟨_,rfl⟩,rfl,trivial⟩
 (refine ax S (pf (d:= .t [.k (.bool true),.k (.int .i64 0)]) c16) ?_;clear S;intro _ _ _ S)
 (refine ax S (kU rfl) ?_;clear S;intro _ _ _ S)
 (refine ax S (Tm rfl rfl) ?_;clear S;intro _ _ _ S)
 (refine ax S (Tm rfl rfl) ?_;clear S;intro _ _ _ S)
 (refine ax S (GI rfl) ?_;clear S;intro _ _ _ S)
 (refine ax S (GI rfl) ?_;clear S;intro _ _ _ S)
 refine b_ ?_
 refine wp_seq (wp_seq (wp_region_lit ?_))
 replace S:=S.kp 74 [(2,_),(3,_),(5,_),(8,_),(9,_),(10,_),(11,_),(12,_),(13,_),(14,_),(15,_),(16,_),(17,_),(18,_),(19,_),(20,_),(21,_),(22,_),(23,_),(24,_),(25,_),(26,_),(27,_)] [(_,_),(_,_),(_,_),(_,_),(_,_),(_,_),(_,_),(_,_),(_,_),(_,_),(_,_)] [8,10,11,12,14,15,17,19,21,23,24] rfl ⟨rfl,rfl,rfl,rfl,rfl,rfl,rfl,rfl,rfl,rfl,rfl,rfl,rfl,rfl,rfl,rfl,rfl,rfl,rfl,rfl,rfl,rfl,rfl,trivial⟩ ⟨⟨_,rfl⟩,rfl,⟨_,rfl⟩,rfl,⟨_,rfl⟩,rfl,⟨_,rfl⟩,rfl,⟨_,rfl⟩,rfl,⟨_,rfl⟩,rfl,⟨_,rfl⟩,rfl,⟨_,rfl⟩,rfl,⟨_,rfl⟩,rfl,⟨_,rfl⟩,rfl,⟨_,rfl⟩,rfl,trivial⟩
 (refine ax S (kU rfl) ?_;clear S;intro _ _ _ S)
 (refine ax S (uD rfl rfl rfl rfl) ?_;clear S;intro _ _ _ S)
 (refine ax S (kU rfl) ?_;clear S;intro _ _ _ S)
 iterate 7 (refine yG S (kU rfl) rfl rfl rfl rfl ?_;clear S;intro _ _ _ S;refine yG S (uD rfl rfl rfl rfl) rfl rfl rfl rfl ?_;clear S;intro _ _ _ S;refine ax S (qV rfl rfl rfl) ?_;clear S;intro _ _ _ S;refine ax S (kU rfl) ?_;clear S;intro _ _ _ S)
 (refine yG S (kU rfl) rfl rfl rfl rfl ?_;clear S;intro _ _ _ S)
 (refine yG S (sO rfl) rfl rfl rfl rfl ?_;clear S;intro _ _ _ S)
 (refine ax S (qV rfl rfl rfl) ?_;clear S;intro _ _ _ S)
 (refine ax S (kU rfl) ?_;clear S;intro _ _ _ S)
 (refine yG S (kU rfl) rfl rfl rfl rfl ?_;clear S;intro _ _ _ S)
 (refine yG S (Zb hsp rfl kf) rfl rfl rfl rfl ?_;clear S;intro _ _ _ S)
 (refine yG S (sO rfl) rfl rfl rfl rfl ?_;clear S;intro _ _ _ S)
 (refine ax S (qV rfl rfl rfl) ?_;clear S;intro _ _ _ S)
 refine b_ ?_
 refine aK S rfl (rfl) (wp_skip ?_)
 replace S:=S.kp 113 [(2,_),(3,_),(5,_),(8,_),(10,_),(11,_),(12,_),(14,_),(15,_),(17,_),(19,_),(21,_),(23,_),(24,_)] [(_,_),(_,_),(_,_),(_,_),(_,_),(_,_),(_,_),(_,_),(_,_),(_,_),(_,_)] [8,10,11,12,14,15,17,19,21,23,24] rfl ⟨rfl,rfl,rfl,rfl,rfl,rfl,rfl,rfl,rfl,rfl,rfl,rfl,rfl,rfl,trivial⟩ ⟨⟨_,rfl⟩,rfl,⟨_,rfl⟩,rfl,⟨_,rfl⟩,rfl,⟨_,rfl⟩,rfl,⟨_,rfl⟩,rfl,⟨_,rfl⟩,rfl,⟨_,rfl⟩,rfl,⟨_,rfl⟩,rfl,⟨_,rfl⟩,rfl,⟨_,rfl⟩,rfl,⟨_,rfl⟩,rfl,trivial⟩
 exact law_2 hk hx ha la hy hb lb hD hd ld d0 h2 h3 hZ hz2 hg1 hg2 hscr kk S
end
section
abbrev Ro:=Nat×Nat×List Nat
def lE(e:Ro):Value:= .slice (some ⟨e.1,0,none⟩) e.2.2.length e.2.1
def fE(e:Ro):Value:= .slice (some ⟨e.1,0,none⟩) (e.2.2.length+5) e.2.1
structure NB(w0 w:World)(b:Nat)(rs:Rs)(vl vf vu:Value)(es:List Ro)(Us:List Value)(X:Nat→Prop):Prop where
 bn:Bn w b rs vl vf vu (es.map lE) (es.map fE) Us
 lu:Us.length=es.length
 own:∀e,e∈es→w.ownsRow w0.heap.size 31 1 (fE e) (e.2.2.length+5) (Wv (e.2.2++List.replicate 5 0))
 nq:∀e,e∈es→¬Bq b vl vf vu e.1
 ds:es.Pairwise (fun x y=>x.1≠y.1)
 un:∀(j:Nat) (u:Value) (e:Ro),Us[j]? =some u→es[j]? =some e→∃Hu:Nat→Prop,(∀q,Hu q→(q<w.heap.size∧¬Bq b vl vf vu q)∧¬X q)∧Rep0 w Hu u (.l 1 (W (e.2.2++List.replicate 5 0)))
 uc:∀u,u∈Us→u.oneCell'=true
 hq:∀q,Bq b vl vf vu q→w0.heap.size≤q
 nx:∀q,X q→¬Bq b vl vf vu q∧∀e,e∈es→q≠e.1
variable {w0 w:World} {b:Nat} {rs:Rs} {vl vf vu:Value} {es:List Ro} {Us:List Value} {X:Nat→Prop}
theorem NB.lt(h:NB w0 w b rs vl vf vu es Us X){e:Ro}(he:e∈es):w0.heap.size≤e.1∧e.1<w.heap.size:=(h.own e he).lt e.1 rfl
theorem NB.keep{w':World}(h:NB w0 w b rs vl vf vu es Us X)(hb:Below w.heap.size w w'):NB w0 w' b rs vl vf vu es Us X:=
 ⟨h.bn.below hb,h.lu,fun e he=>aP (h.own e he) fun q hq=>(by cases hq;exact hb.block _ (h.lt he).2),h.nq,h.ds,fun j u e h1 h2=>by
   obtain⟨Hu,h3,h4⟩:=h.un j u e h1 h2;exact⟨Hu,fun q hq=>⟨⟨Nat.lt_of_lt_of_le (h3 q hq).1.1 hb.size,(h3 q hq).1.2⟩,(h3 q hq).2⟩,h4.mono (fun _ h=>h) fun q hq=>hb.block q (h3 q hq).1.1⟩,h.uc,h.hq,h.nx⟩
theorem X8{va:Value}{a:List Nat}{Ha:Nat→Prop}(h:NB w0 w b rs vl vf vu es Us X)(hw:w0.heap.size≤w.heap.size)(gu:∀q,Ha q→q<w.heap.size)(hHB:∀q,Bq b vl vf vu q→¬Ha q)(hHX:∀q,X q→q<w.heap.size∧¬Ha q)(hva:Rep0 w Ha va (.l 1 (W a)))(hn:es.length≤1000)(la:a.length≤1000000000):
 Calls Tryz.prog 33 #[.pointer (some ⟨b,0,none⟩),va] w (fun e w'=>∃(g c:Nat) (oI oJ oK u:Value),e= .returned (lE (g,c,a))∧w.heap.size≤g∧aI w (Bq b vl vf vu) w'∧(∀q,Bq b oI oJ oK q→Bq b vl vf vu q∨w.heap.size≤q)∧NB w0 w' b rs oI oJ oK (es++[(g,c,a)]) (Us++[u]) X):=by
 refine(in_raw h.bn gu hHB hva sy sy h.lu (fun v hv=>?_) (fun v hv=>?_) h.uc hn la).mono ?_
 ·obtain⟨e,_,rfl⟩:=List.mem_map.1 hv;rfl
 ·obtain⟨e,_,rfl⟩:=List.mem_map.1 hv;rfl
 rintro e w' ⟨g,cap,oI,oJ,oK,u,Hu,rfl,hg,bel,own,bn,ru,hu,hq,ng,hlo⟩
 have nb:∀q,q<w.heap.size→¬Bq b vl vf vu q→¬Bq b oI oJ oK q:=fun q h1 h2 h3=>(hq q h3).elim h2 fun h=>om
 have sz:=bel.size
 refine⟨g,cap,oI,oJ,oK,u,rfl,hg,bel,hq,by simpa[lE,fE]using bn,by simp[h.lu],fun e he=>?_,fun e he=>?_,?_,fun j v e h1 h2=>?_,fun v hv=>?_,fun q hq'=>(hq q hq').elim (h.hq q) fun h=>om,fun q hx=>⟨nb q (hHX q hx).1 (h.nx q hx).1,fun e he=>(List.mem_append.1 he).elim ((h.nx q hx).2 e) fun he=>by rw[List.mem_singleton.1 he];have:=(hHX q hx).1;show q≠g;omega⟩⟩
 ·rcases List.mem_append.1 he with he|he
  ·exact aP (h.own e he) fun q hq=>(by cases hq;exact bel.block _ (h.lt he).2 (h.nq e he))
  ·rw[List.mem_singleton.1 he];exact dX own hw
 ·rcases List.mem_append.1 he with he|he
  ·exact nb _ (h.lt he).2 (h.nq e he)
  ·rw[List.mem_singleton.1 he];exact ng
 ·rw[List.pairwise_append];refine⟨h.ds,List.pairwise_singleton _ _,fun x hx y hy=>?_⟩;rw[List.mem_singleton.1 hy];have:=(h.lt hx).2;show x.1≠g;omega
 ·by_cases hj:j<Us.length
  ·rw[List.getElem?_append_left hj]at h1;rw[List.getElem?_append_left (by rw[←h.lu];exact hj)]at h2;obtain⟨Hv,h3,h4⟩:=h.un j v e h1 h2;exact⟨Hv,fun q hq=>⟨⟨Nat.lt_of_lt_of_le (h3 q hq).1.1 sz,nb q (h3 q hq).1.1 (h3 q hq).1.2⟩,(h3 q hq).2⟩,h4.mono (fun _ h=>h) fun q hq=>bel.block q (h3 q hq).1.1 (h3 q hq).1.2⟩
  ·have hl:=(List.getElem?_eq_some_iff.1 h1).1;simp only[List.length_append,List.length_singleton]at hl;obtain rfl:j=Us.length:=om;rw[List.getElem?_append_right (Nat.le_refl _),Nat.sub_self]at h1;rw[h.lu,List.getElem?_append_right (Nat.le_refl _),Nat.sub_self]at h2;cases h1;cases h2;exact⟨Hu,fun q hq=>⟨hu q hq,fun hx=>(hlo q hq (hHX q hx).1).elim (hHX q hx).2 (h.nx q hx).1⟩,ru⟩
 ·rcases List.mem_append.1 hv with hv|hv
  ·exact h.uc v hv
  ·rw[List.mem_singleton.1 hv];obtain⟨a,n,c,rfl⟩:=mP ru;rfl
end
