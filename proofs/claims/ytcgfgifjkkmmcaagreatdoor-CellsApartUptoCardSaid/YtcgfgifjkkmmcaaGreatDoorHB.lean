import Derived.StillTailTactics
import Derived.OwnWalk
import Derived.Test.YtcgfgifjkkmmcaaGreatDoorHA
set_option linter.all false
set_option maxHeartbeats 10000000
set_option maxRecDepth 2000000
namespace Go.Proofs.YtcgfgifjkkmmcaaGreatDoor
open Go Go.RowKit Go.Proofs Ab
def WO(f:Func):Code:=ql (qb (q2 (qf f)))
def scL2(f:Func):Code:=ql (qb (q2 (qb (q1 (q2 (WO f))))))
def scD(f:Func):Code:=qb (q1 (q2 (scL2 f)))
theorem Ru(t:Array Value)(h:t.size=56):∃u0 u1 u2 u3 u4 u5 u6 u7 u8 u9 u10 u11 u12 u13 u14 u15 u16 u17 u18 u19 u20 u21 u22 u23 u24 u25 u26 u27 u28 u29 u30 u31 u32 u33 u34 u35 u36 u37 u38 u39 u40 u41 u42 u43 u44 u45 u46 u47 u48 u49 u50 u51 u52 u53 u54 u55:Value,t=List.toArray (u0::u1::u2::u3::u4::u5::u6::u7::u8::u9::u10::u11::u12::u13::u14::u15::u16::u17::u18::u19::u20::u21::u22::u23::u24::u25::u26::u27::u28::u29::u30::u31::u32::u33::u34::u35::u36::u37::u38::u39::u40::u41::u42::u43::u44::u45::u46::u47::u48::u49::u50::u51::u52::u53::u54::u55::[]):=by
 obtain⟨l⟩:=t;simp only[List.size_toArray]at h;rcases l with _|⟨u0,l⟩
 ·simp at h
 rcases l with _|⟨u1,l⟩
 ·simp at h
 rcases l with _|⟨u2,l⟩
 ·simp at h
 rcases l with _|⟨u3,l⟩
 ·simp at h
 rcases l with _|⟨u4,l⟩
 ·simp at h
 rcases l with _|⟨u5,l⟩
 ·simp at h
 rcases l with _|⟨u6,l⟩
 ·simp at h
 rcases l with _|⟨u7,l⟩
 ·simp at h
 rcases l with _|⟨u8,l⟩
 ·simp at h
 rcases l with _|⟨u9,l⟩
 ·simp at h
 rcases l with _|⟨u10,l⟩
 ·simp at h
 rcases l with _|⟨u11,l⟩
 ·simp at h
 rcases l with _|⟨u12,l⟩
 ·simp at h
 rcases l with _|⟨u13,l⟩
 ·simp at h
 rcases l with _|⟨u14,l⟩
 ·simp at h
 rcases l with _|⟨u15,l⟩
 ·simp at h
 rcases l with _|⟨u16,l⟩
 ·simp at h
 rcases l with _|⟨u17,l⟩
 ·simp at h
 rcases l with _|⟨u18,l⟩
 ·simp at h
 rcases l with _|⟨u19,l⟩
 ·simp at h
 rcases l with _|⟨u20,l⟩
 ·simp at h
 rcases l with _|⟨u21,l⟩
 ·simp at h
 rcases l with _|⟨u22,l⟩
 ·simp at h
 rcases l with _|⟨u23,l⟩
 ·simp at h
 rcases l with _|⟨u24,l⟩
 ·simp at h
 rcases l with _|⟨u25,l⟩
 ·simp at h
 rcases l with _|⟨u26,l⟩
 ·simp at h
 rcases l with _|⟨u27,l⟩
 ·simp at h
 rcases l with _|⟨u28,l⟩
 ·simp at h
 rcases l with _|⟨u29,l⟩
 ·simp at h
 rcases l with _|⟨u30,l⟩
 ·simp at h
 rcases l with _|⟨u31,l⟩
 ·simp at h
 rcases l with _|⟨u32,l⟩
 ·simp at h
 rcases l with _|⟨u33,l⟩
 ·simp at h
 rcases l with _|⟨u34,l⟩
 ·simp at h
 rcases l with _|⟨u35,l⟩
 ·simp at h
 rcases l with _|⟨u36,l⟩
 ·simp at h
 rcases l with _|⟨u37,l⟩
 ·simp at h
 rcases l with _|⟨u38,l⟩
 ·simp at h
 rcases l with _|⟨u39,l⟩
 ·simp at h
 rcases l with _|⟨u40,l⟩
 ·simp at h
 rcases l with _|⟨u41,l⟩
 ·simp at h
 rcases l with _|⟨u42,l⟩
 ·simp at h
 rcases l with _|⟨u43,l⟩
 ·simp at h
 rcases l with _|⟨u44,l⟩
 ·simp at h
 rcases l with _|⟨u45,l⟩
 ·simp at h
 rcases l with _|⟨u46,l⟩
 ·simp at h
 rcases l with _|⟨u47,l⟩
 ·simp at h
 rcases l with _|⟨u48,l⟩
 ·simp at h
 rcases l with _|⟨u49,l⟩
 ·simp at h
 rcases l with _|⟨u50,l⟩
 ·simp at h
 rcases l with _|⟨u51,l⟩
 ·simp at h
 rcases l with _|⟨u52,l⟩
 ·simp at h
 rcases l with _|⟨u53,l⟩
 ·simp at h
 rcases l with _|⟨u54,l⟩
 ·simp at h
 rcases l with _|⟨u55,l⟩
 ·simp at h
 cases l with
 |nil=>exact⟨u0,u1,u2,u3,u4,u5,u6,u7,u8,u9,u10,u11,u12,u13,u14,u15,u16,u17,u18,u19,u20,u21,u22,u23,u24,u25,u26,u27,u28,u29,u30,u31,u32,u33,u34,u35,u36,u37,u38,u39,u40,u41,u42,u43,u44,u45,u46,u47,u48,u49,u50,u51,u52,u53,u54,u55,rfl⟩
 |cons x l=>simp at h
theorem Rw{a:Act}{w:World}{R:Exit→Act→World→Prop}{b gU m lT k q n cap i X:Nat}(hz:a.tmps.size=56)(h0:a.tmps.getD 0 undef= .pointer (some ⟨b,0,none⟩))(h2:a.tmps.getD 2 undef= .int .i64 (k:Int))(h3:a.tmps.getD 3 undef= .int .i64 (i:Int))
 (hb:w.cell? ⟨b,0,none⟩=some (.slice (some ⟨gU,0,none⟩) m lT)) (hk:(k:Int)<(m:Int)) (hm:m≤1000000) (hc:w.cell? ⟨gU,k,none⟩=some (.slice (some ⟨q,0,none⟩) n cap)) (hi:(i:Int)<(n:Int)) (hn:n≤1000000000) (hx:w.cell? ⟨q,i,none⟩=some (.int .u64 (X:Int))) (hX:X<18446744073709551616) (hf:w.frozen? ⟨q,i,none⟩=false)
 (kk:∀a':Act,a'.tmps.size=56→a'.tmps.getD 0 undef= .pointer (some ⟨b,0,none⟩)→a'.tmps.getD 2 undef= .int .i64 (k:Int)→a'.tmps.getD 3 undef= .int .i64 (i:Int)→a'.defers=a.defers→∀Y:Nat,Y<18446744073709551616→R .normal a' (w.drew.setCell ⟨q,i,none⟩ (.int .u64 (Y:Int)))):(scD Tryz.f21).wp Tryz.prog R a w:=by
 obtain⟨tm,df⟩:=a
 obtain⟨u0,u1,u2,u3,u4,u5,u6,u7,u8,u9,u10,u11,u12,u13,u14,u15,u16,u17,u18,u19,u20,u21,u22,u23,u24,u25,u26,u27,u28,u29,u30,u31,u32,u33,u34,u35,u36,u37,u38,u39,u40,u41,u42,u43,u44,u45,u46,u47,u48,u49,u50,u51,u52,u53,u54,u55,rfl⟩:=Ru tm hz
 obtain rfl:u0=_:=h0
 obtain rfl:u2=_:=h2
 obtain rfl:u3=_:=h3
 clear hz
 have hb':w.drew.cell? ⟨b,0,none⟩=some (.slice (some ⟨gU,0,none⟩) m lT):=hb
 have hc':w.drew.cell? ⟨gU,k,none⟩=some (.slice (some ⟨q,0,none⟩) n cap):=hc
 have hx':w.drew.cell? ⟨q,i,none⟩=some (.int .u64 (X:Int)):=hx
 have hf':w.drew.frozen? ⟨q,i,none⟩=false:=hf
 have jH:=PLift.up kk
 clear kk
 go_still_tail 20,kf
 change wpList _ _ _ _ _ w.drew
 generalize w.drew=w2 at*
 clear hb hc hx hf
 go_wp2
 have hxor:=bits_xor_u64_nat X 6148914691236517205 hX dc
 refine(congrArg (fun y=>R .normal _ (w2.setCell ⟨q,i,none⟩ (.int .u64 y))) hxor).mpr ?_
 refine jH.down _ ?_ ?_ ?_ ?_ ?_ _ (Nat.xor_lt_two_pow (n:=64) (y:=6148914691236517205) hX dc)<;>rfl
theorem WQ{a:Act}{w:World}{R:Exit→Act→World→Prop}{b gU m lT Jk mf vfc k n cap fn fcap i:Nat}{lq fq:Option Addr}(hz:a.tmps.size=56)(h0:a.tmps.getD 0 undef= .pointer (some ⟨b,0,none⟩))(h2:a.tmps.getD 2 undef= .int .i64 (k:Int))(h3:a.tmps.getD 3 undef= .int .i64 (i:Int))
 (hb0:w.cell? ⟨b,0,none⟩=some (.slice (some ⟨gU,0,none⟩) m lT)) (hb1:w.cell? ⟨b,1,none⟩=some (.slice (some ⟨Jk,0,none⟩) mf vfc)) (hk:(k:Int)<(m:Int)) (hkf:(k:Int)<(mf:Int)) (hm:m≤1000000) (hmf:mf≤1000000)
 (hc:w.cell? ⟨gU,k,none⟩=some (.slice lq n cap)) (hcf:w.cell? ⟨Jk,k,none⟩=some (.slice fq fn fcap)) (hn:n≤1000000000000) (hfn:fn≤1000000000000)
 (kt:(i:Int)<(n:Int)→0<(fn:Int)→∀a':Act,a'.tmps.size=56→a'.tmps.getD 0 undef= .pointer (some ⟨b,0,none⟩)→a'.tmps.getD 2 undef= .int .i64 (k:Int)→a'.tmps.getD 3 undef= .int .i64 (i:Int)→a'.defers=a.defers→R .normal a' w)
 (kf:((i:Int)<(n:Int)→¬0<(fn:Int))→∀a':Act,a'.tmps.size=56→a'.tmps.getD 0 undef= .pointer (some ⟨b,0,none⟩)→a'.tmps.getD 2 undef= .int .i64 (k:Int)→a'.defers=a.defers→R (.exit 2) a' w):(q1 (scL2 Tryz.f21)).wp Tryz.prog R a w:=by
 obtain⟨tm,df⟩:=a
 obtain⟨u0,u1,u2,u3,u4,u5,u6,u7,u8,u9,u10,u11,u12,u13,u14,u15,u16,u17,u18,u19,u20,u21,u22,u23,u24,u25,u26,u27,u28,u29,u30,u31,u32,u33,u34,u35,u36,u37,u38,u39,u40,u41,u42,u43,u44,u45,u46,u47,u48,u49,u50,u51,u52,u53,u54,u55,rfl⟩:=Ru tm hz
 obtain rfl:u0=_:=h0
 obtain rfl:u2=_:=h2
 obtain rfl:u3=_:=h3
 clear hz
 have hA:=PLift.up (And.intro kt kf)
 clear kt kf
 by_cases hi:(i:Int)<(n:Int)
 ·by_cases hF:0<(fn:Int)
  ·refine wp_seq ?_;refine wp_region_lit ?_;go_wp2;refine hA.down.1 hi hF _ ?_ ?_ ?_ ?_ ?_<;>rfl
  ·refine wp_seq ?_;refine wp_region_lit ?_;go_wp2;refine hA.down.2 (fun _=>om) _ ?_ ?_ ?_ ?_<;>rfl
 ·refine wp_seq ?_;refine wp_region_lit ?_;go_wp2;refine hA.down.2 (fun h=>absurd h om) _ ?_ ?_ ?_ ?_<;>rfl
end Go.Proofs.YtcgfgifjkkmmcaaGreatDoor
namespace Go.Proofs.YtcgfgifjkkmmcaaGreatDoor
open Go Go.RowKit Go.Proofs Ab
theorem Rx{w0 w:World}{E:Nat→Prop}{q i:Nat}{v:Value}(h:aI w0 E w)(hq:E q):aI w0 E (w.drew.setCell ⟨q,i,none⟩ v):=by
 refine⟨h.os,h.tape,h.output,?_,fun x hx hne=>?_⟩
 ·have:(w.drew.setCell ⟨q,i,none⟩ v).heap.size=w.heap.size:=by simp[World.setCell]
  rw[this];exact h.size
 ·exact(heap_setCell_other w.drew ⟨q,i,none⟩ x v (fun e=>hne (by rw[e];exact hq))).trans (h.block x hx hne)
theorem aN{w w':World}{q i:Nat}(h:w'.heap[q]? =w.heap[q]?):w'.cell? ⟨q,i,none⟩=w.cell? ⟨q,i,none⟩:=by
 simp only[World.cell?,h]
theorem WR{a:Act}{w:World}{R:Exit→Act→World→Prop}{i:Nat}(hz:a.tmps.size=56)(h3:a.tmps.getD 3 undef= .int .i64 (i:Int))(hi:i≤1000000000000)
 (kk:∀a':Act,a'.tmps.size=56→(∀t,t<3→a'.tmps.getD t undef=a.tmps.getD t undef)→a'.tmps.getD 3 undef= .int .i64 ((i:Int)+1)→a'.defers=a.defers→R .normal a' w):(q2 (q2 (scL2 Tryz.f21))).wp Tryz.prog R a w:=by
 have g3:=gI hz h3 dc
 have jH:=PLift.up kk
 clear kk
 refine wp_region_lit ?_
 go_wp2
 refine jH.down _ (by simp[hz]) (fun t ht=>?_) ?_ rfl
 ·dsimp only;rw[ae om,ae om,ae om]
 ·dsimp only;rw[aA (by simp[hz])]
theorem Ry{a:Act}{w:World}{R:Exit→Act→World→Prop}{i:Nat}(hz:a.tmps.size=56)(h2:a.tmps.getD 2 undef= .int .i64 (i:Int))(hi:i≤1000000000000)
 (kk:∀a':Act,a'.tmps.size=56→(∀t,t<2→a'.tmps.getD t undef=a.tmps.getD t undef)→a'.tmps.getD 2 undef= .int .i64 ((i:Int)+1)→a'.defers=a.defers→R .normal a' w):(q2 (q2 (WO Tryz.f21))).wp Tryz.prog R a w:=by
 have g2:=gI hz h2 dc
 have jH:=PLift.up kk
 clear kk
 refine wp_region_lit ?_
 go_wp2
 refine jH.down _ (by simp[hz]) (fun t ht=>?_) ?_ rfl
 ·dsimp only;rw[ae om,ae om,ae om]
 ·dsimp only;rw[aA (by simp[hz])]
theorem Rz{a:Act}{w:World}{R:Exit→Act→World→Prop}{b Jk mf vfc k:Nat}(hz:a.tmps.size=56)(h0:a.tmps.getD 0 undef= .pointer (some ⟨b,0,none⟩))(h2:a.tmps.getD 2 undef= .int .i64 (k:Int))
 (hb1:w.cell? ⟨b,1,none⟩=some (.slice (some ⟨Jk,0,none⟩) mf vfc)) (hmf:mf≤1000000)
 (kt:(k:Int)<(mf:Int)→∀a':Act,a'.tmps.size=56→a'.tmps.getD 0 undef= .pointer (some ⟨b,0,none⟩)→a'.tmps.getD 2 undef= .int .i64 (k:Int)→a'.defers=a.defers→R .normal a' w)
 (kf:¬(k:Int)<(mf:Int)→∀a':Act,a'.defers=a.defers→R (.exit 0) a' w):(q1 (WO Tryz.f21)).wp Tryz.prog R a w:=by
 obtain⟨tm,df⟩:=a
 obtain⟨u0,u1,u2,u3,u4,u5,u6,u7,u8,u9,u10,u11,u12,u13,u14,u15,u16,u17,u18,u19,u20,u21,u22,u23,u24,u25,u26,u27,u28,u29,u30,u31,u32,u33,u34,u35,u36,u37,u38,u39,u40,u41,u42,u43,u44,u45,u46,u47,u48,u49,u50,u51,u52,u53,u54,u55,rfl⟩:=Ru tm hz
 obtain rfl:u0=_:=h0
 obtain rfl:u2=_:=h2
 clear hz
 have hA:=PLift.up (And.intro kt kf)
 clear kt kf
 by_cases hi:(k:Int)<(mf:Int)
 ·refine wp_seq ?_;refine wp_region_lit ?_;go_wp2;refine hA.down.1 hi _ ?_ ?_ ?_ ?_<;>rfl
 ·refine wp_seq ?_;refine wp_region_lit ?_;go_wp2;refine hA.down.2 om _ ?_<;>rfl
def uu(w:World)(q n cap:Nat):Prop:=∃A:List Nat,A.length=n∧(∀x,x∈A→x<18446744073709551616)∧w.ownsRow 0 31 1 (.slice (some ⟨q,0,none⟩) (n+5) cap) (n+5) (Wv (A++List.replicate 5 0))
theorem uu.keep{w w':World}{q n cap:Nat}(h:uu w q n cap)(hb:w'.heap[q]? =w.heap[q]?):uu w' q n cap:=by
 obtain⟨A,h1,h2,h3⟩:=h;exact⟨A,h1,h2,aP h3 fun x hx=>by cases hx;exact hb⟩
theorem uu.put{w:World}{q n cap i Y:Nat}(h:uu w q n cap)(hi:i<n)(hY:Y<18446744073709551616):uu (w.drew.setCell ⟨q,i,none⟩ (.int .u64 (Y:Int))) q n cap:=by
 obtain⟨A,h1,h2,h3⟩:=h;refine⟨A.set i Y,by rw[List.length_set];exact h1,fun x hx=>?_,?_⟩
 ·rcases List.mem_or_eq_of_mem_set hx with h|rfl
  ·exact h2 x h
  ·exact hY
 ·have h4:=(h3.drew.stored i (.int .u64 (Y:Int))).1;have:(Wv (A++List.replicate 5 0)).set i (.int .u64 (Y:Int))=Wv (A.set i Y++List.replicate 5 0):=by
   unfold Wv;rw[←List.set_append_left i Y (by omega:i<A.length),List.map_set]
  rw[this]at h4;exact h4
theorem uu.at{w:World}{q n cap i:Nat}(h:uu w q n cap)(hi:i<n):∃X:Nat,X<18446744073709551616∧w.cell? ⟨q,i,none⟩=some (.int .u64 (X:Int))∧w.frozen? ⟨q,i,none⟩=false:=by
 obtain⟨A,h1,h2,h3⟩:=h;refine⟨A[i]' om,h2 _ (List.getElem_mem _),?_,h3.frozenAt i⟩;rw[h3.cellAt i om];unfold Wv;rw[List.getElem?_map,List.getElem?_append_left om,List.getElem?_eq_getElem om];rfl
theorem RD{a:Act}{w:World}{R:Exit→Act→World→Prop}{b gU m lT Jk mf vfc k q n cap:Nat}(hz:a.tmps.size=56)(h0:a.tmps.getD 0 undef= .pointer (some ⟨b,0,none⟩))(h2:a.tmps.getD 2 undef= .int .i64 (k:Int))
 (hb0:w.cell? ⟨b,0,none⟩=some (.slice (some ⟨gU,0,none⟩) m lT)) (hb1:w.cell? ⟨b,1,none⟩=some (.slice (some ⟨Jk,0,none⟩) mf vfc)) (hk:(k:Int)<(m:Int)) (hkf:(k:Int)<(mf:Int)) (hm:m≤1000000) (hmf:mf≤1000000)
 (hc:w.cell? ⟨gU,k,none⟩=some (.slice (some ⟨q,0,none⟩) n cap)) (hcf:w.cell? ⟨Jk,k,none⟩=some (.slice (some ⟨q,0,none⟩) (n+5) cap)) (hn:n≤1000000000) (hr:uu w q n cap) (nb:b≠q) (nl:gU≠q) (nf:Jk≠q) (ltb:b<w.heap.size) (ltl:gU<w.heap.size) (ltf:Jk<w.heap.size)
 (kk:∀(a':Act) (w':World),a'.tmps.size=56→a'.tmps.getD 0 undef= .pointer (some ⟨b,0,none⟩)→a'.tmps.getD 2 undef= .int .i64 (k:Int)→a'.defers=a.defers→aI w (fun x=>x=q) w'→uu w' q n cap→R .normal a' w'):(q1 (q2 (WO Tryz.f21))).wp Tryz.prog R a w:=by
 refine wp_block ?_
 refine wp_seq_k fun K0 hK0=>?_
 have hk0:=PLift.up hK0
 clear hK0
 have jH:=PLift.up kk
 clear kk
 refine wp_region_lit ?_
 go_wp2
 refine hk0.down _ _ ?_
 clear hk0
 refine wp_block ?_
 refine wp_loop (fun a' wr=>∃i:Nat,i≤n∧a'.tmps.size=56∧a'.tmps.getD 0 undef= .pointer (some ⟨b,0,none⟩)∧a'.tmps.getD 2 undef= .int .i64 (k:Int)∧a'.tmps.getD 3 undef= .int .i64 (i:Int)∧a'.defers=a.defers∧aI w (fun x=>x=q) wr∧uu wr q n cap)
  (fun a' _=>n-(intOf (a'.tmps.getD 3 undef)).toNat) ?_ ?_
 ·refine⟨0,Nat.zero_le _,by simp[hz],?_,?_,?_,rfl,aI.refl _ _,hr⟩
  ·dsimp only;rw[ae dc];exact h0
  ·dsimp only;rw[ae dc];exact h2
  ·dsimp only;rw[aA (by simp[hz])];rfl
 ·rintro a' wr ⟨i,hi,hz,h0,h2,h3,hd,hbel,hr⟩;have e0:=(aN (i:=0) (hbel.block b ltb nb)).trans hb0;have e1:=(aN (i:=1) (hbel.block b ltb nb)).trans hb1;have e2:=(aN (i:=k) (hbel.block gU ltl nl)).trans hc;have e3:=(aN (i:=k) (hbel.block Jk ltf nf)).trans hcf;refine wp_seq ?_;refine WQ hz h0 h2 h3 e0 e1 hk hkf hm hmf e2 e3 om om (fun hlt _ a1 z1 f0 f2 f3 d1=>?_) (fun hge a1 z1 f0 f2 d1=>?_)
  ·have hilt:i<n:=om;obtain⟨X,hX,hx,hfr⟩:=hr.at hilt;refine wp_seq ?_;refine wp_block ?_;refine Rw z1 f0 f2 f3 e0 hk hm e2 hlt hn hx hX hfr fun a2 z2 g0 g2 g3 d2 Y hY=>?_
   refine WR z2 g3 om fun a3 z3 s3 j3 d3=>?_
   refine⟨⟨i+1,hilt,z3,(s3 0 dc).trans g0,(s3 2 dc).trans g2,by rw[j3];rfl,d3.trans (d2.trans (d1.trans hd)),Rx hbel rfl,hr.put hilt hY⟩,?_⟩;rw[j3,h3];simp only[intOf];omega
  ·exact jH.down _ _ z1 f0 f2 (d1.trans hd) hbel hr
end Go.Proofs.YtcgfgifjkkmmcaaGreatDoor
namespace Go.Proofs.YtcgfgifjkkmmcaaGreatDoor
open Go Go.RowKit Go.Proofs Ab
theorem kT{w:World}{B e sz n:Nat}{v:Value}{xs:List Value}(h:w.ownsRow B e sz v n xs)(hn:0<n):∃g c,v= .slice (some ⟨g,0,none⟩) n c:=by
 rcases h.2 with ⟨_,rfl⟩|⟨g,cap,cur,rfl,_⟩
 ·omega
 ·exact⟨g,cap,rfl⟩
theorem sH{w0 w w':World}{E F:Nat→Prop}(h:aI w0 E w)(h':aI w F w')(hF:∀x,F x→E x):aI w0 E w':=
 ⟨h'.os.trans h.os,h'.tape.trans h.tape,h'.output.trans h.output,Nat.le_trans h.size h'.size,fun q hq hne=>(h'.block q (Nat.lt_of_lt_of_le hq h.size) (fun e=>hne (hF q e))).trans (h.block q hq hne)⟩
end Go.Proofs.YtcgfgifjkkmmcaaGreatDoor
namespace Go.Proofs.YtcgfgifjkkmmcaaGreatDoor
open Go Go.RowKit Go.Proofs Ab
def apS1(f:Func):Code:=q1 (q2 (qf f))
def WS(f:Func):Code:=ql (qb (q2 (apS1 f)))
def apC1(f:Func):Code:=ql (qb (q2 (qb (q1 (q2 (WS f))))))
def mark(k:Nat):Value:= .int .u64 ((k:Int)+1000)
theorem RF{w:World}{B e n m cap:Nat}{a:Option Addr}{xs:List Value}(h:w.ownsRow B e 1 (.slice a n cap) n xs)(hm:m≤n):w.ownsRow B e 1 (.slice a m cap) m (xs.take m):=by
 have hl:=h.1;rcases h.2 with ⟨h',rfl⟩|⟨g,cap',cur,h',h1,h2,h3,h4,h5,h6⟩
 ·obtain rfl:m=0:=om;cases h';exact⟨sy,.inl ⟨rfl,rfl⟩⟩
 ·cases h';exact⟨by rw[List.length_take];omega,.inr ⟨g,cap,cur,rfl,h1,h2,om,h4,h5,by rw[←h6,List.take_take];congr 1;omega⟩⟩
theorem RG{a:Act}{w:World}{R:Exit→Act→World→Prop}{b gU m lT k:Nat}(hz:a.tmps.size=162)(h0:a.tmps.getD 0 undef= .pointer (some ⟨b,0,none⟩))(h3:a.tmps.getD 3 undef= .int .i64 (k:Int))
 (hb0:w.cell? ⟨b,0,none⟩=some (.slice (some ⟨gU,0,none⟩) m lT)) (hm:m≤1000000)
 (kt:(k:Int)<(m:Int)→∀a':Act,a'.tmps.size=162→(∀t,t<15→a'.tmps.getD t undef=a.tmps.getD t undef)→a'.defers=a.defers→R .normal a' w)
 (kf:¬(k:Int)<(m:Int)→∀a':Act,a'.tmps.size=162→(∀t,t<15→a'.tmps.getD t undef=a.tmps.getD t undef)→a'.defers=a.defers→R (.exit 0) a' w):(q1 (WS Tryz.f61)).wp Tryz.prog R a w:=by
 have g0:=gI hz h0 dc
 have g3:=gI hz h3 dc
 have hA:=PLift.up (And.intro kt kf)
 clear kt kf
 by_cases hi:(k:Int)<(m:Int)
 ·refine wp_seq_k fun K0 hK0=>?_
  have hk0:=PLift.up hK0;clear hK0;refine wp_region_lit ?_;go_wp2;refine hk0.down _ _ ?_;refine wp_cond_true (by rw[ak];dsimp only;rw[aA (by simp[hz])]) ?_;go_wp2;refine hA.down.1 hi _ (by simp[hz]) (fun t ht=>?_) rfl;dsimp only;rw[ae om,ae om,ae om,ae om,ae om,ae om,ae om]
 ·refine wp_seq_k fun K0 hK0=>?_
  have hk0:=PLift.up hK0;clear hK0;refine wp_region_lit ?_;go_wp2;refine hk0.down _ _ ?_;refine wp_cond_false (by rw[ak];dsimp only;rw[aA (by simp[hz])]) ?_;go_wp2;refine hA.down.2 om _ (by simp[hz]) (fun t ht=>?_) rfl;dsimp only;rw[ae om,ae om,ae om,ae om,ae om,ae om,ae om]
theorem RH{a:Act}{w:World}{R:Exit→Act→World→Prop}{k:Nat}(hz:a.tmps.size=162)(h3:a.tmps.getD 3 undef= .int .i64 (k:Int))(hk:k≤1000000)
 (kk:∀a':Act,a'.tmps.size=162→(∀t,t<3→a'.tmps.getD t undef=a.tmps.getD t undef)→a'.tmps.getD 3 undef= .int .i64 ((k:Int)+1)→a'.defers=a.defers→R .normal a' w):(q2 (q2 (WS Tryz.f61))).wp Tryz.prog R a w:=by
 have g3:=gI hz h3 dc
 have jH:=PLift.up kk
 clear kk
 refine wp_region_lit ?_
 go_wp2
 refine jH.down _ (by simp[hz]) (fun t ht=>?_) ?_ rfl
 ·dsimp only;rw[ae om,ae om,ae om]
 ·dsimp only;rw[aA (by simp[hz])]
theorem RI{a:Act}{w:World}{R:Exit→Act→World→Prop}{b gU m lT k i n cap:Nat}{la:Option Addr}(hz:a.tmps.size=162)(h0:a.tmps.getD 0 undef= .pointer (some ⟨b,0,none⟩))(h3:a.tmps.getD 3 undef= .int .i64 (k:Int))(h4:a.tmps.getD 4 undef= .int .i64 (i:Int))
 (hb0:w.cell? ⟨b,0,none⟩=some (.slice (some ⟨gU,0,none⟩) m lT)) (hk:(k:Int)<(m:Int)) (hm:m≤1000000) (hc:w.cell? ⟨gU,k,none⟩=some (.slice la n cap)) (hn:n≤1000000000000)
 (kt:(i:Int)<(n:Int)→∀a':Act,a'.tmps.size=162→(∀t,t<15→a'.tmps.getD t undef=a.tmps.getD t undef)→a'.defers=a.defers→R .normal a' w)
 (kf:¬(i:Int)<(n:Int)→∀a':Act,a'.tmps.size=162→(∀t,t<15→a'.tmps.getD t undef=a.tmps.getD t undef)→a'.defers=a.defers→R (.exit 2) a' w):(q1 (apC1 Tryz.f61)).wp Tryz.prog R a w:=by
 have g0:=gI hz h0 dc
 have g3:=gI hz h3 dc
 have g4:=gI hz h4 dc
 have hA:=PLift.up (And.intro kt kf)
 clear kt kf
 by_cases hi:(i:Int)<(n:Int)
 ·refine wp_seq_k fun K0 hK0=>?_
  have hk0:=PLift.up hK0;clear hK0;refine wp_region_lit ?_;go_wp2;refine hk0.down _ _ ?_;refine wp_cond_true (by rw[ak];dsimp only;rw[aA (by simp[hz])]) ?_;go_wp2;refine hA.down.1 hi _ (by simp[hz]) (fun t ht=>?_) rfl;dsimp only;rw[ae om,ae om,ae om,ae om,ae om,ae om,ae om,ae om,ae om,ae om]
 ·refine wp_seq_k fun K0 hK0=>?_
  have hk0:=PLift.up hK0;clear hK0;refine wp_region_lit ?_;go_wp2;refine hk0.down _ _ ?_;refine wp_cond_false (by rw[ak];dsimp only;rw[aA (by simp[hz])]) ?_;go_wp2;refine hA.down.2 om _ (by simp[hz]) (fun t ht=>?_) rfl;dsimp only;rw[ae om,ae om,ae om,ae om,ae om,ae om,ae om,ae om,ae om,ae om]
theorem RJ{a:Act}{w:World}{R:Exit→Act→World→Prop}{i:Nat}(hz:a.tmps.size=162)(h4:a.tmps.getD 4 undef= .int .i64 (i:Int))(hi:i≤1000000000000)
 (kk:∀a':Act,a'.tmps.size=162→(∀t,t<4→a'.tmps.getD t undef=a.tmps.getD t undef)→a'.tmps.getD 4 undef= .int .i64 ((i:Int)+1)→a'.defers=a.defers→R .normal a' w):(q2 (q2 (apC1 Tryz.f61))).wp Tryz.prog R a w:=by
 have g4:=gI hz h4 dc
 have jH:=PLift.up kk
 clear kk
 refine wp_region_lit ?_
 go_wp2
 refine jH.down _ (by simp[hz]) (fun t ht=>?_) ?_ rfl
 ·dsimp only;rw[ae om,ae om,ae om]
 ·dsimp only;rw[aA (by simp[hz])]
theorem pK(k:Nat)(h:k≤1000000):IntKind.u64.wrap (IntKind.u64.wrap (k:Int)+1000)=(k:Int)+1000∧IntKind.u64.wrap ((k:Int)+1000)=(k:Int)+1000∧IntKind.u64.wrap (k:Int)=(k:Int):=by
 simp only[IntKind.wrap_u64];refine⟨?_,?_,?_⟩<;>omega
theorem RN{a:Act}{w:World}{R:Exit→Act→World→Prop}{b gU m lT k i n cap q:Nat}{x:Value}(hz:a.tmps.size=162)(h0:a.tmps.getD 0 undef= .pointer (some ⟨b,0,none⟩))(h3:a.tmps.getD 3 undef= .int .i64 (k:Int))(h4:a.tmps.getD 4 undef= .int .i64 (i:Int))
 (hb0:w.cell? ⟨b,0,none⟩=some (.slice (some ⟨gU,0,none⟩) m lT)) (hk:(k:Int)<(m:Int)) (hm:m≤1000000) (hc:w.cell? ⟨gU,k,none⟩=some (.slice (some ⟨q,0,none⟩) n cap)) (hn:n≤1000000000000) (hi:(i:Int)<(n:Int)) (hx:w.cell? ⟨q,i,none⟩=some x) (hf:w.frozen? ⟨q,i,none⟩=false)
 (kk:∀a':Act,a'.tmps.size=162→(∀t,t<15→a'.tmps.getD t undef=a.tmps.getD t undef)→a'.defers=a.defers→R .normal a' (w.setCell ⟨q,i,none⟩ (mark k))):(qb (q1 (q2 (apC1 Tryz.f61)))).wp Tryz.prog R a w:=by
 have g0:=gI hz h0 dc
 have g3:=gI hz h3 dc
 have g4:=gI hz h4 dc
 have hw:=pK k om
 have jH:=PLift.up kk
 clear kk
 refine wp_region_lit ?_
 go_wp2
 refine jH.down _ (by simp[hz]) (fun t ht=>?_) rfl
 dsimp only
 rw[ae om,ae om,ae om,ae om,ae om,ae om,ae om,ae om,ae om,ae om,ae om,ae om]
end Go.Proofs.YtcgfgifjkkmmcaaGreatDoor
namespace Go.Proofs.YtcgfgifjkkmmcaaGreatDoor
open Go Go.RowKit Go.Proofs Ab
structure Bx(w:World)(b gU lT:Nat)(Lv:List Value):Prop where
 c0:w.cell? ⟨b,0,none⟩=some (.slice (some ⟨gU,0,none⟩) Lv.length lT)
 cl:∀j v,Lv[j]? =some v→w.cell? ⟨gU,j,none⟩=some v
 lb:b<w.heap.size
 ll:gU<w.heap.size
 m:Lv.length≤1000
theorem Bx.keep{w w':World}{b gU lT:Nat}{Lv:List Value}(h:Bx w b gU lT Lv)(hs:w.heap.size≤w'.heap.size)(h1:w'.heap[b]? =w.heap[b]?)(h2:w'.heap[gU]? =w.heap[gU]?):Bx w' b gU lT Lv:=
 ⟨(aN h1).trans h.c0,fun j v hj=>(aN h2).trans (h.cl j v hj),Nat.lt_of_lt_of_le h.lb hs,Nat.lt_of_lt_of_le h.ll hs,h.m⟩
def Lm(w:World)(Lv:List Value)(k:Nat):Prop:=∀j v,Lv[j]? =some v→∃n xs,n≤1000000000∧w.ownsRow 0 31 1 v n xs∧(j<k→xs=List.replicate n (mark j))
def UI(Lv:List Value):Prop:=∀(i j:Nat) (vi vj:Value) (q:Nat),i≠j→Lv[i]? =some vi→Lv[j]? =some vj→vi.ownBlock=some q→vj.ownBlock≠some q
def Nbk(b gU:Nat)(Lv:List Value):Prop:=∀(j:Nat) (v:Value),Lv[j]? =some v→v.ownBlock≠some b∧v.ownBlock≠some gU
theorem Gm{xs:List Value}{i n:Nat}{u:Value}(hl:xs.length=n)(hi:i<n):(List.replicate i u++xs.drop i).set i u=List.replicate (i+1) u++xs.drop (i+1):=by
 rw[List.set_append,if_neg sy,List.length_replicate,Nat.sub_self,List.drop_eq_getElem_cons om,List.set_cons_zero,List.replicate_succ',List.append_assoc];rfl
theorem RP{a:Act}{w:World}{R:Exit→Act→World→Prop}{b gU lT k n:Nat}{v:Value}{xs Lv:List Value}(hz:a.tmps.size=162)(h0:a.tmps.getD 0 undef= .pointer (some ⟨b,0,none⟩))(h3:a.tmps.getD 3 undef= .int .i64 (k:Int))
 (hx:Bx w b gU lT Lv) (hv:Lv[k]? =some v) (hnb:v.ownBlock≠some b∧v.ownBlock≠some gU) (ho:w.ownsRow 0 31 1 v n xs) (hn:n≤1000000000)
 (kk:∀(a':Act) (w':World),a'.tmps.size=162→(∀t,t<4→a'.tmps.getD t undef=a.tmps.getD t undef)→a'.defers=a.defers→aI w (fun x=>v.ownBlock=some x) w'→w'.ownsRow 0 31 1 v n (List.replicate n (mark k))→R .normal a' w'):(q1 (q2 (WS Tryz.f61))).wp Tryz.prog R a w:=by
 have Vo:k<Lv.length:=(List.getElem?_eq_some_iff.1 hv).1
 have hm:=hx.m
 have hlen:xs.length=n:=by rw[ho.1];omega
 obtain⟨va,vc,hva⟩:=aT ho
 refine wp_block ?_
 refine wp_seq_k fun K0 hK0=>?_
 have hk0:=PLift.up hK0
 clear hK0
 have jH:=PLift.up kk
 clear kk
 refine wp_region_lit ?_
 go_wp2
 refine hk0.down _ _ ?_
 clear hk0
 refine wp_block ?_
 refine wp_loop (fun a' wr=>∃i:Nat,i≤n∧a'.tmps.size=162∧(∀t,t<4→a'.tmps.getD t undef=a.tmps.getD t undef)∧a'.tmps.getD 4 undef= .int .i64 (i:Int)∧a'.defers=a.defers∧aI w (fun x=>v.ownBlock=some x) wr∧wr.ownsRow 0 31 1 v n (List.replicate i (mark k)++xs.drop i))
  (fun a' _=>n-(intOf (a'.tmps.getD 4 undef)).toNat) ?_ ?_
 ·refine⟨0,Nat.zero_le _,by simp[hz],fun t ht=>?_,?_,rfl,aI.refl _ _,ho⟩
  ·dsimp only;rw[ae om]
  ·dsimp only;rw[aA (by simp[hz])];rfl
 ·rintro a' wr ⟨i,hi,hz,hs,h4,hd,hbel,hr⟩;have hxr:Bx wr b gU lT Lv:=hx.keep hbel.size (hbel.block b hx.lb hnb.1) (hbel.block gU hx.ll hnb.2);refine wp_seq ?_;have hcl:=hxr.cl k v hv;rw[hva]at hcl;refine RI hz ((hs 0 dc).trans h0) ((hs 3 dc).trans h3) h4 hxr.c0 om om hcl om (fun hlt a1 z1 s1 d1=>?_) (fun hge a1 z1 s1 d1=>?_)
  ·have hilt:i<n:=om;obtain⟨q,c',hq⟩:=kT ho (by omega:0<n);rw[hq]at hva;cases hva;subst hq;have hcell:=hr.cellAt i om;rw[List.getElem?_append_right sy,List.length_replicate,Nat.sub_self,List.getElem?_drop,List.getElem?_eq_getElem om]at hcell;refine wp_seq ?_;refine wp_block ?_;refine RN z1 ((s1 0 dc).trans ((hs 0 dc).trans h0)) ((s1 3 dc).trans ((hs 3 dc).trans h3)) ((s1 4 dc).trans h4) hxr.c0 om om hcl om hlt hcell (hr.frozenAt i) fun a2 z2 s2 d2=>?_
   refine RJ z2 ((s2 4 dc).trans ((s1 4 dc).trans h4)) om fun a3 z3 s3 j3 d3=>?_
   have hst:=(hr.stored i (mark k)).1;rw[Gm hlen hilt]at hst;refine⟨⟨i+1,hilt,z3,fun t ht=>(s3 t ht).trans ((s2 t om).trans ((s1 t om).trans (hs t ht))),by rw[j3];rfl,d3.trans (d2.trans (d1.trans hd)),?_,hst⟩,?_⟩
   ·refine⟨hbel.os,hbel.tape,hbel.output,?_,fun x hx hne=>?_⟩
    ·have:(wr.setCell ⟨q,i,none⟩ (mark k)).heap.size=wr.heap.size:=by simp[World.setCell]
     rw[this];exact hbel.size
    ·exact(heap_setCell_other wr ⟨q,i,none⟩ x (mark k) (fun e=>hne (by rw[e];rfl))).trans (hbel.block x hx hne)
   ·rw[j3,h4];simp only[intOf];omega
  ·obtain rfl:i=n:=om;rw[List.drop_of_length_le om,List.append_nil]at hr;exact jH.down _ _ z1 (fun t ht=>(s1 t om).trans (hs t ht)) (d1.trans hd) hbel hr
theorem Lm.ow_lt{w:World}{Lv:List Value}{k j q:Nat}{v:Value}(h:Lm w Lv k)(hv:Lv[j]? =some v)(hq:v.ownBlock=some q):q<w.heap.size:=by
 obtain⟨n,xs,_,ho,_⟩:=h j v hv;exact(ho.lt q hq).2
theorem WT{a:Act}{w:World}{R:Exit→Act→World→Prop}{b gU lT:Nat}{Lv:List Value}(hz:a.tmps.size=162)(h0:a.tmps.getD 0 undef= .pointer (some ⟨b,0,none⟩))
 (hx:Bx w b gU lT Lv) (hap:UI Lv) (hnb:Nbk b gU Lv) (hl:Lm w Lv 0)
 (kk:∀(a':Act) (w':World),a'.tmps.size=162→a'.tmps.getD 0 undef= .pointer (some ⟨b,0,none⟩)→a'.defers=a.defers→aI w (fun x=>∃(j:Nat) (v:Value),Lv[j]? =some v∧v.ownBlock=some x) w'→Lm w' Lv Lv.length→R .normal a' w'):(apS1 Tryz.f61).wp Tryz.prog R a w:=by
 have hm:=hx.m
 refine wp_seq_k fun K0 hK0=>?_
 have hk0:=PLift.up hK0
 clear hK0
 have jH:=PLift.up kk
 clear kk
 refine wp_region_lit ?_
 go_wp2
 refine hk0.down _ _ ?_
 clear hk0
 refine wp_block ?_
 refine wp_loop (fun a' wr=>∃k:Nat,k≤Lv.length∧a'.tmps.size=162∧a'.tmps.getD 0 undef= .pointer (some ⟨b,0,none⟩)∧a'.tmps.getD 3 undef= .int .i64 (k:Int)∧a'.defers=a.defers∧aI w (fun x=>∃(j:Nat) (v:Value),Lv[j]? =some v∧v.ownBlock=some x) wr∧Lm wr Lv k)
  (fun a' _=>Lv.length-(intOf (a'.tmps.getD 3 undef)).toNat) ?_ ?_
 ·refine⟨0,Nat.zero_le _,by simp[hz],?_,?_,rfl,aI.refl _ _,hl⟩
  ·dsimp only;rw[ae om];exact h0
  ·dsimp only;rw[aA (by simp[hz])];rfl
 ·rintro a' wr ⟨k,hk,hz,h0,h3,hd,hbel,hL⟩;have hxr:Bx wr b gU lT Lv:=hx.keep hbel.size (hbel.block b hx.lb fun⟨j,v,h1,h2⟩=>(hnb j v h1).1 h2) (hbel.block gU hx.ll fun⟨j,v,h1,h2⟩=>(hnb j v h1).2 h2);refine wp_seq ?_;refine RG hz h0 h3 hxr.c0 om (fun hlt a1 z1 s1 d1=>?_) (fun hge a1 z1 s1 d1=>?_)
  ·have uS:k<Lv.length:=om;have hv:Lv[k]? =some Lv[k]:=List.getElem?_eq_getElem uS;generalize Lv[k]=v at hv;obtain⟨n,xs,hn,ho,_⟩:=hL k v hv;refine wp_seq ?_;refine RP z1 ((s1 0 dc).trans h0) ((s1 3 dc).trans h3) hxr hv (hnb k v hv) ho hn fun a2 w2 z2 s2 d2 bel2 ho2=>?_
   refine RH z2 ((s2 3 dc).trans ((s1 3 dc).trans h3)) om fun a3 z3 s3 j3 d3=>?_
   refine⟨⟨k+1,uS,z3,(s3 0 dc).trans ((s2 0 dc).trans ((s1 0 dc).trans h0)),by rw[j3];rfl,d3.trans (d2.trans (d1.trans hd)),sH hbel bel2 (fun x hx=>⟨k,v,hv,hx⟩),fun j u hu=>?_⟩,?_⟩
   ·by_cases hjk:j=k
    ·subst hjk;rw[hv]at hu;cases hu;exact⟨n,_,hn,ho2,fun _=>rfl⟩
    ·obtain⟨n',ys,hn',ho',he'⟩:=hL j u hu;exact⟨n',ys,hn',aP ho' fun q hq=>bel2.block q (ho'.lt q hq).2 (fun e=>hap k j v u q (fun e=>hjk e.symm) hv hu e hq),fun h=>he' om⟩
   ·rw[j3,h3];simp only[intOf];omega
  ·obtain rfl:k=Lv.length:=om;exact jH.down _ _ z1 ((s1 0 dc).trans h0) (d1.trans hd) hbel hL
end Go.Proofs.YtcgfgifjkkmmcaaGreatDoor
namespace Go.Proofs.YtcgfgifjkkmmcaaGreatDoor
open Go Go.RowKit Go.Proofs Ab
def apS2(f:Func):Code:=q1 (q2 (q2 (q2 (qf f))))
def apB2(f:Func):Code:=ql (qb (q2 (apS2 f)))
def apD(f:Func):Code:=qb (q1 (q2 (apB2 f)))
def apE1(f:Func):Code:=q1 (q2 (apD f))
def apF1(f:Func):Code:=ql (qb (q2 (apE1 f)))
def apE2(f:Func):Code:=q1 (q2 (q2 (q2 (apD f))))
def apF2(f:Func):Code:=ql (qb (q2 (apE2 f)))
def Gr(w w':World)(v v':Value)(n m:Nat):Prop:=(∃g cap,v= .slice (some ⟨g,0,none⟩) n cap∧v'= .slice (some ⟨g,0,none⟩) (n+m) cap∧w.grownBy w' (some g))∨((∀q,v'.ownBlock=some q→w.heap.size≤q)∧w.grownBy w' none)
theorem uT{P:Program}(w:World){ops:Array Oper}{rest:List Oper}{o:Oper}{a:Act}{Q:Exit→Act→World→Prop}
 (hg:o.guard=none) (s x:Operand) (t:TypeId) (hop:o.op=Op.call {callee:=Callee.builtin Builtin.append,args:=#[s,x],argTypes:=#[t,t]})
 (e:TypeId) (i:TypeInfo) (z:Value) (bytes:Nat) (h1:P.underlying t=some (.slice e)) (h2:P.info? e=some i) (h3:i.zero=some z) (h4:i.size=1) (h5:i.bytes=bytes) (h6:z.cells.size=1)
 (v:Value) (n:Nat) (xs:List Value) (hs:a.eval s=v) (hown:w.ownsRow 0 e 1 v n xs)
 (ad:Addr) (m c:Nat) (news:List Value) (hx:a.eval x= .slice (some ad) m c) (hn:news.length=m*1) (hc:∀j u,news[j]? =some u→w.cell? (ad.add j)=some u) (h1c:∀u∈news,u.oneCell'=true) (hm:0<m)
 (b1:n+m≤maxLen) (b2:(n+m)*bytes≤140737488355328)
 (hK:∀v' w',w'.ownsRow 0 e 1 v' (n+m) (xs++news)→Gr w w' v v' n m→wpList P ops Q rest (a.put o.dst v') w'):
 wpList P ops Q (o::rest) a w:=by
 rcases hown.2 with ⟨rfl,rfl⟩|⟨g,cap,cur,rfl,hb,hh,hnc,hcm,hcs,htk⟩
 ·have hxs:xs=[]:=List.eq_nil_of_length_eq_zero (by rw[hown.1]);subst hxs;exact wpList_append_grows w hg s x t hop e i z 1 bytes h1 h2 h3 h4 h5 h6 Nat.one_pos none 0 0 [] hs (fun _=>⟨rfl,rfl⟩) rfl (fun b h=>by cases h) ad m c news hx hn hc h1c om b1 b2
   fun v' w' ho hgr=>hK v' w' (dX ho (Nat.zero_le _)) (.inr ⟨fun q hq=>(ho.lt q hq).1,hgr⟩)
 ·by_cases hr:n+m≤cap
  ·refine wpList_plain hg fun K hK'=>?_
   obtain⟨w',hrun,r1,r2⟩:=run_append_fits (P:=P) w 0 t o.type e i 1 h1 h2 h4 g n cap xs hown ad m c news hn hc h1c hr;unfold Oper.wp;simp[execOp,hop,resolve,invoke,builtin,hs,hx,hrun,Result.andThen];exact hK' _ _ (hK _ w' r1 (.inl ⟨g,cap,rfl,rfl,r2⟩))
  ·exact wpList_append_grows w hg s x t hop e i z 1 bytes h1 h2 h3 h4 h5 h6 Nat.one_pos (some ⟨g,0,none⟩) n cap xs hs (fun h=>by cases h) hown.1 (fun b h j u hj=>by cases h;exact hown.cells rfl j u hj) ad m c news hx hn hc h1c om b1 b2
    fun v' w' ho hgr=>hK v' w' (dX ho (Nat.zero_le _)) (.inr ⟨fun q hq=>(ho.lt q hq).1,hgr⟩)
theorem AX:(Tryz.prog.info? 31).map (fun i=>(i.zero,i.size,i.bytes))=some (some (.int .u64 0),1,8):=by kernel_rfl
theorem ag_app{a:Act}{w:World}{R:Exit→Act→World→Prop}{k n:Nat}{g:Value}{xs:List Value}(hz:a.tmps.size=162)(h6:a.tmps.getD 6 undef= .int .i64 (k:Int))(h7:a.tmps.getD 7 undef=g)(hk:k≤1000)(ho:w.ownsRow 0 31 1 g n xs)(hn:n≤2000000000)
 (kk:∀(a':Act) (w1 w':World) (g':Value),a'.tmps.size=162→(∀t,t<68→t≠7→a'.tmps.getD t undef=a.tmps.getD t undef)→a'.tmps.getD 7 undef=g'→a'.defers=a.defers→Below w.heap.size w w1→w'.ownsRow 0 31 1 g' (n+1) (xs++[mark k])→Gr w1 w' g g' n 1→R .normal a' w'):(qb (q1 (q2 (apF1 Tryz.f61)))).wp Tryz.prog R a w:=by
 have g6:=gI hz h6 dc
 have g7:=gI hz h7 dc
 have hw:=pK k om
 obtain⟨i0,hi0,hi1,hi2,hi3⟩:=info_parts AX
 have hoA:=PLift.up ho
 clear ho
 have jH:=PLift.up kk
 clear kk
 have hmax:(n+1)*8≤140737488355328:=om
 refine wp_region_lit ?_
 go_wp2_with (first|(at_builtin;refine uT _ rfl (.tmp 68) (.tmp 72) 22 rfl 31 i0 (.int .u64 0) 8 Tryz.underlying22 hi0 hi1 hi2 hi3 rfl g n xs ?hs ?own ⟨w.heap.size,0,none⟩ 1 1 [mark k] ?hx ?hn ?c3 ?c4 Nat.one_pos ?mx ?bys ?fin))
 case hs=>rw[ak];dsimp only;rw[ae dc,ae dc,ae dc,ae dc,aA (by simp[hz])]
 case own=>exact hoA.down.alloc _
 case hx=>rw[ak];dsimp only;rw[aA (by simp[hz])]
 case hn=>rfl
 case c3=>
  intro j u hj;rw[Addr.add_lit,Nat.zero_add,cell_of_row _ _ j _ _ _ (heap_alloc_new w _)];simpa[mark]using hj
 case c4=>
  intro u hu;simp only[List.mem_cons,List.not_mem_nil,or_false]at hu;rw[hu];rfl
 case mx=>unfold maxLen;omega
 case bys=>exact hmax
 case fin=>
  intro v' w' ho' hgr;go_wp2;refine jH.down _ _ w' v' (by simp[hz]) (fun t ht h7=>?_) ?_ rfl ((Below.refl _ _).alloc (Nat.le_refl _) _) ho' hgr
  ·dsimp only;rw[ae om,ae om,ae om,ae om,ae om,ae om,ae om]
  ·dsimp only;rw[aA (by simp[hz])]
