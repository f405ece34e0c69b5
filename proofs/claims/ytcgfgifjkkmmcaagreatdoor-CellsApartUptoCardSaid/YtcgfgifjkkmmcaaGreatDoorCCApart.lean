import Derived.Test.YtcgfgifjkkmmcaaGreatDoorU30
set_option linter.all false
set_option maxHeartbeats 10000000
namespace Go.Proofs.YtcgfgifjkkmmcaaGreatDoor
open Go Go.ChangeShapes Go.WideShapes Go.ChangeAt Go.RowKit Ab
def UU:List Int:=[0,1,56,2,57,49,28,3,61,58,42,50,38,29,17,4,62,47,59,36,45,43,51,22,53,39,33,30,24,18,12,5,63,55,48,27,60,41,37,16,46,35,44,21,52,32,23,11,54,26,40,15,34,20,31,10,25,14,19,9,13,8,7,6]
theorem UW:∀k:Nat,k<64→(UU.map fun n=>V.i .u8 n)[2^k*285870213051353865%18446744073709551616/2^58]? =some (V.i .u8 (k:Int)):=fun k hk=>by
 have key:∀k:Nat,k<64→UU[2^k*285870213051353865%18446744073709551616/2^58]? =some (k:Int):=by decide+kernel
 rw[List.getElem?_map,key k hk];rfl
def UX:List Int:=[48,49,50,51,52,53,54,55,56,57,97,98,99,100,101,102,103,104,105,106,107,108,109,110,111,112,113,114,115,116,117,118,119,120,121,122]
theorem UY:∀k:Nat,k<10→(UX.map fun n=>V.i .u8 n)[k]? =some (V.i .u8 ((k:Int)+48)):=fun k hk=>by
 have key:∀k:Nat,k<10→UX[k]? =some ((k:Int)+48):=by decide+kernel
 rw[List.getElem?_map,key k hk];rfl
theorem UZ{W:World}{l:List (String×DataW Unit)}(h:laidMet Tryz.prog l W)(m0:("math/bits.deBruijn64tab",Lib.tabData .u8 UU)∈l)(m1:("surd/radix.signs",Lib.tabData .u8 UX)∈l):Jw W:=by
 have h0:=laid_tab (P:=Tryz.prog) (g:=1) kf kf Tryz.underlying162 Tryz.underlying5 kf kf h m0 (by unfold UU;exact List.cons_ne_nil _ _);have h1:=laid_tab (P:=Tryz.prog) (g:=0) kf kf Tryz.underlying158 Tryz.underlying5 kf kf h m1 (by unfold UX;exact List.cons_ne_nil _ _);refine⟨⟨h0.1,fun k hk=>?_⟩,h1.1,fun k hk=>?_⟩
 ·obtain⟨v,hv,hr⟩:=h0.2 _ _ (UW k hk);rw[hv,(Rep.up (ov:=fun _=>none) hr).bP]
 ·obtain⟨v,hv,hr⟩:=h1.2 _ _ (UY k hk);rw[hv,(Rep.up (ov:=fun _=>none) hr).bP]
set_option maxRecDepth 100000 in
theorem uh(H:Type)(enc:TypeId×Value→H)(Wo:World)(base:Nat)(args:Array Value)(ds gs:List (DataW H))(before:List MemPlace)
 (hval:∀(j:Nat) t v,Tryz.f3.params[j]? =some t→args[j]? =some v→Value.okWide Tryz.prog Wo .any base t v)
 (hW:DataW.Whole enc Tryz.prog Tryz.f3.params.toList Rows.cellsApartSpec.vars false Wo args.toList ds gs before) (hk:Rows.uptoSmall H (ds++gs)=true) (hL:laidMetH Tryz.prog Rows.cellsApartUptoRow.laid Wo):
 Calls Tryz.prog 3 args Wo fun e W'=>∃v,e= .returned v∧Rows.cellsApartSpec.post enc Tryz.prog Tryz.f3 false true false false Wo args v W':=by
 have hL':laidMet Tryz.prog Rows.cellsApartUptoRow.laid Wo:=hL
 refine Dn (J:=Jw) (UZ hL' (by first|exact List.mem_cons_self|exact List.mem_cons_of_mem _ List.mem_cons_self|exact List.mem_cons_of_mem _ (List.mem_cons_of_mem _ List.mem_cons_self)) (by first|exact List.mem_cons_self|exact List.mem_cons_of_mem _ List.mem_cons_self|exact List.mem_cons_of_mem _ (List.mem_cons_of_mem _ List.mem_cons_self))) (U0 fun _=>rfl) laid rfl (by decide+kernel) rfl Tryz.underlying4 [(27,true,OC),(29,true,ZE)] rfl ⟨⟨Ho,rfl⟩,⟨LP,rfl⟩,trivial⟩ (fun ds h=>match ds,h with|[_,_],_=>rfl) hval hW fun av n hq hn=>?_
 obtain⟨a0,av0,x0,n0,m0,rfl,h0,e0,hq,rfl⟩:=hq
 replace e0:a0= .g x0:=e0
 subst e0
 obtain⟨a1,av1,x1,n1,m1,rfl,h1,e1,hq,rfl⟩:=hq
 replace e1:a1= .g x1:=e1
 subst e1
 obtain⟨rfl,rfl⟩:=hq
 have hsm:Rows.uptoBulkAll (ds++gs)≤1048576:=by simpa only[Rows.uptoSmall,decide_eq_true_eq]using hk
 obtain⟨s,a,n,p,e0,wa,la,_,_⟩:=U3 h0
 obtain⟨t,b,d,e1,wb,wd,lb,ld⟩:=ZF h1
 rw[e0,e1]
 exact yO s t p a b d n wa om wb om wd om
def ZG:List Int:=[48,49,50,51,52,53,54,55,56,57,97,98,99,100,101,102,103,104,105,106,107,108,109,110,111,112,113,114,115,116,117,118,119,120,121,122]
def ZH:List Int:=[0,1,56,2,57,49,28,3,61,58,42,50,38,29,17,4,62,47,59,36,45,43,51,22,53,39,33,30,24,18,12,5,63,55,48,27,60,41,37,16,46,35,44,21,52,32,23,11,54,26,40,15,34,20,31,10,25,14,19,9,13,8,7,6]
noncomputable def jW(os:Os):World:=
 {World.holding Tryz.prog os ⟨#[],#[],[]⟩with heap:=(((World.holding Tryz.prog os ⟨#[],#[],[]⟩).heap.modify 0 fun
   | .cells _ t frozen=> .cells (ZG.map fun n=>Value.int .u8 n).toArray t frozen
   |o=>o).modify 1 fun
   | .cells _ t frozen=> .cells (ZH.map fun n=>Value.int .u8 n).toArray t frozen
   |o=>o)}
theorem zC(os:Os):laidMet Tryz.prog Rows.cellsApartUptoRow.laid ((jW os).forCall (fun _ _=>0) ⟨#[],#[.agg #[.bool false,.slice none 0 0,.int .i64 0,.bool false],.agg #[.bool false,.slice none 0 0,.slice none 0 0]],[]⟩).memory:=
 laidMet_of_run' 8 kf kf
theorem xg(os:Os){H:Type}(enc:TypeId×Value→H):∃places,DataW.whole enc Tryz.prog ((jW os).forCall (fun _ _=>0) ⟨#[],#[.agg #[.bool false,.slice none 0 0,.int .i64 0,.bool false],.agg #[.bool false,.slice none 0 0,.slice none 0 0]],[]⟩).memory Tryz.f3.params.toList Rows.cellsApartSpec.vars false (#[.agg #[.bool false,.slice none 0 0,.int .i64 0,.bool false],.agg #[.bool false,.slice none 0 0,.slice none 0 0]]:Array Value).toList 8=some ([.agg [.agg [.lit (.bool false),.nil],.lit (.int .i64 0),.lit (.bool false)],.agg [.agg [.lit (.bool false),.nil],.nil]],[],places):=
 ⟨[],by kernel_rfl⟩
set_option maxRecDepth 100000 in
theorem vI(os:Os)(started:os.Started)(H:Type)(enc:TypeId×Value→H)(F:Stop.Interp):
 ReturnsInHanded {} Tryz.checked os 3 .any ((Rows.OpenSpec.upto Rows.cellsApartSpec).preRow enc Tryz.prog Tryz.f3 Rows.cellsApartUptoRow.domain false Rows.cellsApartUptoRow.laid) (((Rows.OpenSpec.upto Rows.cellsApartSpec).at F).post enc Tryz.prog Tryz.f3 false true false false):=by
 obtain⟨places,hx⟩:=xg os enc
 refine returnsInHanded_of_row (C:=Tryz.checked) (s:=Rows.OpenSpec.upto Rows.cellsApartSpec) own started kf Tryz.func3
  (witness_row_at (enc:=enc) (C:=Tryz.checked) false (jW os) #[.agg #[.bool false,.slice none 0 0,.int .i64 0,.bool false],.agg #[.bool false,.slice none 0 0,.slice none 0 0]] rfl kf kf kf
    (OpenSpec.preRow_of_cond 8 hx kf (fun k hk=>by cases hk;kernel_rfl) kf (zC os))) ?_
 intro W base args ds gs before hval hW _ hcond _ hL _ _
 exact uh H enc W base args ds gs before hval hW (hcond _ rfl) hL
theorem yP:Rows.CellsApartUptoSaid:=
 OpenClaim.holds_of_cond 3 Tryz.f3 rfl rfl rfl rfl rfl rfl rfl ⟨rfl,rfl,rfl,rfl,rfl⟩ rfl rfl rfl rfl rfl kf Tryz.func3 kf
  (of_decide_eq_true kf) (by unfold Func.isWrapper;first|(rw[if_pos (by decide+kernel)];kernel_rfl)|(rw[if_neg (by decide+kernel)];exact⟨rfl,rfl⟩))
  (fun os started H enc _ F=>by rw[OpenClaim.pre_eq_preRow];exact vI os started H enc F)
theorem xh(f:FuncId)(fn:Func)(hf:Tryz.pinned.checked.prog.funcNamed "surd/surdlaw19.CellsApart" =some f)(hfn:Tryz.pinned.checked.prog.funcs[f]? =some fn):
 false=Tryz.pinned.checked.prog.looks []∧∀(j:Nat) t,fn.params[j]? =some t→Tryz.pinned.checked.prog.wantsStandIn t=false:=by
 obtain rfl:f=3:=Option.some.inj ((show Tryz.prog.funcNamed "surd/surdlaw19.CellsApart" =some 3 by kernel_rfl).symm.trans hf)|>.symm
 obtain rfl:fn=Tryz.f3:=(Option.some.inj (Tryz.func3.symm.trans hfn)).symm
 refine⟨by kernel_rfl,fun j t ht=>?_⟩
 rw[Tryz.params3]at ht
 have hm:t∈([27,29]:List TypeId):=by simpa using Array.mem_of_getElem? ht
 have h:([27,29].all fun t=>!Tryz.prog.wantsStandIn t)=true:=by kernel_rfl
 show Tryz.prog.wantsStandIn t=false
 simpa using List.all_eq_true.1 h t hm
theorem cellsApart_proved:Rows.CellsApartUptoCardSaid:=
 Claim7.holds_tied_plain_at .later [] _ _ _ _ yP (fun _ h=>by cases h) kf (fun _ h=>by cases h) cellsApartUpto_row_tie rfl ⟨rfl,rfl⟩ kf rfl xh kf
