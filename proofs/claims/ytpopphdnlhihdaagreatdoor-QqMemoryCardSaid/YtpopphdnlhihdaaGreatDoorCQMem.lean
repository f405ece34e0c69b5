import Derived.Test.YtpopphdnlhihdaaGreatDoorU26
set_option linter.all false
set_option maxHeartbeats 10000000
namespace Go.Proofs.YtpopphdnlhihdaaGreatDoor
open Go Go.ChangeShapes Go.WideShapes Go.ChangeAt Go.RowKit Ab
set_option maxRecDepth 100000 in
theorem CV(H:Type)(enc:TypeId×Value→H)(Wo:World)(base:Nat)(args:Array Value)(ds gs:List (DataW H))(before:List MemPlace)
 (hval:∀(j:Nat) t v,Tryz.f3.params[j]? =some t→args[j]? =some v→Value.okWide Tryz.prog Wo .any base t v)
 (hW:DataW.Whole enc Tryz.prog Tryz.f3.params.toList Rows.qqMemorySpec.vars false Wo args.toList ds gs before) (hL:laidMetH Tryz.prog Rows.qqMemoryRow.laid Wo):
 Calls Tryz.prog 3 args Wo fun e W'=>∃v,e= .returned v∧Rows.qqMemorySpec.post enc Tryz.prog Tryz.f3 false true false false Wo args v W':=by
 have hL':laidMet Tryz.prog Rows.qqMemoryRow.laid Wo:=hL
 refine JW (J:=J0) trivial (tj_laid hL' (by first|exact List.mem_cons_self|exact List.mem_cons_of_mem _ List.mem_cons_self|exact List.mem_cons_of_mem _ (List.mem_cons_of_mem _ List.mem_cons_self)) (by first|exact List.mem_cons_self|exact List.mem_cons_of_mem _ List.mem_cons_self|exact List.mem_cons_of_mem _ (List.mem_cons_of_mem _ List.mem_cons_self))) laid rfl (by decide+kernel) rfl Tryz.underlying4 [(30,true,V3)] rfl ⟨⟨OV,rfl⟩,trivial⟩ (fun ds h=>match ds,h with|[_],_=>rfl) hval hW fun av n hq hn=>?_
 obtain⟨a0,av0,x0,n0,m0,rfl,h0,e0,hq,rfl⟩:=hq
 replace e0:a0= .g x0:=e0
 subst e0
 obtain⟨rfl,rfl⟩:=hq
 obtain⟨s0,s1,s2,s3,s4,a0,d0,a1,d1,a2,d2,a3,a4,i,m,k,l,st,e,w⟩:=QCase_L h0
 rw[e]
 exact I4 s0 s1 s2 s3 s4 a0 d0 a1 d1 a2 d2 a3 a4 i m k l st w.a0 w.d0 w.a1 w.d1 w.a3 w.a4 w.l
noncomputable def vO(os:Os):World:=
 {World.holding Tryz.prog os ⟨#[],#[],[]⟩with heap:=(((World.holding Tryz.prog os ⟨#[],#[],[]⟩).heap.modify 0 fun
   | .cells _ t frozen=> .cells (tabi_0.map fun n=>Value.int .u8 n).toArray t frozen
   |o=>o).modify 1 fun
   | .cells _ t frozen=> .cells (tabi_1.map fun n=>Value.int .u8 n).toArray t frozen
   |o=>o)}
theorem JX(os:Os):laidMet Tryz.prog Rows.qqMemoryRow.laid ((vO os).forCall (fun _ _=>0) ⟨#[],#[.agg #[.bool false,.slice none 0 0,.slice none 0 0,.bool false,.slice none 0 0,.slice none 0 0,.bool false,.slice none 0 0,.slice none 0 0,.bool false,.slice none 0 0,.bool false,.slice none 0 0,.int .i64 0,.int .i64 0,.int .i64 0,.slice none 0 0,.string ⟨#[]⟩]],[]⟩).memory:=
 laidMet_of_run' 8 kf kf
theorem GH(os:Os){H:Type}(enc:TypeId×Value→H):∃places,DataW.whole enc Tryz.prog ((vO os).forCall (fun _ _=>0) ⟨#[],#[.agg #[.bool false,.slice none 0 0,.slice none 0 0,.bool false,.slice none 0 0,.slice none 0 0,.bool false,.slice none 0 0,.slice none 0 0,.bool false,.slice none 0 0,.bool false,.slice none 0 0,.int .i64 0,.int .i64 0,.int .i64 0,.slice none 0 0,.string ⟨#[]⟩]],[]⟩).memory Tryz.f3.params.toList Rows.qqMemorySpec.vars false (#[.agg #[.bool false,.slice none 0 0,.slice none 0 0,.bool false,.slice none 0 0,.slice none 0 0,.bool false,.slice none 0 0,.slice none 0 0,.bool false,.slice none 0 0,.bool false,.slice none 0 0,.int .i64 0,.int .i64 0,.int .i64 0,.slice none 0 0,.string ⟨#[]⟩]]:Array Value).toList 8=some ([.agg [.agg [.agg [.lit (.bool false),.nil],.nil],.agg [.agg [.lit (.bool false),.nil],.nil],.agg [.agg [.lit (.bool false),.nil],.nil],.agg [.lit (.bool false),.nil],.agg [.lit (.bool false),.nil],.lit (.int .i64 0),.lit (.int .i64 0),.lit (.int .i64 0),.nil,.lit (.string [])]],[],places):=
 ⟨[],by kernel_rfl⟩
set_option maxRecDepth 100000 in
theorem FH(os:Os)(started:os.Started)(H:Type)(enc:TypeId×Value→H)(F:Stop.Interp):
 ReturnsInHanded {} Tryz.checked os 3 .any ((OpenSpec.ofChange Rows.qqMemorySpec).preRow enc Tryz.prog Tryz.f3 Rows.qqMemoryRow.domain false Rows.qqMemoryRow.laid) (((OpenSpec.ofChange Rows.qqMemorySpec).at F).post enc Tryz.prog Tryz.f3 false true false false):=by
 obtain⟨places,hx⟩:=GH os enc
 refine returnsInHanded_of_row (C:=Tryz.checked) (s:=OpenSpec.ofChange Rows.qqMemorySpec) own started kf Tryz.func3
  (witness_row_at (enc:=enc) (C:=Tryz.checked) false (vO os) #[.agg #[.bool false,.slice none 0 0,.slice none 0 0,.bool false,.slice none 0 0,.slice none 0 0,.bool false,.slice none 0 0,.slice none 0 0,.bool false,.slice none 0 0,.bool false,.slice none 0 0,.int .i64 0,.int .i64 0,.int .i64 0,.slice none 0 0,.string ⟨#[]⟩]] rfl kf kf kf
    (OpenSpec.preRow_of_cond 8 hx kf (fun k hk=>by cases hk) kf (JX os))) ?_
 intro W base args ds gs before hval hW _ hcond _ hL _ _
 exact CV H enc W base args ds gs before hval hW hL
theorem I5:Rows.QqMemorySaid:=
 OpenClaim.holds_of_cond 3 Tryz.f3 rfl rfl rfl rfl rfl rfl rfl ⟨rfl,rfl,rfl,rfl,rfl⟩ rfl rfl rfl rfl rfl kf Tryz.func3 kf
  (of_decide_eq_true kf) (by unfold Func.isWrapper;first|(rw[if_pos (by decide+kernel)];kernel_rfl)|(rw[if_neg (by decide+kernel)];exact⟨rfl,rfl⟩))
  (fun os started H enc _ F=>by rw[OpenClaim.pre_eq_preRow];exact FH os started H enc F)
theorem GI(f:FuncId)(fn:Func)(hf:Tryz.pinned.checked.prog.funcNamed "surd/surdlaw08.QqMemory" =some f)(hfn:Tryz.pinned.checked.prog.funcs[f]? =some fn):
 false=Tryz.pinned.checked.prog.looks []∧∀(j:Nat) t,fn.params[j]? =some t→Tryz.pinned.checked.prog.wantsStandIn t=false:=by
 obtain rfl:f=3:=Option.some.inj ((show Tryz.prog.funcNamed "surd/surdlaw08.QqMemory" =some 3 by kernel_rfl).symm.trans hf)|>.symm
 obtain rfl:fn=Tryz.f3:=(Option.some.inj (Tryz.func3.symm.trans hfn)).symm
 refine⟨by kernel_rfl,fun j t ht=>?_⟩
 rw[Tryz.params3]at ht
 have hm:t∈([30]:List TypeId):=by simpa using Array.mem_of_getElem? ht
 have h:([30].all fun t=>!Tryz.prog.wantsStandIn t)=true:=by kernel_rfl
 show Tryz.prog.wantsStandIn t=false
 simpa using List.all_eq_true.1 h t hm
theorem qqMemory_proved:Rows.QqMemoryCardSaid:=
 Claim7.holds_tied_plain_at .later [] _ _ _ _ I5 (fun _ h=>by cases h) kf (fun _ h=>by cases h) qqMemory_row_tie rfl ⟨rfl,rfl⟩ kf rfl GI kf
