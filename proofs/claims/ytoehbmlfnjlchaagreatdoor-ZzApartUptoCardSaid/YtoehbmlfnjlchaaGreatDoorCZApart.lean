import Derived.Test.YtoehbmlfnjlchaaGreatDoorU22
set_option linter.all false
set_option maxHeartbeats 10000000
namespace Go.Proofs.YtoehbmlfnjlchaaGreatDoor
open Go Go.ChangeShapes Go.WideShapes Go.ChangeAt Go.RowKit Ab
def TD:List Int:=[0,1,56,2,57,49,28,3,61,58,42,50,38,29,17,4,62,47,59,36,45,43,51,22,53,39,33,30,24,18,12,5,63,55,48,27,60,41,37,16,46,35,44,21,52,32,23,11,54,26,40,15,34,20,31,10,25,14,19,9,13,8,7,6]
theorem TE:∀k:Nat,k<64→(TD.map fun n=>V.i .u8 n)[2^k*285870213051353865%18446744073709551616/2^58]? =some (V.i .u8 (k:Int)):=fun k hk=>by
 have key:∀k:Nat,k<64→TD[2^k*285870213051353865%18446744073709551616/2^58]? =some (k:Int):=by decide+kernel
 rw[List.getElem?_map,key k hk];rfl
theorem TF{W:World}{l:List (String×DataW Unit)}(h:laidMet Tryz.prog l W)(m0:("math/bits.deBruijn64tab",Lib.tabData .u8 TD)∈l):Tb W:=by
 have h0:=MQ (P:=Tryz.prog) (g:=0) (by kernel_rfl) (by kernel_rfl) Tryz.underlying106 Tryz.underlying5 (by kernel_rfl) (by kernel_rfl) h m0 (by unfold TD;exact List.cons_ne_nil _ _);refine⟨h0.1,fun k hk=>?_⟩;obtain⟨v,hv,hr⟩:=h0.2 _ _ (TE k hk);rw[hv,(Rep.up (ov:=fun _=>none) hr).bT]
set_option maxRecDepth 100000 in
theorem ve(H:Type)(enc:TypeId×Value→H)(Wo:World)(base:Nat)(args:Array Value)(ds gs:List (DataW H))(before:List MemPlace)
 (hval:∀(j:Nat) t v,Tryz.f3.params[j]? =some t→args[j]? =some v→Value.okWide Tryz.prog Wo .any base t v)
 (hW:DataW.Whole enc Tryz.prog Tryz.f3.params.toList Rows.zzApartSpec.vars false Wo args.toList ds gs before) (hk:Rows.uptoSmall H (ds++gs)=true) (hL:laidMetH Tryz.prog Rows.zzApartUptoRow.laid Wo):
 Calls Tryz.prog 3 args Wo fun e W'=>∃v,e= .returned v∧Rows.zzApartSpec.post enc Tryz.prog Tryz.f3 false true false false Wo args v W':=by
 have hL':laidMet Tryz.prog Rows.zzApartUptoRow.laid Wo:=hL
 refine BI (J:=Tb) (TF hL' (by first|exact List.mem_cons_self|exact List.mem_cons_of_mem _ List.mem_cons_self|exact List.mem_cons_of_mem _ (List.mem_cons_of_mem _ List.mem_cons_self))) (TG fun _=>rfl) laid rfl (by decide+kernel) rfl Tryz.underlying4 [(25,true,QZ),(25,true,QZ),(3,false,TI .i64)] rfl ⟨⟨Iw,rfl⟩,⟨Iw,rfl⟩,⟨Aj Tryz.underlying3,rfl⟩,trivial⟩ (fun ds h=>match ds,h with|[_,_,_],_=>rfl) hval hW fun av n hq hn=>?_
 obtain⟨a0,av0,x0,n0,m0,rfl,h0,e0,hq,rfl⟩:=hq
 replace e0:a0= .g x0:=e0
 subst e0
 obtain⟨a1,av1,x1,n1,m1,rfl,h1,e1,hq,rfl⟩:=hq
 replace e1:a1= .g x1:=e1
 subst e1
 obtain⟨a2,av2,x2,n2,m2,rfl,h2,e2,hq,rfl⟩:=hq
 replace e2:x2=[a2]:=e2
 subst e2
 obtain⟨rfl,rfl⟩:=hq
 have hsm:Rows.uptoBulkAll (ds++gs)≤1048576:=by simpa only[Rows.uptoSmall,decide_eq_true_eq]using hk
 obtain⟨s,a,e0,wa,la⟩:=QZ_L h0
 obtain⟨t,b,e1,wb,lb⟩:=QZ_L h1
 obtain⟨i,e2,wi1,_⟩:=h2
 cases e2
 rw[e0,e1]
 exact BJ s t a b i wa wb om om
def XY:List Int:=[0,1,56,2,57,49,28,3,61,58,42,50,38,29,17,4,62,47,59,36,45,43,51,22,53,39,33,30,24,18,12,5,63,55,48,27,60,41,37,16,46,35,44,21,52,32,23,11,54,26,40,15,34,20,31,10,25,14,19,9,13,8,7,6]
noncomputable def nJ(os:Os):World:=
 {World.holding Tryz.prog os ⟨#[],#[],[]⟩with heap:=((World.holding Tryz.prog os ⟨#[],#[],[]⟩).heap.modify 0 fun
   | .cells _ t frozen=> .cells (XY.map fun n=>Value.int .u8 n).toArray t frozen
   |o=>o)}
theorem Dw(os:Os):laidMet Tryz.prog Rows.zzApartUptoRow.laid ((nJ os).forCall (fun _ _=>0) ⟨#[],#[.agg #[.bool false,.slice none 0 0],.agg #[.bool false,.slice none 0 0],.int .i64 0],[]⟩).memory:=
 laidMet_of_run' 8 (by kernel_rfl) (by kernel_rfl)
theorem Aa(os:Os){H:Type}(enc:TypeId×Value→H):∃places,DataW.whole enc Tryz.prog ((nJ os).forCall (fun _ _=>0) ⟨#[],#[.agg #[.bool false,.slice none 0 0],.agg #[.bool false,.slice none 0 0],.int .i64 0],[]⟩).memory Tryz.f3.params.toList Rows.zzApartSpec.vars false (#[.agg #[.bool false,.slice none 0 0],.agg #[.bool false,.slice none 0 0],.int .i64 0]:Array Value).toList 8=some ([.agg [.lit (.bool false),.nil],.agg [.lit (.bool false),.nil],.lit (.int .i64 0)],[],places):=
 ⟨[],by kernel_rfl⟩
set_option maxRecDepth 100000 in
theorem yh(os:Os)(started:os.Started)(H:Type)(enc:TypeId×Value→H)(F:Stop.Interp):
 ReturnsInHanded {} Tryz.checked os 3 .any ((Rows.OpenSpec.upto Rows.zzApartSpec).preRow enc Tryz.prog Tryz.f3 Rows.zzApartUptoRow.domain false Rows.zzApartUptoRow.laid) (((Rows.OpenSpec.upto Rows.zzApartSpec).at F).post enc Tryz.prog Tryz.f3 false true false false):=by
 obtain⟨places,hx⟩:=Aa os enc
 refine returnsInHanded_of_row (C:=Tryz.checked) (s:=Rows.OpenSpec.upto Rows.zzApartSpec) own started (by kernel_rfl) Tryz.func3
  (witness_row_at (enc:=enc) (C:=Tryz.checked) false (nJ os) #[.agg #[.bool false,.slice none 0 0],.agg #[.bool false,.slice none 0 0],.int .i64 0] rfl (by kernel_rfl) (by kernel_rfl) (by kernel_rfl)
    (OpenSpec.preRow_of_cond 8 hx (by kernel_rfl) (fun k hk=>by cases hk;kernel_rfl) (by kernel_rfl) (Dw os))) ?_
 intro W base args ds gs before hval hW _ hcond _ hL _ _
 exact ve H enc W base args ds gs before hval hW (hcond _ rfl) hL
theorem BK:Rows.ZzApartUptoSaid:=
 OpenClaim.holds_of_cond 3 Tryz.f3 rfl rfl rfl rfl rfl rfl rfl ⟨rfl,rfl,rfl,rfl,rfl⟩ rfl rfl rfl rfl rfl (by kernel_rfl) Tryz.func3 (by kernel_rfl)
  (of_decide_eq_true (by kernel_rfl)) (by unfold Func.isWrapper;first|(rw[if_pos (by decide+kernel)];kernel_rfl)|(rw[if_neg (by decide+kernel)];exact⟨rfl,rfl⟩))
  (fun os started H enc _ F=>by rw[OpenClaim.pre_eq_preRow];exact yh os started H enc F)
theorem Ac(f:FuncId)(fn:Func)(hf:Tryz.pinned.checked.prog.funcNamed "surd/surdlaw07.ZzApart" =some f)(hfn:Tryz.pinned.checked.prog.funcs[f]? =some fn):
 false=Tryz.pinned.checked.prog.looks []∧∀(j:Nat) t,fn.params[j]? =some t→Tryz.pinned.checked.prog.wantsStandIn t=false:=by
 obtain rfl:f=3:=Option.some.inj ((show Tryz.prog.funcNamed "surd/surdlaw07.ZzApart" =some 3 by kernel_rfl).symm.trans hf)|>.symm
 obtain rfl:fn=Tryz.f3:=(Option.some.inj (Tryz.func3.symm.trans hfn)).symm
 refine⟨by kernel_rfl,fun j t ht=>?_⟩
 rw[Tryz.params3]at ht
 have hm:t∈([25,25,3]:List TypeId):=by simpa using Array.mem_of_getElem? ht
 have h:([25,25,3].all fun t=>!Tryz.prog.wantsStandIn t)=true:=by kernel_rfl
 show Tryz.prog.wantsStandIn t=false
 simpa using List.all_eq_true.1 h t hm
theorem zzApart_proved:Rows.ZzApartUptoCardSaid:=
 Claim7.holds_tied_plain_at .later [] _ _ _ _ BK (fun _ h=>by cases h) (by kernel_rfl) (fun _ h=>by cases h) zzApartUpto_row_tie rfl ⟨rfl,rfl⟩ (by kernel_rfl) rfl Ac (by kernel_rfl)
