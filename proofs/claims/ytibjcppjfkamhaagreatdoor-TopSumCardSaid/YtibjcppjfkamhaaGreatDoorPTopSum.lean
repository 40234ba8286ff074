/- It is proved that qctop.TopSum returns true, for all arguments, and leaves them as they were. -/
import Derived.Test.YtibjcppjfkamhaaGreatDoorOp
import Derived.Test.YtibjcppjfkamhaaGreatDoorWk5
import Derived.Test.YtibjcppjfkamhaaGreatDoorLTopSum
import Derived.Test.YtibjcppjfkamhaaGreatDoorCards
import Derived.Test.YtibjcppjfkamhaaGreatDoorTie
import Derived.OpenShut
import Derived.Deep.DeepHandedRow
import Derived.Deep.DeepWitnessRowRef
import Derived.LaidMore
import Derived.SevenTiedAt
import Derived.LaidHandle
namespace Go.Proofs.YtibjcppjfkamhaaGreatDoor
open Go.ChangeShapes Go.WideShapes Go.ChangeAt Go.RowKit Go.Deep
set_option linter.unusedVariables false

namespace topSum
theorem own : ownKnob Tryz.prog.godebug=none:=by kernel_rfl
theorem readable : ∀t∈Tryz.f3.params.toList,Tryz.prog.readableRec t=true∧t < Tryz.prog.types.size:=by
  have h:(Tryz.f3.params.toList.all fun t=>Tryz.prog.readableRec t && decide (t < Tryz.prog.types.size))=true:=by kernel_rfl
  intro t ht
  have:=List.all_eq_true.1 h t ht
  simpa using this
theorem met (os:Go.Os):laidMetH Tryz.prog Rows.topSumRow.laid ((World.doorLaid Tryz.prog 62 os).forCall (fun _ _=>0) ⟨#[],#[.int .i64 0,.int .i64 0,.int .i64 0],[]⟩).memory :=
  laidMetH_of_parts3 (fuel:=8) (laidMet_of_run' 8 (by kernel_rfl) (by kernel_rfl)) (by kernel_rfl) (by kernel_rfl)
theorem reads (os:Go.Os) {H:Type} (enc:TypeId×Value→H):∃places,DataW.whole enc Tryz.prog ((World.doorLaid Tryz.prog 62 os).forCall (fun _ _=>0) ⟨#[],#[.int .i64 0,.int .i64 0,.int .i64 0],[]⟩).memory Tryz.f3.params.toList Rows.topSumSpec.vars false #[Value.int .i64 0,.int .i64 0,.int .i64 0].toList 12=some ([.lit (.int .i64 0),.lit (.int .i64 0),.lit (.int .i64 0)],[],places) :=
  ⟨[],by kernel_rfl⟩
set_option maxRecDepth 100000 in
theorem lifted (os:Go.Os) (started:os.Started) (H:Type) (enc:TypeId×Value→H) (F:Stop.Interp) :
    ReturnsInHanded {} Tryz.checked os 3 .any ((OpenSpec.ofChange Rows.topSumSpec).preRow enc Tryz.prog Tryz.f3 Rows.topSumRow.domain false Rows.topSumRow.laid) (((OpenSpec.ofChange Rows.topSumSpec).at F).post enc Tryz.prog Tryz.f3 false true false false):=by
  obtain ⟨places,hx⟩:=reads os enc
  refine returnsInHanded_of_row (C:=Tryz.checked) (s:=OpenSpec.ofChange Rows.topSumSpec) own started (by kernel_rfl) Tryz.func3
    (witness_row_atRef (enc:=enc) (C:=Tryz.checked) false (World.doorLaid Tryz.prog 62 os) #[.int .i64 0,.int .i64 0,.int .i64 0] rfl (by kernel_rfl) (by kernel_rfl) (by kernel_rfl)
      (OpenSpec.preRow_of_cond 12 hx (by kernel_rfl) (fun k hk=>by cases hk) (by kernel_rfl) (met os))) ?_
  intro W base args ds gs before hval0 hW _ hcnd _ hL hsh _
  have hG:GLw W:=GLw.ofLaid hL (by kernel_rfl) (by kernel_rfl) hsh
  have hval:∀(j:Nat) t v,Tryz.f3.params[j]?=some t→args[j]?=some v→Value.okWide Tryz.prog W .any base t v:=hval0
  have hW':=hW
  have hlt:∀p∈before,p.block < W.heap.size:=fun p hp=>hW.lt p hp
  obtain ⟨p,q,hA0,hV,rfl,hfz,hnd⟩:=hW
  have hA:DataW.TrodAll enc Tryz.prog W 0 (fun _=>true) true Tryz.f3.params.toList args.toList ds p:=hA0
  rw [Tryz.params3] at hA hval
  obtain ⟨v0,vs0,d0,ds0,p0,q0,hargs,rfl,rfl,h0,r0⟩:=trodAll_cons hA
  obtain ⟨v1,vs1,d1,ds1,p1,q1,rfl,rfl,rfl,h1,r1⟩:=trodAll_cons r0
  obtain ⟨v2,vs2,d2,ds2,p2,q2,rfl,rfl,rfl,h2,r2⟩:=trodAll_cons r1
  obtain ⟨rfl,rfl,rfl⟩:=trodAll_nil r2
  obtain rfl:args=#[v0,v1,v2]:=by cases args; simp_all
  obtain ⟨rfl,rfl⟩:=trodVars_none hV
  obtain ⟨n0,rfl⟩:=okWide_int Tryz.underlying3 (hval 0 3 v0 rfl rfl)
  obtain ⟨fuel0,hf0⟩:=h0
  obtain ⟨a0,rr0,_,_,ok0,bk0⟩:=(aD9.int Tryz.underlying3).out hf0
  replace bk0:bkI a0≤Rows.uptoBulk d0:=bk0
  obtain ⟨n1,rfl⟩:=okWide_int Tryz.underlying3 (hval 1 3 v1 rfl rfl)
  obtain ⟨fuel1,hf1⟩:=h1
  obtain ⟨a1,rr1,_,_,ok1,bk1⟩:=(aD9.int Tryz.underlying3).out hf1
  replace bk1:bkI a1≤Rows.uptoBulk d1:=bk1
  obtain ⟨n2,rfl⟩:=okWide_int Tryz.underlying3 (hval 2 3 v2 rfl rfl)
  obtain ⟨fuel2,hf2⟩:=h2
  obtain ⟨a2,rr2,_,_,ok2,bk2⟩:=(aD9.int Tryz.underlying3).out hf2
  replace bk2:bkI a2≤Rows.uptoBulk d2:=bk2
  have hrd:F6 (bS7 W) W #[_,_,_].toList [_,_,_]:=.cons (aN0 rr0) (.cons (aN0 rr1) (.cons (aN0 rr2) (.nil)))
  obtain ⟨N,hN⟩:=cL6 a0 a1 a2 ok0 ok1 ok2 (Nat.le_of_ble_eq_true (by kernel_rfl))
  refine (Spec.lawG (b05 N a0 a1 a2 true hN) hG hrd).mono fun e W' ⟨he,hg⟩=>?_
  subst he
  exact ⟨_,rfl,aX8 (s:=Rows.topSumSpec) (pv:=[]) hW' (fun _ _ _=>(trodAll_cons_mk (shut_bool Tryz.underlying4 _) trodAll_mk0)) (fun sp hsp=>aP6 (by kernel_rfl) hg sp readable hA0 (fun p hp=>hlt p (by first|simpa using Or.inl hp|simpa using hp)) (fun p hp=>hsp p (by first|simpa using Or.inl hp|simpa using hp))) (fun _ _=>rfl) rfl
    hg (ok_one (by kernel_rfl) rfl (okWide_bool_mk Tryz.underlying4 _))⟩
theorem over : Rows.TopSumSaid :=
  OpenClaim.holds_of_cond 3 Tryz.f3 rfl rfl rfl rfl rfl rfl rfl ⟨rfl,rfl,rfl,rfl,rfl⟩ rfl rfl rfl rfl rfl (by kernel_rfl) Tryz.func3 (by kernel_rfl)
    (of_decide_eq_true (by kernel_rfl)) (by unfold Func.isWrapper; first|(rw [if_pos (by decide +kernel)]; kernel_rfl)|(rw [if_neg (by decide +kernel)]; exact ⟨rfl,rfl⟩))
    (fun os started H enc _ F=>by rw [OpenClaim.pre_eq_preRow]; exact lifted os started H enc F)
theorem plain (f : FuncId) (fn : Func) (hf : Tryz.pinned.checked.prog.funcNamed "quickchange/qctop.TopSum" = some f) (hfn : Tryz.pinned.checked.prog.funcs[f]? = some fn) :
    true=Tryz.pinned.checked.prog.looks []∧∀(j:Nat) t,fn.params[j]?=some t→Tryz.pinned.checked.prog.wantsStandIn t=false:=by
  obtain rfl : f = 3 := Option.some.inj ((show Tryz.prog.funcNamed "quickchange/qctop.TopSum" = some 3 by kernel_rfl).symm.trans hf) |>.symm
  obtain rfl:fn=Tryz.f3:=(Option.some.inj (Tryz.func3.symm.trans hfn)).symm
  refine ⟨by kernel_rfl,fun j t ht=>?_⟩
  rw [Tryz.params3] at ht
  have hm:t∈[3,3,3]:=by simpa using Array.mem_of_getElem? ht
  have hall:([3,3,3].all fun u=>!Tryz.prog.wantsStandIn u)=true:=by kernel_rfl
  exact (show Tryz.prog.wantsStandIn t=false by simpa using List.all_eq_true.1 hall t hm)
theorem proved : Rows.TopSumCardSaid :=
  Claim7.holds_tied_plain_at .later [] _ _ _ _ over (fun _ h=>by cases h) (by kernel_rfl) (fun _ h=>by cases h) topSum_row_tie rfl ⟨rfl,rfl⟩ (by kernel_rfl) rfl plain (by kernel_rfl)
end topSum
end Go.Proofs.YtibjcppjfkamhaaGreatDoor
