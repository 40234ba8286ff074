/- It is proved that qclaw4.WireCut returns true, for all arguments, and leaves them as they were. Its condition: what it reads is of bulk at most 1048576. -/
import Derived.Test.YtibjcppjfkamhaaDoorOp
import Derived.Test.YtibjcppjfkamhaaDoorWk2
import Derived.Test.YtibjcppjfkamhaaDoorLWireCut
import Derived.Test.YtibjcppjfkamhaaDoorCards
import Derived.Test.YtibjcppjfkamhaaDoorTie
import Derived.OpenShut
import Derived.Deep.DeepHandedRow
import Derived.Deep.DeepWitnessRowRef
import Derived.LaidMore
import Derived.SevenTiedAt
import Derived.LaidHandle
namespace Go.Proofs.YtibjcppjfkamhaaDoor
open Go.ChangeShapes Go.WideShapes Go.ChangeAt Go.RowKit Go.Deep
set_option linter.unusedVariables false

namespace wireCut
theorem own : ownKnob Tryd.prog.godebug=none:=by kernel_rfl
theorem readable : ∀t∈Tryd.f4.params.toList,Tryd.prog.readableRec t=true∧t < Tryd.prog.types.size:=by
  have h:(Tryd.f4.params.toList.all fun t=>Tryd.prog.readableRec t && decide (t < Tryd.prog.types.size))=true:=by kernel_rfl
  intro t ht
  have:=List.all_eq_true.1 h t ht
  simpa using this
theorem met (os:Go.Os):laidMetH Tryd.prog Rows.wireCutUptoRow.laid ((World.doorLaid Tryd.prog 62 os).forCall (fun _ _=>0) ⟨#[],#[.agg #[.slice none 0 0,.slice none 0 0,.int .i64 0],.int .i64 0],[]⟩).memory :=
  laidMetH_of_parts3 (fuel:=8) (laidMet_of_run' 8 (by kernel_rfl) (by kernel_rfl)) (by kernel_rfl) (by kernel_rfl)
theorem reads (os:Go.Os) {H:Type} (enc:TypeId×Value→H):∃places,DataW.whole enc Tryd.prog ((World.doorLaid Tryd.prog 62 os).forCall (fun _ _=>0) ⟨#[],#[.agg #[.slice none 0 0,.slice none 0 0,.int .i64 0],.int .i64 0],[]⟩).memory Tryd.f4.params.toList Rows.wireCutSpec.vars false #[Value.agg #[.slice none 0 0,.slice none 0 0,.int .i64 0],.int .i64 0].toList 12=some ([.agg [.nil,.nil,.lit (.int .i64 0)],.lit (.int .i64 0)],[],places) :=
  ⟨[],by kernel_rfl⟩
set_option maxRecDepth 100000 in
theorem lifted (os:Go.Os) (started:os.Started) (H:Type) (enc:TypeId×Value→H) (F:Stop.Interp) :
    ReturnsInHanded {} Tryd.checked os 4 .any ((Rows.OpenSpec.upto Rows.wireCutSpec).preRow enc Tryd.prog Tryd.f4 Rows.wireCutUptoRow.domain false Rows.wireCutUptoRow.laid) (((Rows.OpenSpec.upto Rows.wireCutSpec).at F).post enc Tryd.prog Tryd.f4 false true false false):=by
  obtain ⟨places,hx⟩:=reads os enc
  refine returnsInHanded_of_row (C:=Tryd.checked) (s:=Rows.OpenSpec.upto Rows.wireCutSpec) own started (by kernel_rfl) Tryd.func4
    (witness_row_atRef (enc:=enc) (C:=Tryd.checked) false (World.doorLaid Tryd.prog 62 os) #[.agg #[.slice none 0 0,.slice none 0 0,.int .i64 0],.int .i64 0] rfl (by kernel_rfl) (by kernel_rfl) (by kernel_rfl)
      (OpenSpec.preRow_of_cond 12 hx (by kernel_rfl) (fun k hk=>by cases hk; kernel_rfl) (by kernel_rfl) (met os))) ?_
  intro W base args ds gs before hval0 hW _ hcnd _ hL hsh _
  have hG:GLw W:=GLw.ofLaid hL (by kernel_rfl) (by kernel_rfl) hsh
  have hk:Rows.uptoSmall H (ds++gs)=true:=hcnd _ rfl
  have hval:∀(j:Nat) t v,Tryd.f4.params[j]?=some t→args[j]?=some v→Value.okWide Tryd.prog W .any base t v:=hval0
  have hW':=hW
  have hlt:∀p∈before,p.block < W.heap.size:=fun p hp=>hW.lt p hp
  obtain ⟨p,q,hA0,hV,rfl,hfz,hnd⟩:=hW
  have hA:DataW.TrodAll enc Tryd.prog W 0 (fun _=>true) true Tryd.f4.params.toList args.toList ds p:=hA0
  rw [Tryd.params4] at hA hval
  obtain ⟨v0,vs0,d0,ds0,p0,q0,hargs,rfl,rfl,h0,r0⟩:=trodAll_cons hA
  obtain ⟨v1,vs1,d1,ds1,p1,q1,rfl,rfl,rfl,h1,r1⟩:=trodAll_cons r0
  obtain ⟨rfl,rfl,rfl⟩:=trodAll_nil r1
  obtain rfl:args=#[v0,v1]:=by cases args; simp_all
  obtain ⟨rfl,rfl⟩:=trodVars_none hV
  obtain ⟨cs0,rfl,_⟩:=okWide_struct Tryd.underlying25 (hval 0 25 v0 rfl rfl)
  obtain ⟨fuel0,hf0⟩:=h0
  obtain ⟨a0,rr0,_,_,ok0,bk0⟩:=cF1.out hf0
  replace bk0:aV2 a0≤Rows.uptoBulk d0:=bk0
  obtain ⟨n1,rfl⟩:=okWide_int Tryd.underlying3 (hval 1 3 v1 rfl rfl)
  obtain ⟨fuel1,hf1⟩:=h1
  obtain ⟨a1,rr1,_,_,ok1,bk1⟩:=(F4.int Tryd.underlying3).out hf1
  replace bk1:bkI a1≤Rows.uptoBulk d1:=bk1
  have hsm:=b47 hk
  simp only [List.append_nil,Rows.uptoBulkAll] at hsm
  have hrd:q9 (bR7 W) W #[_,_].toList [_,_]:=.cons (cH7 rr0) (.cons (cF5 rr1) (.nil))
  obtain ⟨N,hN⟩:=bU2 a0 a1 ok0 ok1 (by omega)
  refine (Spec.lawG (a15 N a0 a1 true hN) hG hrd).mono fun e W' ⟨he,hg⟩=>?_
  subst he
  exact ⟨_,rfl,bL3 (s:=Rows.wireCutSpec) (pv:=[]) hW' (fun _ _ _=>(trodAll_cons_mk (shut_bool Tryd.underlying4 _) trodAll_mk0)) (fun sp hsp=>aX1 (by kernel_rfl) hg sp readable hA0 (fun p hp=>hlt p (by first|simpa using Or.inl hp|simpa using hp)) (fun p hp=>hsp p (by first|simpa using Or.inl hp|simpa using hp))) (fun _ _=>rfl) rfl
    hg (ok_one (by kernel_rfl) rfl (okWide_bool_mk Tryd.underlying4 _))⟩
theorem over : Rows.WireCutUptoSaid :=
  OpenClaim.holds_of_cond 4 Tryd.f4 rfl rfl rfl rfl rfl rfl rfl ⟨rfl,rfl,rfl,rfl,rfl⟩ rfl rfl rfl rfl rfl (by kernel_rfl) Tryd.func4 (by kernel_rfl)
    (of_decide_eq_true (by kernel_rfl)) (by unfold Func.isWrapper; first|(rw [if_pos (by decide +kernel)]; kernel_rfl)|(rw [if_neg (by decide +kernel)]; exact ⟨rfl,rfl⟩))
    (fun os started H enc _ F=>by rw [OpenClaim.pre_eq_preRow]; exact lifted os started H enc F)
theorem plain (f : FuncId) (fn : Func) (hf : Tryd.pinned.checked.prog.funcNamed "quickchange/qclaw4.WireCut" = some f) (hfn : Tryd.pinned.checked.prog.funcs[f]? = some fn) :
    true=Tryd.pinned.checked.prog.looks []∧∀(j:Nat) t,fn.params[j]?=some t→Tryd.pinned.checked.prog.wantsStandIn t=false:=by
  obtain rfl : f = 4 := Option.some.inj ((show Tryd.prog.funcNamed "quickchange/qclaw4.WireCut" = some 4 by kernel_rfl).symm.trans hf) |>.symm
  obtain rfl:fn=Tryd.f4:=(Option.some.inj (Tryd.func4.symm.trans hfn)).symm
  refine ⟨by kernel_rfl,fun j t ht=>?_⟩
  rw [Tryd.params4] at ht
  have hm:t∈[25,3]:=by simpa using Array.mem_of_getElem? ht
  have hall:([25,3].all fun u=>!Tryd.prog.wantsStandIn u)=true:=by kernel_rfl
  exact (show Tryd.prog.wantsStandIn t=false by simpa using List.all_eq_true.1 hall t hm)
theorem proved : Rows.WireCutUptoCardSaid :=
  Claim7.holds_tied_plain_at .later [] _ _ _ _ over (fun _ h=>by cases h) (by kernel_rfl) (fun _ h=>by cases h) wireCutUpto_row_tie rfl ⟨rfl,rfl⟩ (by kernel_rfl) rfl plain (by kernel_rfl)
end wireCut
end Go.Proofs.YtibjcppjfkamhaaDoor
