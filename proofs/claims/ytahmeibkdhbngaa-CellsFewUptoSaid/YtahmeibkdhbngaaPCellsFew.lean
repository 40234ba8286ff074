/- It is proved that qclaw6.CellsFew returns true, for all arguments, and leaves them as they were. Its condition: what it reads is of bulk at most 1048576. -/
import Derived.Test.YtahmeibkdhbngaaOp
import Derived.Test.YtahmeibkdhbngaaWk1
import Derived.Test.YtahmeibkdhbngaaLCellsFew
namespace Go.Proofs.Ytahmeibkdhbngaa
open Go.ChangeShapes Go.WideShapes Go.ChangeAt Go.RowKit Go.Deep
set_option linter.unusedVariables false

namespace cellsFew
theorem own : ownKnob Try.prog.godebug=none:=by kernel_rfl
theorem readable : ∀t∈Try.f3.params.toList,Try.prog.readableRec t=true∧t < Try.prog.types.size:=by
  have h:(Try.f3.params.toList.all fun t=>Try.prog.readableRec t && decide (t < Try.prog.types.size))=true:=by kernel_rfl
  intro t ht
  have:=List.all_eq_true.1 h t ht
  simpa using this
set_option maxRecDepth 100000 in
theorem lifted (os:Go.Os) (started:os.Started) (H:Type) (enc:TypeId×Value→H) (F:Stop.Interp) :
    ReturnsInHanded {} Try.checked os 3 .any ((Rows.OpenSpec.upto Rows.cellsFewSpec).pre6 enc Try.prog Try.f3 Rows.cellsFewUptoRow.domain false) (((Rows.OpenSpec.upto Rows.cellsFewSpec).at F).post enc Try.prog Try.f3 false true false false):=by
  refine returnsInHanded_of_cond (C:=Try.checked) (s:=Rows.OpenSpec.upto Rows.cellsFewSpec) (k:=Rows.uptoSmall) rfl own started (by kernel_rfl) Try.func3
    (OpenSpec.witness (enc:=enc) (C:=Try.checked) (s:=Rows.OpenSpec.upto Rows.cellsFewSpec) (k:=Rows.uptoSmall) rfl false ⟨#[],#[.agg #[.int .i64 0,.string ⟨#[]⟩,.int .i64 0],.int .i64 0,.slice none 0 0],[]⟩ 12 (by kernel_rfl) (by kernel_rfl) (by kernel_rfl)
      (x:=([.agg [.lit (.int .i64 0),.lit (.string []),.lit (.int .i64 0)],.lit (.int .i64 0),.nil],[],[])) (by kernel_rfl) rfl (by kernel_rfl)) ?_
  intro W base args ds gs before hval0 hW hcnd hk _
  have hval:∀(j:Nat) t v,Try.f3.params[j]?=some t→args[j]?=some v→Value.okWide Try.prog W .any base t v:=hval0
  have hW':=hW
  have hlt:∀p∈before,p.block < W.heap.size:=fun p hp=>hW.lt p hp
  obtain ⟨p,q,hA0,hV,rfl,hfz,hnd⟩:=hW
  have hA:DataW.TrodAll enc Try.prog W 0 (fun _=>true) true Try.f3.params.toList args.toList ds p:=hA0
  rw [Try.params3] at hA hval
  obtain ⟨v0,vs0,d0,ds0,p0,q0,hargs,rfl,rfl,h0,r0⟩:=trodAll_cons hA
  obtain ⟨v1,vs1,d1,ds1,p1,q1,rfl,rfl,rfl,h1,r1⟩:=trodAll_cons r0
  obtain ⟨v2,vs2,d2,ds2,p2,q2,rfl,rfl,rfl,h2,r2⟩:=trodAll_cons r1
  obtain ⟨rfl,rfl,rfl⟩:=trodAll_nil r2
  obtain rfl:args=#[v0,v1,v2]:=by cases args; simp_all
  obtain ⟨rfl,rfl⟩:=trodVars_none hV
  obtain ⟨cs0,rfl,_⟩:=okWide_struct Try.underlying23 (hval 0 23 v0 rfl rfl)
  obtain ⟨fuel0,hf0⟩:=h0
  obtain ⟨a0,rr0,_,_,ok0,bk0⟩:=bM6.out hf0
  replace bk0:bB7 a0≤Rows.uptoBulk d0:=bk0
  obtain ⟨n1,rfl⟩:=okWide_int Try.underlying3 (hval 1 3 v1 rfl rfl)
  obtain ⟨fuel1,hf1⟩:=h1
  obtain ⟨a1,rr1,_,_,ok1,bk1⟩:=(O6.int Try.underlying3).out hf1
  replace bk1:bkI a1≤Rows.uptoBulk d1:=bk1
  obtain ⟨A2,n2,c2,rfl⟩:=okWide_slice Try.underlying24 (hval 2 24 v2 rfl rfl)
  obtain ⟨fuel2,hf2⟩:=h2
  obtain ⟨a2,rr2,_,_,ok2,bk2⟩:=bL6.out hf2
  replace bk2:(bkL bkI) a2≤Rows.uptoBulk d2:=bk2
  have hsm:=bF8 hk
  simp only [List.append_nil,Rows.uptoBulkAll] at hsm
  have hrd:l6 (bK6 W) W #[_,_,_].toList [_,_,_]:=.cons (bM9 rr0) (.cons (bA6 rr1) (.cons (bA6 rr2) (.nil)))
  obtain ⟨N,hN⟩:=a81 a0 a1 a2 ok0 ok1 ok2 (by omega)
  refine (Spec.law (aL4 N a0 a1 a2 true hN) hrd).mono fun e W' ⟨he,hg⟩=>?_
  subst he
  exact ⟨_,rfl,aX0 (s:=Rows.cellsFewSpec) (pv:=[]) hW' (fun _ _ _=>(trodAll_cons_mk (shut_bool Try.underlying4 _) trodAll_mk0)) (fun sp hsp=>aK9 (by kernel_rfl) hg sp readable hA0 (fun p hp=>hlt p (by first|simpa using Or.inl hp|simpa using hp)) (fun p hp=>hsp p (by first|simpa using Or.inl hp|simpa using hp))) (fun _ _=>rfl) rfl
    hg (ok_one (by kernel_rfl) rfl (okWide_bool_mk Try.underlying4 _))⟩
theorem over : Rows.cellsFewUptoRow.holds Try.pinned (Rows.OpenSpec.upto Rows.cellsFewSpec) :=
  OpenClaim.holds_of_cond 3 Try.f3 rfl rfl rfl rfl rfl rfl rfl ⟨rfl,rfl,rfl,rfl,rfl⟩ rfl rfl rfl rfl rfl (by kernel_rfl) Try.func3 (by kernel_rfl)
    (of_decide_eq_true (by kernel_rfl)) (by unfold Func.isWrapper; first|(rw [if_pos (by decide +kernel)]; kernel_rfl)|(rw [if_neg (by decide +kernel)]; exact ⟨rfl,rfl⟩))
    (fun os started H enc _ F=>lifted os started H enc F)
theorem proved : Rows.CellsFewUptoSaid :=
  over
end cellsFew
end Go.Proofs.Ytahmeibkdhbngaa
