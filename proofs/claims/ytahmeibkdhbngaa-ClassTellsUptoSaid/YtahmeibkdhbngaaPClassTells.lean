/- It is proved that qclaw2.ClassTells returns true, for all arguments, and leaves them as they were. Its condition: what it reads is of bulk at most 1048576. -/
import Derived.Test.YtahmeibkdhbngaaOp
import Derived.Test.YtahmeibkdhbngaaWk1
import Derived.Test.YtahmeibkdhbngaaLClassTells
namespace Go.Proofs.Ytahmeibkdhbngaa
open Go.ChangeShapes Go.WideShapes Go.ChangeAt Go.RowKit Go.Deep
set_option linter.unusedVariables false

namespace classTells
theorem own : ownKnob Try.prog.godebug=none:=by kernel_rfl
theorem readable : ∀t∈Try.f7.params.toList,Try.prog.readableRec t=true∧t < Try.prog.types.size:=by
  have h:(Try.f7.params.toList.all fun t=>Try.prog.readableRec t && decide (t < Try.prog.types.size))=true:=by kernel_rfl
  intro t ht
  have:=List.all_eq_true.1 h t ht
  simpa using this
set_option maxRecDepth 100000 in
theorem lifted (os:Go.Os) (started:os.Started) (H:Type) (enc:TypeId×Value→H) (F:Stop.Interp) :
    ReturnsInHanded {} Try.checked os 7 .any ((Rows.OpenSpec.upto Rows.classTellsSpec).pre6 enc Try.prog Try.f7 Rows.classTellsUptoRow.domain false) (((Rows.OpenSpec.upto Rows.classTellsSpec).at F).post enc Try.prog Try.f7 false true false false):=by
  refine returnsInHanded_of_cond (C:=Try.checked) (s:=Rows.OpenSpec.upto Rows.classTellsSpec) (k:=Rows.uptoSmall) rfl own started (by kernel_rfl) Try.func7
    (OpenSpec.witness (enc:=enc) (C:=Try.checked) (s:=Rows.OpenSpec.upto Rows.classTellsSpec) (k:=Rows.uptoSmall) rfl false ⟨#[],#[.agg #[.slice none 0 0,.slice none 0 0,.int .i64 0],.int .i64 0,.string ⟨#[]⟩,.int .i64 0,.agg #[.string ⟨#[]⟩,.int .i64 0,.int .i64 0,.int .i64 0,.slice none 0 0]],[]⟩ 12 (by kernel_rfl) (by kernel_rfl) (by kernel_rfl)
      (x:=([.agg [.nil,.nil,.lit (.int .i64 0)],.lit (.int .i64 0),.lit (.string []),.lit (.int .i64 0),.agg [.lit (.string []),.lit (.int .i64 0),.lit (.int .i64 0),.lit (.int .i64 0),.nil]],[],[])) (by kernel_rfl) rfl (by kernel_rfl)) ?_
  intro W base args ds gs before hval0 hW hcnd hk _
  have hval:∀(j:Nat) t v,Try.f7.params[j]?=some t→args[j]?=some v→Value.okWide Try.prog W .any base t v:=hval0
  have hW':=hW
  have hlt:∀p∈before,p.block < W.heap.size:=fun p hp=>hW.lt p hp
  obtain ⟨p,q,hA0,hV,rfl,hfz,hnd⟩:=hW
  have hA:DataW.TrodAll enc Try.prog W 0 (fun _=>true) true Try.f7.params.toList args.toList ds p:=hA0
  rw [Try.params7] at hA hval
  obtain ⟨v0,vs0,d0,ds0,p0,q0,hargs,rfl,rfl,h0,r0⟩:=trodAll_cons hA
  obtain ⟨v1,vs1,d1,ds1,p1,q1,rfl,rfl,rfl,h1,r1⟩:=trodAll_cons r0
  obtain ⟨v2,vs2,d2,ds2,p2,q2,rfl,rfl,rfl,h2,r2⟩:=trodAll_cons r1
  obtain ⟨v3,vs3,d3,ds3,p3,q3,rfl,rfl,rfl,h3,r3⟩:=trodAll_cons r2
  obtain ⟨v4,vs4,d4,ds4,p4,q4,rfl,rfl,rfl,h4,r4⟩:=trodAll_cons r3
  obtain ⟨rfl,rfl,rfl⟩:=trodAll_nil r4
  obtain rfl:args=#[v0,v1,v2,v3,v4]:=by cases args; simp_all
  obtain ⟨rfl,rfl⟩:=trodVars_none hV
  obtain ⟨cs0,rfl,_⟩:=okWide_struct Try.underlying37 (hval 0 37 v0 rfl rfl)
  obtain ⟨fuel0,hf0⟩:=h0
  obtain ⟨a0,rr0,_,_,ok0,bk0⟩:=b09.out hf0
  replace bk0:bD0 a0≤Rows.uptoBulk d0:=bk0
  obtain ⟨n1,rfl⟩:=okWide_int Try.underlying3 (hval 1 3 v1 rfl rfl)
  obtain ⟨fuel1,hf1⟩:=h1
  obtain ⟨a1,rr1,_,_,ok1,bk1⟩:=(C8.int Try.underlying3).out hf1
  replace bk1:bkI a1≤Rows.uptoBulk d1:=bk1
  obtain ⟨s2,rfl⟩:=okWide_string Try.underlying9 (hval 2 9 v2 rfl rfl)
  obtain ⟨fuel2,hf2⟩:=h2
  obtain ⟨a2,rr2,_,_,ok2,bk2⟩:=(C8.str Try.underlying9).out hf2
  replace bk2:bkS a2≤Rows.uptoBulk d2:=bk2
  obtain ⟨n3,rfl⟩:=okWide_int Try.underlying3 (hval 3 3 v3 rfl rfl)
  obtain ⟨fuel3,hf3⟩:=h3
  obtain ⟨a3,rr3,_,_,ok3,bk3⟩:=(C8.int Try.underlying3).out hf3
  replace bk3:bkI a3≤Rows.uptoBulk d3:=bk3
  obtain ⟨cs4,rfl,_⟩:=okWide_struct Try.underlying64 (hval 4 64 v4 rfl rfl)
  obtain ⟨fuel4,hf4⟩:=h4
  obtain ⟨a4,rr4,_,_,ok4,bk4⟩:=bM2.out hf4
  replace bk4:aG6 a4≤Rows.uptoBulk d4:=bk4
  have hsm:=bT1 hk
  simp only [List.append_nil,Rows.uptoBulkAll] at hsm
  have hrd:p8 (bW6 W) W #[_,_,_,_,_].toList [_,_,_,_,_]:=.cons (bM1 rr0) (.cons (bD3 rr1) (.cons (bD3 rr2) (.cons (bD3 rr3) (.cons (bM1 rr4) (.nil)))))
  obtain ⟨N,hN⟩:=bC0 a0 a1 a2 a3 a4 ok0 ok1 ok2 ok3 ok4 (by omega)
  refine (Spec.law (aS3 N a0 a1 a2 a3 a4 true hN) hrd).mono fun e W' ⟨he,hg⟩=>?_
  subst he
  exact ⟨_,rfl,bG1 (s:=Rows.classTellsSpec) (pv:=[]) hW' (fun _ _ _=>(trodAll_cons_mk (shut_bool Try.underlying4 _) trodAll_mk0)) (fun sp hsp=>aU2 (by kernel_rfl) hg sp readable hA0 (fun p hp=>hlt p (by first|simpa using Or.inl hp|simpa using hp)) (fun p hp=>hsp p (by first|simpa using Or.inl hp|simpa using hp))) (fun _ _=>rfl) rfl
    hg (ok_one (by kernel_rfl) rfl (okWide_bool_mk Try.underlying4 _))⟩
theorem over : Rows.classTellsUptoRow.holds Try.pinned (Rows.OpenSpec.upto Rows.classTellsSpec) :=
  OpenClaim.holds_of_cond 7 Try.f7 rfl rfl rfl rfl rfl rfl rfl ⟨rfl,rfl,rfl,rfl,rfl⟩ rfl rfl rfl rfl rfl (by kernel_rfl) Try.func7 (by kernel_rfl)
    (of_decide_eq_true (by kernel_rfl)) (by unfold Func.isWrapper; first|(rw [if_pos (by decide +kernel)]; kernel_rfl)|(rw [if_neg (by decide +kernel)]; exact ⟨rfl,rfl⟩))
    (fun os started H enc _ F=>lifted os started H enc F)
theorem proved : Rows.ClassTellsUptoSaid :=
  over
end classTells
end Go.Proofs.Ytahmeibkdhbngaa
