/- It is proved that qclaw8.CachedAgain returns true, for all arguments, and leaves them as they were. Its condition: what it reads is of bulk at most 1048576. -/
import Derived.Test.YtahmeibkdhbngaaOp
import Derived.Test.YtahmeibkdhbngaaWk3
import Derived.Test.YtahmeibkdhbngaaLCachedAgain
namespace Go.Proofs.Ytahmeibkdhbngaa
open Go.ChangeShapes Go.WideShapes Go.ChangeAt Go.RowKit Go.Deep
set_option linter.unusedVariables false

namespace cachedAgain
theorem own : ownKnob Try.prog.godebug=none:=by kernel_rfl
theorem readable : ∀t∈Try.f6.params.toList,Try.prog.readableRec t=true∧t < Try.prog.types.size:=by
  have h:(Try.f6.params.toList.all fun t=>Try.prog.readableRec t && decide (t < Try.prog.types.size))=true:=by kernel_rfl
  intro t ht
  have:=List.all_eq_true.1 h t ht
  simpa using this
set_option maxRecDepth 100000 in
theorem lifted (os:Go.Os) (started:os.Started) (H:Type) (enc:TypeId×Value→H) (F:Stop.Interp) :
    ReturnsInHanded {} Try.checked os 6 .any ((Rows.OpenSpec.upto Rows.cachedAgainSpec).pre6 enc Try.prog Try.f6 Rows.cachedAgainUptoRow.domain false) (((Rows.OpenSpec.upto Rows.cachedAgainSpec).at F).post enc Try.prog Try.f6 false true false false):=by
  refine returnsInHanded_of_cond (C:=Try.checked) (s:=Rows.OpenSpec.upto Rows.cachedAgainSpec) (k:=Rows.uptoSmall) rfl own started (by kernel_rfl) Try.func6
    (OpenSpec.witness (enc:=enc) (C:=Try.checked) (s:=Rows.OpenSpec.upto Rows.cachedAgainSpec) (k:=Rows.uptoSmall) rfl false ⟨#[],#[.agg #[.slice none 0 0,.slice none 0 0,.int .i64 0],.agg #[.int .i64 0,.int .i64 0,.string ⟨#[]⟩,.slice none 0 0]],[]⟩ 12 (by kernel_rfl) (by kernel_rfl) (by kernel_rfl)
      (x:=([.agg [.nil,.nil,.lit (.int .i64 0)],.agg [.agg [.lit (.int .i64 0),.lit (.int .i64 0)],.lit (.string []),.nil]],[],[])) (by kernel_rfl) rfl (by kernel_rfl)) ?_
  intro W base args ds gs before hval0 hW hcnd hk _
  have hval:∀(j:Nat) t v,Try.f6.params[j]?=some t→args[j]?=some v→Value.okWide Try.prog W .any base t v:=hval0
  have hW':=hW
  have hlt:∀p∈before,p.block < W.heap.size:=fun p hp=>hW.lt p hp
  obtain ⟨p,q,hA0,hV,rfl,hfz,hnd⟩:=hW
  have hA:DataW.TrodAll enc Try.prog W 0 (fun _=>true) true Try.f6.params.toList args.toList ds p:=hA0
  rw [Try.params6] at hA hval
  obtain ⟨v0,vs0,d0,ds0,p0,q0,hargs,rfl,rfl,h0,r0⟩:=trodAll_cons hA
  obtain ⟨v1,vs1,d1,ds1,p1,q1,rfl,rfl,rfl,h1,r1⟩:=trodAll_cons r0
  obtain ⟨rfl,rfl,rfl⟩:=trodAll_nil r1
  obtain rfl:args=#[v0,v1]:=by cases args; simp_all
  obtain ⟨rfl,rfl⟩:=trodVars_none hV
  obtain ⟨cs0,rfl,_⟩:=okWide_struct Try.underlying37 (hval 0 37 v0 rfl rfl)
  obtain ⟨fuel0,hf0⟩:=h0
  obtain ⟨a0,rr0,_,_,ok0,bk0⟩:=c27.out hf0
  replace bk0:bZ1 a0≤Rows.uptoBulk d0:=bk0
  obtain ⟨cs1,rfl,_⟩:=okWide_struct Try.underlying42 (hval 1 42 v1 rfl rfl)
  obtain ⟨fuel1,hf1⟩:=h1
  obtain ⟨a1,rr1,_,_,ok1,bk1⟩:=c60.out hf1
  replace bk1:bP8 a1≤Rows.uptoBulk d1:=bk1
  have hsm:=cO1 hk
  simp only [List.append_nil,Rows.uptoBulkAll] at hsm
  have hrd:C9 (cT0 W) W #[_,_].toList [_,_]:=.cons (cH3 rr0) (.cons (cH3 rr1) (.nil))
  obtain ⟨N,hN⟩:=bW6 a0 a1 ok0 ok1 (by omega)
  refine (Spec.law (bG4 N a0 a1 true hN) hrd).mono fun e W' ⟨he,hg⟩=>?_
  subst he
  exact ⟨_,rfl,b74 (s:=Rows.cachedAgainSpec) (pv:=[]) hW' (fun _ _ _=>(trodAll_cons_mk (shut_bool Try.underlying4 _) trodAll_mk0)) (fun sp hsp=>bJ9 (by kernel_rfl) hg sp readable hA0 (fun p hp=>hlt p (by first|simpa using Or.inl hp|simpa using hp)) (fun p hp=>hsp p (by first|simpa using Or.inl hp|simpa using hp))) (fun _ _=>rfl) rfl
    hg (ok_one (by kernel_rfl) rfl (okWide_bool_mk Try.underlying4 _))⟩
theorem over : Rows.cachedAgainUptoRow.holds Try.pinned (Rows.OpenSpec.upto Rows.cachedAgainSpec) :=
  OpenClaim.holds_of_cond 6 Try.f6 rfl rfl rfl rfl rfl rfl rfl ⟨rfl,rfl,rfl,rfl,rfl⟩ rfl rfl rfl rfl rfl (by kernel_rfl) Try.func6 (by kernel_rfl)
    (of_decide_eq_true (by kernel_rfl)) (by unfold Func.isWrapper; first|(rw [if_pos (by decide +kernel)]; kernel_rfl)|(rw [if_neg (by decide +kernel)]; exact ⟨rfl,rfl⟩))
    (fun os started H enc _ F=>lifted os started H enc F)
theorem proved : Rows.CachedAgainUptoSaid :=
  over
end cachedAgain
end Go.Proofs.Ytahmeibkdhbngaa
