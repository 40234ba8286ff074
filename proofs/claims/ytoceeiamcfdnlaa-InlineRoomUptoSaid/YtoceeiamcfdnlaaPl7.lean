/- Plain laws: arguments of little bulk are small. No program in sight. -/
import Derived.Test.YtoceeiamcfdnlaaPl6
namespace Go.Proofs.Ytoceeiamcfdnlaa
open Go.RowKit
set_option linter.unusedVariables false
theorem small_Wd {w : Wd} (h : bkWd w ≤ 1048576) : SmallW w := by
  unfold bkWd at h
  have h1 := bkL_len (bk := bkCl) (fun a => bkCl_pos a) w.classes
  have h2 := bkL_len (bk := bkOb) (fun a => bkOb_pos a) w.heap
  refine ⟨by omega, by omega, fun c hc => ?_, fun o ho => ?_⟩
  · have h3 := bkL_mem (bk := bkCl) hc
    have e3 : bkCl c = bkS c.name + bkI c.super + bkI c.slots + (bkL bkMe) c.methods + 1 := rfl
    have h4 := bkL_len (bk := bkMe) (fun a => bkMe_pos a) c.methods
    refine ⟨by omega, fun m hm => ?_⟩
    have h5 := bkL_mem (bk := bkMe) hm
    have e5 : bkMe m = bkS m.name + bkI m.args + bkI m.temps + bkI m.prim + (bkL bkIns) m.code + 1 := rfl
    have h6 := bkL_len (bk := bkIns) (fun a => bkIns_pos a) m.code
    omega
  · have h3 := bkL_mem (bk := bkOb) ho
    have e3 : bkOb o = bkI o.cls + (bkL bkV) o.slots + 1 := rfl
    have h4 := bkL_len (bk := bkV) (fun a => bkV_pos a) o.slots
    omega
/-- tallies that are small -/
def SmallT (t : List Tl) : Prop := ∀ x ∈ t, ∀ y ∈ x.classes, 0 ≤ y.found ∧ y.found ≤ 1000000
end Go.Proofs.Ytoceeiamcfdnlaa
