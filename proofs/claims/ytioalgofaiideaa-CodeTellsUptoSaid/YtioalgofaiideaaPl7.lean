/- Plain laws: arguments of little bulk are small. No program in sight. -/
import Derived.Test.YtioalgofaiideaaPl6
namespace Go.Proofs.Ytioalgofaiideaa
open Go.RowKit
set_option linter.unusedVariables false
theorem small_Wd {w : Wd} (h : bkWd w ≤ 1048576) : SmallW w := by
  unfold bkWd at h
  have h1 := bkL_len (bk := bkCl) (fun a => bkCl_pos a) w.classes
  have h2 := bkL_len (bk := bkOb) (fun a => bkOb_pos a) w.heap
  refine ⟨by omega, by omega, fun c hc => ?_, fun o ho => ?_⟩
  · have h3 := bkL_mem (bk := bkCl) hc
    have e3 : bkCl c = bkS c.name + bkI c.super + bkI c.slots + (bkL bkMe) c.methods + 1 := rfl
    have h4 := bkL_len (bk := bkMe) (fun a => bkMe_pos a) c.methods
    refine ⟨by omega, fun m hm => ?_⟩
    have h5 := bkL_mem (bk := bkMe) hm
    have e5 : bkMe m = bkS m.name + bkI m.args + bkI m.temps + bkI m.prim + (bkL bkIns) m.code + 1 := rfl
    have h6 := bkL_len (bk := bkIns) (fun a => bkIns_pos a) m.code
    omega
  · have h3 := bkL_mem (bk := bkOb) ho
    have e3 : bkOb o = bkI o.cls + (bkL bkV) o.slots + 1 := rfl
    have h4 := bkL_len (bk := bkV) (fun a => bkV_pos a) o.slots
    omega
/-- tallies that are small -/
def SmallT (t : List Tl) : Prop := ∀ x ∈ t, ∀ y ∈ x.classes, 0 ≤ y.found ∧ y.found ≤ 1000000
theorem qclaw9_small_l2_eq (N : Nat) : ∀ (l : List Ln) (k : Nat), ∃ o, qclaw9_small_l2 N l k = some o ∧ (match o with | .ret r => r = false | .next () => ∀ y ∈ l, 0 ≤ y.found ∧ y.found ≤ 1000000)
  | [], k => ⟨.next (), rfl, fun y hy => by cases hy⟩
  | x :: l, k => by
    rw [qclaw9_small_l2]
    by_cases h1 : x.found < 0
    · exact ⟨.ret false, by simp [h1], rfl⟩
    by_cases h2 : 1000000 < x.found
    · exact ⟨.ret false, by simp [h2], rfl⟩
    obtain ⟨o, ho, h3⟩ := qclaw9_small_l2_eq N l (k + 1)
    refine ⟨o, by simp only [h1, h2, decide_false, cond_false, Option.bind_some, ho], ?_⟩
    cases o with
    | ret r => exact h3
    | next u =>
      intro y hy
      rcases List.mem_cons.1 hy with rfl | hy
      · omega
      · exact h3 y hy
theorem qclaw9_small_l1_eq (N : Nat) : ∀ (l : List Tl) (k : Nat), ∃ o, qclaw9_small_l1 N l k = some o ∧ (match o with | .ret r => r = false | .next () => SmallT l)
  | [], k => ⟨.next (), rfl, fun y hy => by cases hy⟩
  | x :: l, k => by
    rw [qclaw9_small_l1]
    obtain ⟨o, ho, h1⟩ := qclaw9_small_l2_eq N x.classes 0
    rw [ho]
    cases o with
    | ret r => exact ⟨.ret r, rfl, h1⟩
    | next u =>
      obtain ⟨o, ho, h3⟩ := qclaw9_small_l1_eq N l (k + 1)
      refine ⟨o, ho, ?_⟩
      cases o with
      | ret r => exact h3
      | next u =>
        intro y hy
        rcases List.mem_cons.1 hy with rfl | hy
        · exact h1
        · exact h3 y hy
theorem qclaw9_small_eq (N : Nat) (t : List Tl) : ∃ b, qclaw9_small N t = some b ∧ (b = true → SmallT t) := by
  unfold qclaw9_small
  obtain ⟨o, ho, h1⟩ := qclaw9_small_l1_eq N t 0
  rw [ho]
  cases o with
  | ret r =>
    have h1 : r = false := h1
    exact ⟨false, by rw [h1]; rfl, fun h => by cases h⟩
  | next u => exact ⟨true, rfl, fun _ => h1⟩
end Go.Proofs.Ytioalgofaiideaa
