/- Plain laws of the mirrors: package value. No program in sight. -/
import Derived.Test.YtoceeiamcfdnlaaPl1
namespace Go.Proofs.Ytoceeiamcfdnlaa
open Go.RowKit
set_option linter.unusedVariables false
theorem ble_true {a b : Nat} (h : a ≤ b) : Nat.ble a b = true := by rw [Nat.ble_eq]; exact h
theorem nthO_out {α : Type} {l : List α} {i : Int} (h : ¬ (i < l.length)) : l[i.toNat]? = none := List.getElem?_eq_none (by omega)
theorem nthO_pos {α : Type} {l : List α} {i : Int} (h : 0 ≤ i) : nthO l i = l[i.toNat]? := by
  unfold nthO; rw [decide_eq_true h]; rfl
theorem nthO_in {α : Type} {l : List α} {i : Int} (h : 0 ≤ i) (h2 : i < l.length) : ∃ x, l[i.toNat]? = some x ∧ nthO l i = some x := by
  have hl : i.toNat < l.length := by omega
  exact ⟨l[i.toNat], List.getElem?_eq_getElem hl, by rw [nthO_pos h, List.getElem?_eq_getElem hl]⟩
/-- what is wrong with a value -/
def wrongN (v : V) (n : Int) : Int :=
  if v.k = 0 ∨ v.k = 1 ∨ v.k = 2 then (if v.n = 0 then 0 else 2)
  else if v.k = 3 then (if v.n < -1073741824 ∨ 1073741824 < v.n then 3 else 0)
  else if v.k = 4 then (if v.n < 0 ∨ n ≤ v.n then 6 else 0) else 1
theorem qcref1_Wrong_eq (N : Nat) (v : V) (n : Int) : qcref1_Wrong N v n = some (wrongN v n) := by
  unfold qcref1_Wrong wrongN
  by_cases h0 : v.k = 0
  · by_cases h : v.n = 0 <;> simp [h0, h]
  by_cases h1 : v.k = 1
  · by_cases h : v.n = 0 <;> simp [h1, h]
  by_cases h2 : v.k = 2
  · by_cases h : v.n = 0 <;> simp [h2, h]
  by_cases h3 : v.k = 3
  · by_cases h : v.n < -1073741824 <;> by_cases h' : 1073741824 < v.n <;> simp [h3, h, h']
  by_cases h4 : v.k = 4
  · by_cases h : v.n < 0 <;> by_cases h' : n ≤ v.n <;> simp [h4, h, h']
  by_cases h5 : v.k < 0
  · simp [h0, h1, h2, h3, h4, h5]
  · have h6 : 4 < v.k := by omega
    simp [h0, h1, h2, h3, h4, h5, h6]
theorem slices_Clone_V_eq (N : Nat) {l : List V} (h : l.length ≤ 1048576) : slices_Clone_V N l = some l := by
  unfold slices_Clone_V
  rw [ble_true (by omega)]
  rfl
theorem value_Own_l1_eq (N : Nat) : ∀ (l : List Ob) (k : Nat) (acc : List Ob), (∀ o ∈ l, o.slots.length ≤ 1048576) → acc.length + l.length ≤ 1048576 → value_Own_l1 N l k acc = some (acc ++ l)
  | [], k, acc, _, _ => by simp [value_Own_l1]
  | x :: l, k, acc, h, hl => by
    rw [value_Own_l1, slices_Clone_V_eq N (h x (by simp))]
    simp only [Option.bind_some]
    rw [ble_true (by simp at hl ⊢; omega)]
    simp only [cond_true]
    rw [value_Own_l1_eq N l (k + 1) _ (fun o ho => h o (by simp [ho])) (by simp at hl ⊢; omega)]
    simp
theorem value_Own_eq (N : Nat) {l : List Ob} (h : ∀ o ∈ l, o.slots.length ≤ 1048576) (hl : l.length ≤ 1048576) : value_Own N l = some l := by
  unfold value_Own
  rw [value_Own_l1_eq N l 0 [] h (by simpa using hl)]
  rfl
theorem obs_small {l : List Ob} (h : bkL bkOb l ≤ 1048576) : (∀ o ∈ l, o.slots.length ≤ 1048576) ∧ l.length ≤ 1048575 := by
  refine ⟨fun o ho => ?_, ?_⟩
  · have h1 := bkL_mem (bk := bkOb) ho
    have h2 := bkL_len (bk := bkV) (fun a => bkV_pos a) o.slots
    have h3 : bkL bkV o.slots + 1 ≤ bkOb o := by unfold bkOb; omega
    omega
  · have := bkL_len (bk := bkOb) (fun a => bkOb_pos a) l
    omega
end Go.Proofs.Ytoceeiamcfdnlaa
