/- What values are: the plain functions that package value and its reference compute. No program in sight. -/
import Derived.Test.YtioalgofaiideaaData
namespace Go.Proofs.Ytioalgofaiideaa
open Go.RowKit

def boolV (b : Bool) : V := ⟨if b then 2 else 1, 0⟩
def wrongV (v : V) (heap : Int) : Int :=
  if v.k = 0 ∨ v.k = 1 ∨ v.k = 2 then (if v.n = 0 then 0 else 2)
  else if v.k = 3 then (if v.n < -1073741824 ∨ 1073741824 < v.n then 3 else 0)
  else if v.k = 4 then (if v.n < 0 ∨ heap ≤ v.n then 6 else 0)
  else 1
def classV (h : List Ob) (v : V) : Int :=
  if v.k = 0 then 1 else if v.k = 1 ∨ v.k = 2 then 2 else if v.k = 3 then 3
  else if v.k = 4 ∧ 0 ≤ v.n ∧ v.n < h.length then (h.getD v.n.toNat default).cls else 0
def slotV (h : List Ob) (v : V) (n : Int) : V :=
  if v.k = 4 ∧ 0 ≤ v.n ∧ v.n < h.length ∧ 0 ≤ n ∧ n < (h.getD v.n.toNat default).slots.length then (h.getD v.n.toNat default).slots.getD n.toNat ⟨0, 0⟩ else ⟨0, 0⟩

def numV (n : Int) : V := ⟨3, n.tmod 1073741825⟩
def primV (p : Int) (a b : V) : V × Int :=
  if a.k ≠ 3 ∨ b.k ≠ 3 then (⟨0, 0⟩, 12)
  else if p = 1 then (numV (a.n + b.n), 0) else if p = 2 then (numV (a.n - b.n), 0) else if p = 3 then (numV (a.n * b.n), 0)
  else if p = 4 then (boolV (decide (a.n < b.n)), 0) else if p = 5 then (boolV (a.n == b.n), 0) else (⟨0, 0⟩, 1)
/-- a number that may be -/
def Small (n : Int) : Prop := -1073741824 ≤ n ∧ n ≤ 1073741824
theorem Small.add {a b : Int} (ha : Small a) (hb : Small b) : -2147483648 ≤ a + b ∧ a + b ≤ 2147483648 := by unfold Small at *; omega
theorem Small.sub {a b : Int} (ha : Small a) (hb : Small b) : -2147483648 ≤ a - b ∧ a - b ≤ 2147483648 := by unfold Small at *; omega
theorem Small.mul {a b : Int} (ha : Small a) (hb : Small b) : -1152921504606846976 ≤ a * b ∧ a * b ≤ 1152921504606846976 := by
  unfold Small at *
  have h1 : (a * b).natAbs ≤ 1073741824 * 1073741824 := by
    rw [Int.natAbs_mul]
    exact Nat.mul_le_mul (by omega) (by omega)
  omega

/-- what a call without any further word comes to: a value; all old memory stands -/
def Ret (v : Value) (w : World) : Ending → World → Prop := fun e w' => e = .returned v ∧ Below w.heap.size w w'
theorem Ret.mk {v : Value} {w w' : World} {e : Ending} (h : e = .returned v) (hb : Below w.heap.size w w') : Ret v w e w' := ⟨h, hb⟩
theorem ret_int {k : IntKind} {a b : Int} (h : a = b) : Ending.returned (.int k a) = .returned (.int k b) := by rw [h]
theorem ret_bool {a b : Bool} (h : a = b) : Ending.returned (.bool a) = .returned (.bool b) := by rw [h]
end Go.Proofs.Ytioalgofaiideaa
