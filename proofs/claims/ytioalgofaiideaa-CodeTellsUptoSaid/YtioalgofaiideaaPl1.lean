/- Plain laws of the mirrors: the same, own copies. No program in sight. -/
import Derived.Test.YtioalgofaiideaaMir
import Derived.Test.YtioalgofaiideaaOk
namespace Go.Proofs.Ytioalgofaiideaa
open Go.RowKit
set_option linter.unusedVariables false
theorem eqAs_V (a b : V) : eqAs (eV a) (eV b) = decide (a = b) := eqV a b
theorem eqAs_St (a b : St) : eqAs (eSt a) (eSt b) = decide (a = b) := eqSt a b
theorem eqAs_Ln (a b : Ln) : eqAs (eLn a) (eLn b) = decide (a = b) := eqLn a b
theorem eqAs_Ins (a b : Ins) : eqAs (eIns a) (eIns b) = decide (a = b) := eqIns a b
/-- an element more of what is left -/
theorem dropMore {α : Type} {l : List α} {k n : Nat} (h : n + 1 = (l.drop k).length) : ∃ y, l[k]? = some y ∧ l.drop k = y :: l.drop (k + 1) ∧ n = (l.drop (k + 1)).length := by
  rw [List.length_drop] at h
  have hk : k < l.length := by omega
  refine ⟨l[k], List.getElem?_eq_getElem hk, List.drop_eq_getElem_cons hk, by rw [List.length_drop]; omega⟩
theorem dropNone {α : Type} {l : List α} {k : Nat} (h : 0 = (l.drop k).length) : l.drop k = [] := List.eq_nil_of_length_eq_zero h.symm
theorem SameCode_l1 (N : Nat) (b : List Ins) : ∀ (l : List Ins) (k : Nat), l.length = (b.drop k).length → qcref1_SameCode_l1 N b l k = some (if l = b.drop k then .next () else .ret false)
  | [], k, h => by rw [dropNone h]; rfl
  | x :: l, k, h => by
    obtain ⟨y, hy, hd, hl⟩ := dropMore h
    rw [hd, qcref1_SameCode_l1]
    simp only [Option.bind_some, Option.bind_none, cond_true, cond_false, Bool.cond_decide, eqAs_V, eqAs_St, eqAs_Ln, eqAs_Ins, Bool.not_true, Bool.not_false, nthO_nat, hy, SameCode_l1 N b l (k + 1) hl]
    by_cases e : x = y <;> simp [e]
theorem SameCode_eq (N : Nat) (a b : List Ins) : qcref1_SameCode N a b = some (decide (a = b)) := by
  unfold qcref1_SameCode
  by_cases h : a.length = b.length
  · rw [SameCode_l1 N b a 0 (by simpa using h)]
    by_cases e : a = b <;> simp [h, e]
  · have : a ≠ b := fun e => h (by rw [e])
    have h' : ¬ ((a.length : Int) = b.length) := by omega
    simp [this, h']
theorem SameLines_l1 (N : Nat) (b : List Ln) : ∀ (l : List Ln) (k : Nat), l.length = (b.drop k).length → qcref1_SameLines_l1 N b l k = some (if l = b.drop k then .next () else .ret false)
  | [], k, h => by rw [dropNone h]; rfl
  | x :: l, k, h => by
    obtain ⟨y, hy, hd, hl⟩ := dropMore h
    rw [hd, qcref1_SameLines_l1]
    simp only [Option.bind_some, Option.bind_none, cond_true, cond_false, Bool.cond_decide, eqAs_V, eqAs_St, eqAs_Ln, eqAs_Ins, Bool.not_true, Bool.not_false, nthO_nat, hy, SameLines_l1 N b l (k + 1) hl]
    by_cases e : x = y <;> simp [e]
theorem SameLines_eq (N : Nat) (a b : List Ln) : qcref1_SameLines N a b = some (decide (a = b)) := by
  unfold qcref1_SameLines
  by_cases h : a.length = b.length
  · rw [SameLines_l1 N b a 0 (by simpa using h)]
    by_cases e : a = b <;> simp [h, e]
  · have : a ≠ b := fun e => h (by rw [e])
    have h' : ¬ ((a.length : Int) = b.length) := by omega
    simp [this, h']
theorem SameWorld_l4 (N : Nat) (b : Wd) (i : Nat) (o : Ob) (ho : b.heap[i]? = some o) : ∀ (l : List V) (k : Nat), l.length = (o.slots.drop k).length → qcref1_SameWorld_l4 N b i l k = some (if l = o.slots.drop k then .next () else .ret false)
  | [], k, h => by rw [dropNone h]; rfl
  | x :: l, k, h => by
    obtain ⟨y, hy, hd, hl⟩ := dropMore h
    rw [hd, qcref1_SameWorld_l4]
    simp only [Option.bind_some, Option.bind_none, cond_true, cond_false, Bool.cond_decide, eqAs_V, eqAs_St, eqAs_Ln, eqAs_Ins, Bool.not_true, Bool.not_false, nthO_nat, hy, ho, SameWorld_l4 N b i o ho l (k + 1) hl]
    by_cases e : x = y <;> simp [e]
theorem SameWorld_l3 (N : Nat) (b : Wd) : ∀ (l : List Ob) (k : Nat), l.length = (b.heap.drop k).length → qcref1_SameWorld_l3 N b l k = some (if l = b.heap.drop k then .next () else .ret false)
  | [], k, h => by rw [dropNone h]; rfl
  | x :: l, k, h => by
    obtain ⟨y, hy, hd, hl⟩ := dropMore h
    rw [hd, qcref1_SameWorld_l3]
    simp only [Option.bind_some, Option.bind_none, cond_true, cond_false, Bool.cond_decide, eqAs_V, eqAs_St, eqAs_Ln, eqAs_Ins, Bool.not_true, Bool.not_false, nthO_nat, hy, SameWorld_l3 N b l (k + 1) hl]
    obtain ⟨xc, xs⟩ := x
    obtain ⟨yc, ys⟩ := y
    by_cases e1 : xc = yc
    · by_cases e2 : xs.length = ys.length
      · have := SameWorld_l4 N b k ⟨yc, ys⟩ hy xs 0 (by simpa using e2)
        simp only [List.drop_zero] at this
        by_cases e3 : xs = ys
        · subst e3; simp [e1, this]
        · simp [e1, e2, e3, this]
      · have e3 : xs ≠ ys := fun e => e2 (by rw [e])
        have e2' : ¬ ((xs.length : Int) = ys.length) := by omega
        simp [e1, e2', e3]
    · simp [e1]
theorem SameWorld_l2 (N : Nat) (c : Cl) : ∀ (l : List Me) (k : Nat), l.length = (c.methods.drop k).length → qcref1_SameWorld_l2 N c l k = some (if l = c.methods.drop k then .next () else .ret false)
  | [], k, h => by rw [dropNone h]; rfl
  | x :: l, k, h => by
    obtain ⟨y, hy, hd, hl⟩ := dropMore h
    rw [hd, qcref1_SameWorld_l2]
    simp only [Option.bind_some, Option.bind_none, cond_true, cond_false, Bool.cond_decide, eqAs_V, eqAs_St, eqAs_Ln, eqAs_Ins, Bool.not_true, Bool.not_false, nthO_nat, hy, SameWorld_l2 N c l (k + 1) hl, SameCode_eq]
    obtain ⟨x1, x2, x3, x4, x5⟩ := x
    obtain ⟨y1, y2, y3, y4, y5⟩ := y
    by_cases e1 : x1 = y1
    · by_cases e2 : x2 = y2
      · by_cases e3 : x3 = y3
        · by_cases e4 : x4 = y4
          · by_cases e5 : x5 = y5 <;> simp [e1, e2, e3, e4, e5]
          · simp [e1, e2, e3, e4]
        · simp [e1, e2, e3]
      · simp [e1, e2]
    · simp [e1]
theorem SameWorld_l1 (N : Nat) (b : Wd) : ∀ (l : List Cl) (k : Nat), l.length = (b.classes.drop k).length → qcref1_SameWorld_l1 N b l k = some (if l = b.classes.drop k then .next () else .ret false)
  | [], k, h => by rw [dropNone h]; rfl
  | x :: l, k, h => by
    obtain ⟨y, hy, hd, hl⟩ := dropMore h
    rw [hd, qcref1_SameWorld_l1]
    simp only [Option.bind_some, Option.bind_none, cond_true, cond_false, Bool.cond_decide, eqAs_V, eqAs_St, eqAs_Ln, eqAs_Ins, Bool.not_true, Bool.not_false, nthO_nat, hy, SameWorld_l1 N b l (k + 1) hl]
    obtain ⟨x1, x2, x3, x4⟩ := x
    obtain ⟨y1, y2, y3, y4⟩ := y
    by_cases e1 : x1 = y1
    · by_cases e2 : x2 = y2
      · by_cases e3 : x3 = y3
        · by_cases e4 : x4.length = y4.length
          · have := SameWorld_l2 N ⟨y1, y2, y3, y4⟩ x4 0 (by simpa using e4)
            simp only [List.drop_zero] at this
            by_cases e5 : x4 = y4
            · subst e5; simp [e1, e2, e3, this]
            · simp [e1, e2, e3, e4, e5, this]
          · have e5 : x4 ≠ y4 := fun e => e4 (by rw [e])
            have e4' : ¬ ((x4.length : Int) = y4.length) := by omega
            simp [e1, e2, e3, e4', e5]
        · simp [e1, e2, e3]
      · simp [e1, e2]
    · simp [e1]
theorem SameWorld_eq (N : Nat) (a b : Wd) : qcref1_SameWorld N a b = some (decide (a = b)) := by
  unfold qcref1_SameWorld
  obtain ⟨a1, a2, a3⟩ := a
  obtain ⟨b1, b2, b3⟩ := b
  by_cases e3 : a3 = b3
  · by_cases h1 : a1.length = b1.length
    · by_cases h2 : a2.length = b2.length
      · have r1 := SameWorld_l1 N ⟨b1, b2, b3⟩ a1 0 (by simpa using h1)
        have r2 := SameWorld_l3 N ⟨b1, b2, b3⟩ a2 0 (by simpa using h2)
        simp only [List.drop_zero] at r1 r2
        by_cases e1 : a1 = b1
        · subst e1
          by_cases e2 : a2 = b2
          · subst e2; simp [e3, r1, r2]
          · simp [e2, e3, h2, r1, r2]
        · simp [e1, e3, h1, h2, r1]
      · have e2 : a2 ≠ b2 := fun e => h2 (by rw [e])
        have h2' : ¬ ((a2.length : Int) = b2.length) := by omega
        simp [e2, e3, h1, h2']
    · have e1 : a1 ≠ b1 := fun e => h1 (by rw [e])
      have h1' : ¬ ((a1.length : Int) = b1.length) := by omega
      simp [e1, e3, h1']
  · simp [e3]
end Go.Proofs.Ytioalgofaiideaa
