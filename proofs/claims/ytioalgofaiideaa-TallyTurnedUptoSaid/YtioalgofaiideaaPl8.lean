/- Plain laws of the mirrors: tallies. No program in sight. -/
import Derived.Test.YtioalgofaiideaaPl7
namespace Go.Proofs.Ytioalgofaiideaa
open Go.RowKit
set_option linter.unusedVariables false
/-- once more, where it is -/
def bumpL (c : Int) : List Ln → List Ln × Bool
  | [] => ([], false)
  | x :: l => if x.cls = c then (⟨x.cls, wr (x.found + 1)⟩ :: l, true) else (x :: (bumpL c l).1, (bumpL c l).2)
def addLr (c : Int) (l : List Ln) : List Ln := if (bumpL c l).2 = true then (bumpL c l).1 else (bumpL c l).1 ++ [⟨c, 1⟩]
def bumpT (s : St) (c : Int) : List Tl → List Tl × Bool
  | [] => ([], false)
  | x :: l => if x.site = s then (⟨x.site, addLr c x.classes⟩ :: l, true) else (x :: (bumpT s c l).1, (bumpT s c l).2)
def addTr (s : St) (c : Int) (l : List Tl) : List Tl := if (bumpT s c l).2 = true then (bumpT s c l).1 else (bumpT s c l).1 ++ [⟨s, [⟨c, 1⟩]⟩]
theorem bumpL_len (c : Int) : ∀ l, (bumpL c l).1.length = l.length
  | [] => rfl
  | x :: l => by
    unfold bumpL
    split
    · rfl
    · simp [bumpL_len c l]
theorem addLr_len (c : Int) (l : List Ln) : (addLr c l).length ≤ l.length + 1 := by
  unfold addLr
  have := bumpL_len c l
  split <;> simp <;> omega
theorem bumpT_len (s : St) (c : Int) : ∀ l, (bumpT s c l).1.length = l.length
  | [] => rfl
  | x :: l => by
    unfold bumpT
    split
    · rfl
    · simp [bumpT_len s c l]
theorem Count_l2_true (N : Nat) (c : Int) : ∀ (l : List Ln) (k : Nat) (acc : List Ln), acc.length + l.length ≤ 1048576 → qcref1_Count_l2 N c l k acc true = some (acc ++ l, true)
  | [], k, acc, _ => by simp [qcref1_Count_l2]
  | x :: l, k, acc, h => by
    simp only [List.length_cons] at h
    have e : ∀ y : Ln, Nat.ble ((acc.length + [y].length) * 16) 140737488355328 = true := fun y => ble_true (by simp; omega)
    rw [qcref1_Count_l2]
    by_cases hc : x.cls = c
    · simp only [hc, decide_true, cond_true, Bool.not_true, cond_false, Option.bind_some, e]
      rw [Count_l2_true N c l (k + 1) _ (by simp; omega)]; simp
    · simp only [hc, decide_false, cond_false, Option.bind_some, e, cond_true]
      rw [Count_l2_true N c l (k + 1) _ (by simp; omega)]; simp
theorem Count_l2_false (N : Nat) (c : Int) : ∀ (l : List Ln) (k : Nat) (acc : List Ln), acc.length + l.length ≤ 1048576 → qcref1_Count_l2 N c l k acc false = some (acc ++ (bumpL c l).1, (bumpL c l).2)
  | [], k, acc, _ => by simp [qcref1_Count_l2, bumpL]
  | x :: l, k, acc, h => by
    simp only [List.length_cons] at h
    have e : ∀ y : Ln, Nat.ble ((acc.length + [y].length) * 16) 140737488355328 = true := fun y => ble_true (by simp; omega)
    rw [qcref1_Count_l2, bumpL]
    by_cases hc : x.cls = c
    · simp only [hc, decide_true, cond_true, Bool.not_false, Option.bind_some, e, if_true]
      rw [Count_l2_true N c l (k + 1) _ (by simp; omega)]; simp
    · simp only [hc, decide_false, cond_false, Option.bind_some, e, cond_true, if_false]
      rw [Count_l2_false N c l (k + 1) _ (by simp; omega)]; simp
theorem Count_l1_true (N : Nat) (s : St) (c : Int) : ∀ (l : List Tl) (k : Nat) (acc : List Tl), acc.length + l.length ≤ 1048576 → qcref1_Count_l1 N s c l k acc true = some (acc ++ l, true)
  | [], k, acc, _ => by simp [qcref1_Count_l1]
  | x :: l, k, acc, h => by
    simp only [List.length_cons] at h
    have e : ∀ y : Tl, Nat.ble ((acc.length + [y].length) * 56) 140737488355328 = true := fun y => ble_true (by simp; omega)
    rw [qcref1_Count_l1]
    by_cases hc : x.site = s
    · simp only [hc, eqAs_St, decide_true, cond_true, Bool.not_true, cond_false, Option.bind_some, e]
      rw [Count_l1_true N s c l (k + 1) _ (by simp; omega)]; simp
    · simp only [hc, eqAs_St, decide_false, cond_false, Option.bind_some, e, cond_true]
      rw [Count_l1_true N s c l (k + 1) _ (by simp; omega)]; simp
theorem Count_l1_false (N : Nat) (s : St) (c : Int) : ∀ (l : List Tl) (k : Nat) (acc : List Tl), (∀ t ∈ l, t.classes.length ≤ 1048575) → acc.length + l.length ≤ 1048576 → qcref1_Count_l1 N s c l k acc false = some (acc ++ (bumpT s c l).1, (bumpT s c l).2)
  | [], k, acc, _, _ => by simp [qcref1_Count_l1, bumpT]
  | x :: l, k, acc, hl, h => by
    simp only [List.length_cons] at h
    have hx := hl x (by simp)
    have e : ∀ y : Tl, Nat.ble ((acc.length + [y].length) * 56) 140737488355328 = true := fun y => ble_true (by simp; omega)
    rw [qcref1_Count_l1, bumpT]
    by_cases hc : x.site = s
    · have e2 : Nat.ble (((bumpL c x.classes).1.length + [(⟨c, (1 : Int)⟩ : Ln)].length) * 16) 140737488355328 = true := ble_true (by rw [bumpL_len]; simp; omega)
      simp only [hc, eqAs_St, decide_true, cond_true, Bool.not_false, Option.bind_some, if_true, Count_l2_false N c x.classes 0 [] (by simp; omega), List.nil_append, e2]
      unfold addLr
      cases hb : (bumpL c x.classes).2 with
      | true =>
        simp only [Bool.not_true, cond_false, Option.bind_some, e, cond_true, if_true]
        rw [Count_l1_true N s c l (k + 1) _ (by simp; omega)]; simp
      | false =>
        simp only [Bool.not_false, cond_true, Option.bind_some, e, if_false, Bool.false_eq_true]
        rw [Count_l1_true N s c l (k + 1) _ (by simp; omega)]; simp
    · simp only [hc, eqAs_St, decide_false, cond_false, Option.bind_some, e, cond_true, if_false]
      rw [Count_l1_false N s c l (k + 1) _ (fun t ht => hl t (by simp [ht])) (by simp; omega)]; simp
theorem qcref1_Count_eq (N : Nat) (l : List Tl) (s : St) (c : Int) (hl : ∀ t ∈ l, t.classes.length ≤ 1048575) (h : l.length ≤ 1048575) : qcref1_Count N l s c = some (addTr s c l) := by
  unfold qcref1_Count addTr
  have e2 : Nat.ble (((bumpT s c l).1.length + [(⟨s, [(⟨c, (1 : Int)⟩ : Ln)]⟩ : Tl)].length) * 56) 140737488355328 = true := ble_true (by rw [bumpT_len]; simp; omega)
  rw [Count_l1_false N s c l 0 [] hl (by simp; omega)]
  simp only [Option.bind_some, List.nil_append, e2]
  cases (bumpT s c l).2 <;> simp
theorem addL_eq (c : Int) (l : List Ln) : addL c l = addLr c l := by
  unfold addL addLr ixd
  have key : ∀ l : List Ln, (match l.findIdx? (fun x => decide (x.cls = c)) with | some k => (bumpL c l).2 = true ∧ l.modify k (fun x => ⟨x.cls, wr (x.found + 1)⟩) = (bumpL c l).1 | none => (bumpL c l).2 = false ∧ (bumpL c l).1 = l) := by
    intro l
    induction l with
    | nil => exact ⟨rfl, rfl⟩
    | cons x l ih =>
      rw [List.findIdx?_cons]
      by_cases hc : x.cls = c
      · simp [hc, bumpL]
      · simp only [hc, decide_false, Bool.false_eq_true, if_false, bumpL]
        cases hf : l.findIdx? (fun x => decide (x.cls = c)) with
        | none => rw [hf] at ih; exact ⟨ih.1, by rw [ih.2]⟩
        | some k => rw [hf] at ih; exact ⟨ih.1, by simp only [List.modify_succ_cons]; rw [ih.2]⟩
  have := key l
  cases hf : l.findIdx? (fun x => decide (x.cls = c)) with
  | some k => rw [hf] at this; simp only [this.1, if_true]; exact this.2
  | none =>
    rw [hf] at this
    have w1 : wr ((0 : Int) + 1) = 1 := by decide
    simp only [this.1, this.2, if_false, Bool.false_eq_true]
    have hm : ∀ (l : List Ln) (y : Ln) (f : Ln → Ln), (l ++ [y]).modify l.length f = l ++ [f y] := by
      intro l y f
      induction l with
      | nil => rfl
      | cons a l ih => simp only [List.cons_append, List.length_cons, List.modify_succ_cons, ih]
    rw [hm, w1]
theorem addT_eq (s : St) (c : Int) (l : List Tl) : addT s c l = addTr s c l := by
  unfold addT addTr ixd
  have key : ∀ l : List Tl, (match l.findIdx? (fun x => decide (x.site = s)) with | some k => (bumpT s c l).2 = true ∧ l.modify k (fun x => ⟨x.site, addL c x.classes⟩) = (bumpT s c l).1 | none => (bumpT s c l).2 = false ∧ (bumpT s c l).1 = l) := by
    intro l
    induction l with
    | nil => exact ⟨rfl, rfl⟩
    | cons x l ih =>
      rw [List.findIdx?_cons]
      by_cases hc : x.site = s
      · simp [hc, bumpT, addL_eq]
      · simp only [hc, decide_false, Bool.false_eq_true, if_false, bumpT]
        cases hf : l.findIdx? (fun x => decide (x.site = s)) with
        | none => rw [hf] at ih; exact ⟨ih.1, by rw [ih.2]⟩
        | some k => rw [hf] at ih; exact ⟨ih.1, by simp only [List.modify_succ_cons]; rw [ih.2]⟩
  have := key l
  cases hf : l.findIdx? (fun x => decide (x.site = s)) with
  | some k => rw [hf] at this; simp only [this.1, if_true]; exact this.2
  | none =>
    rw [hf] at this
    simp only [this.1, this.2, if_false, Bool.false_eq_true]
    have hm : ∀ (l : List Tl) (y : Tl) (f : Tl → Tl), (l ++ [y]).modify l.length f = l ++ [f y] := by
      intro l y f
      induction l with
      | nil => rfl
      | cons a l ih => simp only [List.cons_append, List.length_cons, List.modify_succ_cons, ih]
    rw [hm, addL_eq]
    rfl
theorem tally_Add_eq (N : Nat) (l : List Tl) (s : St) (c : Int) (hl : ∀ t ∈ l, t.classes.length ≤ 1048576) (h : l.length ≤ 1048576) : tally_Add N l s c = some (addTr s c l) := by
  unfold tally_Add
  have e : (Nat.ble ((l.length + 1) * 56) 140737488355328 && l.all fun t => Nat.ble ((t.classes.length + 1) * 16) 140737488355328) = true := by
    rw [Bool.and_eq_true, List.all_eq_true]
    exact ⟨ble_true (by omega), fun t ht => ble_true (by have := hl t ht; omega)⟩
  rw [e, addT_eq]
  rfl
theorem SameTallies_l1 (N : Nat) (b : List Tl) : ∀ (l : List Tl) (k : Nat), l.length = (b.drop k).length → qcref1_SameTallies_l1 N b l k = some (if l = b.drop k then .next () else .ret false)
  | [], k, h => by rw [dropNone h]; rfl
  | x :: l, k, h => by
    obtain ⟨y, hy, hd, hl⟩ := dropMore h
    rw [hd, qcref1_SameTallies_l1]
    simp only [Option.bind_some, Option.bind_none, cond_true, cond_false, Bool.cond_decide, eqAs_V, eqAs_St, eqAs_Ln, eqAs_Ins, Bool.not_true, Bool.not_false, nthO_nat, hy, SameTallies_l1 N b l (k + 1) hl, SameLines_eq]
    obtain ⟨x1, x2⟩ := x
    obtain ⟨y1, y2⟩ := y
    by_cases e1 : x1 = y1
    · by_cases e2 : x2 = y2 <;> simp [e1, e2]
    · simp [e1]
theorem SameTallies_eq (N : Nat) (a b : List Tl) : qcref1_SameTallies N a b = some (decide (a = b)) := by
  unfold qcref1_SameTallies
  by_cases h : a.length = b.length
  · rw [SameTallies_l1 N b a 0 (by simpa using h)]
    by_cases e : a = b <;> simp [h, e]
  · have : a ≠ b := fun e => h (by rw [e])
    have h' : ¬ ((a.length : Int) = b.length) := by omega
    simp [this, h']
theorem slices_Clone_Ln_eq (N : Nat) {l : List Ln} (h : l.length ≤ 1048576) : slices_Clone_Ln N l = some l := by
  unfold slices_Clone_Ln
  rw [ble_true (by omega)]
  rfl
theorem tally_Own_l1_eq (N : Nat) : ∀ (l : List Tl) (k : Nat) (acc : List Tl), (∀ t ∈ l, t.classes.length ≤ 1048576) → acc.length + l.length ≤ 1048576 → tally_Own_l1 N l k acc = some (acc ++ l)
  | [], k, acc, _, _ => by simp [tally_Own_l1]
  | x :: l, k, acc, h, hl => by
    rw [tally_Own_l1, slices_Clone_Ln_eq N (h x (by simp))]
    simp only [Option.bind_some]
    rw [ble_true (by simp at hl ⊢; omega)]
    simp only [cond_true]
    rw [tally_Own_l1_eq N l (k + 1) _ (fun o ho => h o (by simp [ho])) (by simp at hl ⊢; omega)]
    simp
theorem tally_Own_eq (N : Nat) {l : List Tl} (h : ∀ t ∈ l, t.classes.length ≤ 1048576) (hl : l.length ≤ 1048576) : tally_Own N l = some l := by
  unfold tally_Own
  rw [tally_Own_l1_eq N l 0 [] h (by simpa using hl)]
  rfl
end Go.Proofs.Ytioalgofaiideaa
