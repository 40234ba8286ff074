/- Plain laws of the mirrors: cells. No program in sight. -/
import Derived.Test.YtoceeiamcfdnlaaPl7
namespace Go.Proofs.Ytoceeiamcfdnlaa
open Go.RowKit
set_option linter.unusedVariables false
/-- the first line of a class -/
def lineN (c : Int) : List Ln → Int
  | [] => -1
  | y :: l => if y.cls = c then y.found else lineN c l
/-- what cells remember -/
def cgetN (s : St) (e c : Int) : List Ce → Int
  | [] => -1
  | x :: l => if x.site = s then (if x.epoch = e then lineN c x.lines else -1) else cgetN s e c l
theorem ixC_is (N : Nat) (s : St) : ∀ (l : List Ce) (k : Nat), slices_IndexFunc_api_Cell_api_Cell_c1_l1 N (fun x => cells_where_1 N x s) l k = some (match l.findIdx? (fun t => decide (t.site = s)) with | some i => .ret ((k + i : Nat) : Int) | none => .next ())
  | [], k => rfl
  | x :: l, k => by
    rw [slices_IndexFunc_api_Cell_api_Cell_c1_l1, ixf_cons, ixC_is N s l (k + 1)]
    unfold cells_where_1
    rw [eqAs_St]
    by_cases e : x.site = s
    · simp [e]
    · cases l.findIdx? (fun t => decide (t.site = s)) <;> simp [e]; omega
theorem cells_where_is (N : Nat) (l : List Ce) (s : St) : cells_where N l s = some (ixf (fun t => decide (t.site = s)) l) := by
  unfold cells_where slices_IndexFunc_api_Cell_api_Cell_c1 ixf
  rw [ixC_is]
  cases l.findIdx? (fun t => decide (t.site = s)) <;> simp
theorem cells_Get_l1_eq (N : Nat) (c : Int) : ∀ (l : List Ln) (k : Nat), ∃ o, cells_Get_l1 N c l k = some o ∧ (match o with | .ret r => r | .next () => -1) = lineN c l
  | [], k => ⟨.next (), rfl, rfl⟩
  | y :: l, k => by
    rw [cells_Get_l1, lineN]
    by_cases h : y.cls = c
    · exact ⟨.ret y.found, by simp [h], by simp [h]⟩
    · obtain ⟨o, h1, h2⟩ := cells_Get_l1_eq N c l (k + 1)
      exact ⟨o, by simp [h, h1], by rw [if_neg h]; exact h2⟩
theorem cgetN_ix (s : St) (e c : Int) : ∀ l : List Ce, cgetN s e c l = match l.findIdx? (fun t => decide (t.site = s)) with
      | some i => (match l[i]? with | some x => (if x.epoch = e then lineN c x.lines else -1) | none => -1) | none => -1
  | [] => rfl
  | x :: l => by
    rw [cgetN, ixf_cons]
    by_cases h : x.site = s
    · simp [h]
    · simp only [h, decide_false, Bool.false_eq_true, if_false]
      rw [cgetN_ix s e c l]
      cases l.findIdx? (fun t => decide (t.site = s)) <;> simp
theorem cells_Get_eq (N : Nat) (l : List Ce) (s : St) (e c : Int) : cells_Get N l s e c = some (cgetN s e c l) := by
  unfold cells_Get
  rw [cells_where_is, cgetN_ix]
  simp only [Option.bind_some]
  rcases ixf_way (fun t : Ce => decide (t.site = s)) l with ⟨k, x, e1, e2, e3, e4⟩ | ⟨e1, e2⟩
  · rw [e1, e4]
    have h0 : ¬ ((k : Int) < 0) := by omega
    simp only [h0, decide_false, cond_false, nthO_nat, e2, Option.bind_some]
    by_cases he : x.epoch = e
    · obtain ⟨o, h1, h2⟩ := cells_Get_l1_eq N c x.lines 0
      simp only [he, decide_true, Bool.not_true, cond_false, h1, Option.bind_some, if_true, ← h2]
      cases o <;> rfl
    · simp [he]
  · rw [e1, e2]
    simp
def SmallC (l : List Ce) : Prop := l.length ≤ 1048576 ∧ ∀ x ∈ l, x.lines.length ≤ 1048576
/-- cells, once something is put into them -/
def putN (s : St) (e c f : Int) : List Ce → List Ce
  | [] => [putC e c f ⟨s, e, false, []⟩]
  | x :: l => if x.site = s then putC e c f x :: l else x :: putN s e c f l
theorem cells_Put_eq (N : Nat) (l : List Ce) (s : St) (e c f : Int) (h : SmallC l) : cells_Put N l s e c f = some (putN s e c f l) := by
  unfold cells_Put
  have hg : (Nat.ble ((l.length + 1) * 72) 140737488355328 && l.all fun t => Nat.ble ((t.lines.length + 1) * 16) 140737488355328) = true := by
    rw [Bool.and_eq_true, List.all_eq_true]
    exact ⟨ble_true (by have := h.1; omega), fun t ht => ble_true (by have := h.2 t ht; omega)⟩
  rw [hg]
  simp only [cond_true]
  congr 1
  clear hg h
  unfold ixd
  induction l with
  | nil => rfl
  | cons x l ih =>
    rw [ixf_cons, putN]
    by_cases hs : x.site = s
    · simp [hs]
    · simp only [hs, decide_false, Bool.false_eq_true, if_false]
      rw [← ih]
      cases l.findIdx? (fun t => decide (t.site = s)) with
      | none => simp
      | some i => simp
theorem slices_Clone_Ln_eqC (N : Nat) {l : List Ln} (h : l.length ≤ 1048576) : slices_Clone_Ln N l = some l := by
  unfold slices_Clone_Ln
  rw [ble_true (by omega)]
  rfl
theorem cells_Own_l1_eq (N : Nat) : ∀ (l : List Ce) (k : Nat) (acc : List Ce), (∀ t ∈ l, t.lines.length ≤ 1048576) → acc.length + l.length ≤ 1048576 → cells_Own_l1 N l k acc = some (acc ++ l)
  | [], k, acc, _, _ => by simp [cells_Own_l1]
  | x :: l, k, acc, h, hl => by
    rw [cells_Own_l1, slices_Clone_Ln_eqC N (h x (by simp))]
    simp only [Option.bind_some]
    rw [ble_true (by simp at hl ⊢; omega)]
    simp only [cond_true]
    rw [cells_Own_l1_eq N l (k + 1) _ (fun o ho => h o (by simp [ho])) (by simp at hl ⊢; omega)]
    simp
theorem cells_Own_eq (N : Nat) {l : List Ce} (h : SmallC l) : cells_Own N l = some l := by
  unfold cells_Own
  rw [cells_Own_l1_eq N l 0 [] h.2 (by simpa using h.1)]
  rfl
/-- what is found by cells: cells then, where, which, and whether they remembered -/
def cfindN (w : Wd) (s : St) (c : Int) (name : ByteArray) (l : List Ce) : List Ce × Int × Int × Bool :=
  if 0 ≤ cgetN s w.epoch c l ∧ cgetN s w.epoch c l < w.classes.length then (l, (findN w name (cgetN s w.epoch c l)).1, (findN w name (cgetN s w.epoch c l)).2, true)
  else if (findN w name c).2 < 0 then (l, (findN w name c).1, (findN w name c).2, false)
  else (putN s w.epoch c (findN w name c).1 l, (findN w name c).1, (findN w name c).2, false)
theorem cells_Find_eq (N : Nat) (l : List Ce) (w : Wd) (s : St) (c : Int) (name : ByteArray) (hN : 1048578 ≤ N) (hw : RiseW w) (hs : SmallW w) (hl : SmallC l) : cells_Find N l w s c name = some (cfindN w s c name l) := by
  unfold cells_Find cfindN
  rw [cells_Get_eq]
  simp only [Option.bind_some, class_Find_eq N w _ name hN hw hs, cells_Own_eq N hl, cells_Put_eq N l s _ _ _ hl]
  by_cases h0 : 0 ≤ cgetN s w.epoch c l
  · by_cases h1 : cgetN s w.epoch c l < w.classes.length
    · simp [h0, h1]
    · by_cases h2 : (findN w name c).2 < 0 <;> simp [h0, h1, h2]
  · by_cases h2 : (findN w name c).2 < 0 <;> simp [h0, h2]
theorem findO_again {w : Wd} {s : ByteArray} : ∀ {n : Nat} {c : Int} {p : Int × Int}, findO w s n c = some p → ∀ m, findO w s (m + 1) p.1 = some p
  | 0, c, p, h, m => by cases h
  | n + 1, c, p, h, m => by
    rw [findO] at h
    by_cases h0 : 0 ≤ c
    · rw [if_pos h0] at h
      cases hx : w.classes[c.toNat]? with
      | none => rw [hx] at h; cases h
      | some x =>
        rw [hx] at h
        simp only at h
        cases hi : ixN s x.methods with
        | none => rw [hi] at h; exact findO_again h m
        | some i =>
          rw [hi] at h
          cases h
          rw [findO, if_pos h0, hx]
          simp only [hi]
    · rw [if_neg h0] at h; cases h
/-- what is found is found from there, too -/
theorem findN_again {w : Wd} {s : ByteArray} {c : Int} (h : 0 ≤ (findN w s c).2) : findN w s (findN w s c).1 = findN w s c := by
  unfold findN at h ⊢
  cases hf : findO w s (w.classes.length + 1) c with
  | none => rw [hf] at h; exact absurd h (by decide)
  | some p =>
    rw [Option.getD_some, findO_again hf (w.classes.length), Option.getD_some]
theorem lineC_len (c f : Int) (y : Ce) (h : y.lines.length ≤ 1048575) : (lineC c f y).lines.length ≤ y.lines.length + 1 := by
  unfold lineC
  split
  · omega
  · split
    · simp
    · simp
theorem putC_len (e c f : Int) (x : Ce) (h : x.lines.length ≤ 3) : (putC e c f x).lines.length ≤ 3 := by
  unfold putC lineC freshC
  by_cases he : x.epoch = e
  · rw [if_pos he]
    split
    · exact h
    · split
      · simp
      · rename_i h3
        simp only [List.length_append, List.length_cons, List.length_nil]
        omega
  · rw [if_neg he]
    split
    · simp
    · split <;> simp
theorem putN_few {s : St} {e c f : Int} : ∀ {l : List Ce}, (∀ x ∈ l, x.lines.length ≤ 3) → (∀ x ∈ putN s e c f l, x.lines.length ≤ 3) ∧ (putN s e c f l).length ≤ l.length + 1
  | [], _ => ⟨fun x hx => by
      rw [putN, List.mem_singleton] at hx
      subst hx
      exact putC_len e c f _ (by simp), by simp [putN]⟩
  | x :: l, h => by
    rw [putN]
    by_cases hs : x.site = s
    · rw [if_pos hs]
      refine ⟨fun y hy => ?_, by simp⟩
      rcases List.mem_cons.1 hy with rfl | hy
      · exact putC_len e c f x (h x (by simp))
      · exact h y (by simp [hy])
    · rw [if_neg hs]
      obtain ⟨h1, h2⟩ := putN_few (s := s) (e := e) (c := c) (f := f) (l := l) fun y hy => h y (by simp [hy])
      refine ⟨fun y hy => ?_, by simp; omega⟩
      rcases List.mem_cons.1 hy with rfl | hy
      · exact h y (by simp)
      · exact h1 y hy
end Go.Proofs.Ytoceeiamcfdnlaa
