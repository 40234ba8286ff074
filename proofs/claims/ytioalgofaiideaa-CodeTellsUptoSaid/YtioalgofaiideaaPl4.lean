/- Plain laws of the mirrors: what was most often, leaves, sites. No program in sight. -/
import Derived.Test.YtioalgofaiideaaPl3
namespace Go.Proofs.Ytioalgofaiideaa
open Go.RowKit
set_option linter.unusedVariables false
/-! ### what was most often -/
def most1 (p : Int × Int) (x : Ln) : Int × Int := if p.2 < x.found ∨ (x.found = p.2 ∧ 0 < p.2 ∧ x.cls < p.1) then (x.cls, x.found) else p
def mostN (s : St) (l : List Tl) : Int × Int := l.foldl (fun p t => if t.site = s then t.classes.foldl most1 p else p) (-1, 0)
def all1 (n : Int) (x : Ln) : Int := wr (n + x.found)
def allN (s : St) (l : List Tl) : Int := l.foldl (fun n t => if t.site = s then t.classes.foldl all1 n else n) 0
theorem tally_Most_l2_eq (N : Nat) : ∀ (l : List Ln) (k : Nat) (p : Int × Int), tally_Most_l2 N l k p.1 p.2 = some (l.foldl most1 p)
  | [], k, p => rfl
  | x :: l, k, p => by
    rw [tally_Most_l2, List.foldl_cons, ← tally_Most_l2_eq N l (k + 1)]
    unfold most1
    by_cases h1 : p.2 < x.found
    · simp [h1]
    · by_cases h2 : x.found = p.2
      · by_cases h3 : 0 < p.2
        · by_cases h4 : x.cls < p.1 <;> simp [h2, h3, h4]
        · simp [h2, h3]
      · simp [h1, h2]
theorem tally_Most_l1_eq (N : Nat) (s : St) : ∀ (l : List Tl) (k : Nat) (p : Int × Int), tally_Most_l1 N s l k p.1 p.2 = some (l.foldl (fun p t => if t.site = s then t.classes.foldl most1 p else p) p)
  | [], k, p => rfl
  | t :: l, k, p => by
    rw [tally_Most_l1, List.foldl_cons, ← tally_Most_l1_eq N s l (k + 1)]
    by_cases h : t.site = s
    · simp [h, eqAs_St, tally_Most_l2_eq]
    · simp [h, eqAs_St]
theorem tally_Most_eq (N : Nat) (l : List Tl) (s : St) : tally_Most N l s = some (mostN s l) := by
  unfold tally_Most
  rw [tally_Most_l1_eq N s l 0 (-1, 0)]
  rfl
theorem tally_All_l2_eq (N : Nat) : ∀ (l : List Ln) (k : Nat) (n : Int), tally_All_l2 N l k n = some (l.foldl all1 n)
  | [], k, n => rfl
  | x :: l, k, n => by rw [tally_All_l2, List.foldl_cons, tally_All_l2_eq N l (k + 1)]; rfl
theorem tally_All_l1_eq (N : Nat) (s : St) : ∀ (l : List Tl) (k : Nat) (n : Int), tally_All_l1 N s l k n = some (l.foldl (fun n t => if t.site = s then t.classes.foldl all1 n else n) n)
  | [], k, n => rfl
  | t :: l, k, n => by
    rw [tally_All_l1, List.foldl_cons, ← tally_All_l1_eq N s l (k + 1)]
    by_cases h : t.site = s
    · simp [h, eqAs_St, tally_All_l2_eq]
    · simp [h, eqAs_St]
theorem tally_All_eq (N : Nat) (l : List Tl) (s : St) : tally_All N l s = some (allN s l) := by
  unfold tally_All
  rw [tally_All_l1_eq N s l 0 0]
  rfl
theorem qcref1_Most_l2_eq (N : Nat) : ∀ (l : List Ln) (k : Nat) (p : Int × Int) (n : Int), qcref1_Most_l2 N l k p.1 p.2 n = some ((l.foldl most1 p).1, (l.foldl most1 p).2, l.foldl all1 n)
  | [], k, p, n => rfl
  | x :: l, k, p, n => by
    rw [qcref1_Most_l2, List.foldl_cons, List.foldl_cons, ← qcref1_Most_l2_eq N l (k + 1)]
    unfold most1 all1
    by_cases h1 : p.2 < x.found
    · simp [h1]
    · by_cases h2 : x.found = p.2
      · by_cases h3 : 0 < p.2
        · by_cases h4 : x.cls < p.1 <;> simp [h2, h3, h4]
        · simp [h2, h3]
      · by_cases h3 : 0 < p.2
        · simp [h1, h2, h3]
        · simp [h1, h2, h3]
theorem qcref1_Most_l1_eq (N : Nat) (s : St) : ∀ (l : List Tl) (k : Nat) (p : Int × Int) (n : Int), qcref1_Most_l1 N s l k p.1 p.2 n =
      some ((l.foldl (fun p t => if t.site = s then t.classes.foldl most1 p else p) p).1, (l.foldl (fun p t => if t.site = s then t.classes.foldl most1 p else p) p).2, l.foldl (fun n t => if t.site = s then t.classes.foldl all1 n else n) n)
  | [], k, p, n => rfl
  | t :: l, k, p, n => by
    rw [qcref1_Most_l1, List.foldl_cons, List.foldl_cons, ← qcref1_Most_l1_eq N s l (k + 1)]
    by_cases h : t.site = s
    · simp [h, eqAs_St, qcref1_Most_l2_eq]
    · simp [h, eqAs_St]
theorem qcref1_Most_eq (N : Nat) (l : List Tl) (s : St) : qcref1_Most N l s = some ((mostN s l).1, (mostN s l).2, allN s l) := by
  unfold qcref1_Most
  rw [qcref1_Most_l1_eq N s l 0 (-1, 0) 0]
  rfl
/-! ### leaves -/
def sends (i : Ins) : Bool := decide (i.op = 14) || decide (i.op = 13)
def leafN (m : Me) : Bool := decide (m.prim = 0) && !m.code.any sends
theorem choose_Leaf_1_eq (N : Nat) (i : Ins) : choose_Leaf_1 N i = some (sends i) := by
  unfold choose_Leaf_1 sends
  by_cases h : i.op = 14 <;> simp [h]
theorem leaf_ix (N : Nat) : ∀ (l : List Ins) (k : Nat), ∃ o, slices_IndexFunc_api_Instr_api_Instr_l1 N (fun x0_ => choose_Leaf_1 N x0_) l k = some o ∧ (match o with | .ret r => 0 ≤ r ∧ l.any sends = true | .next () => l.any sends = false)
  | [], k => ⟨_, rfl, rfl⟩
  | x :: l, k => by
    rw [slices_IndexFunc_api_Instr_api_Instr_l1, choose_Leaf_1_eq]
    cases h : sends x with
    | true => exact ⟨_, rfl, by simp [h]⟩
    | false =>
      obtain ⟨o, h1, h2⟩ := leaf_ix N l (k + 1)
      refine ⟨o, h1, ?_⟩
      cases o with
      | ret r => simpa [h] using h2
      | next u => simpa [h] using h2
theorem choose_Leaf_eq (N : Nat) (m : Me) : choose_Leaf N m = some (leafN m) := by
  unfold choose_Leaf leafN slices_ContainsFunc_api_Instr_api_Instr slices_IndexFunc_api_Instr_api_Instr
  by_cases h : m.prim = 0
  · obtain ⟨o, h1, h2⟩ := leaf_ix N m.code 0
    rw [h1]
    cases o with
    | ret r => simp [h, h2.1, h2.2]
    | next u =>
      have h2 : m.code.any sends = false := h2
      simp only [h, decide_true, cond_true, Option.bind_some, h2]
      rfl
  · simp [h]
theorem qcref5_Leaf_l1_eq (N : Nat) : ∀ (l : List Ins) (k : Nat), qcref5_Leaf_l1 N l k = some (if l.any sends = true then .ret false else .next ())
  | [], k => rfl
  | x :: l, k => by
    rw [qcref5_Leaf_l1, qcref5_Leaf_l1_eq N l (k + 1)]
    by_cases h : x.op = 14
    · simp [h, sends]
    · by_cases h' : x.op = 13 <;> simp [h, h', sends]
theorem qcref5_Leaf_eq (N : Nat) (m : Me) : qcref5_Leaf N m = some (leafN m) := by
  unfold qcref5_Leaf leafN
  rw [qcref5_Leaf_l1_eq]
  cases h : m.code.any sends <;> simp
/-! ### sites -/
def okAt (w : Wd) (f : Int × Int) (args : Int) : Bool := match nthO w.classes f.1 with
  | some x => (match nthO x.methods f.2 with | some m => leafN m && decide (m.args = args) | none => false)
  | none => false
def siteN (w : Wd) (t : List Tl) (s : St) (name : ByteArray) (args : Int) : Int :=
  if (mostN s t).1 < 0 ∨ allN s t < 2 ∨ wr (2 * (mostN s t).2) ≤ allN s t then -1
  else if 0 ≤ (findN w name (mostN s t).1).2 ∧ okAt w (findN w name (mostN s t).1) args = true then (mostN s t).1 else -1
theorem choose_Site_eq (N : Nat) (w : Wd) (t : List Tl) (s : St) (name : ByteArray) (args : Int) (hN : 1048578 ≤ N) (hw : RiseW w) (hs : SmallW w) : choose_Site N w t s name args = some (siteN w t s name args) := by
  unfold choose_Site siteN
  rw [tally_Most_eq, tally_All_eq]
  simp only [Option.bind_some]
  by_cases h1 : (mostN s t).1 < 0
  · simp [h1]
  by_cases h2 : allN s t < 2
  · simp [h2]
  by_cases h3 : wr (2 * (mostN s t).2) ≤ allN s t
  · simp [h1, h2, h3]
  simp only [h1, h2, h3, decide_false, cond_false, Option.bind_some, or_self, if_false]
  rw [class_Find_eq N w _ name hN hw hs]
  simp only [Option.bind_some]
  by_cases h4 : 0 ≤ (findN w name (mostN s t).1).2
  · obtain ⟨x, m, hx, hm, _⟩ := findN_in h4
    have h4' : ¬ (findN w name (mostN s t).1).2 < 0 := by omega
    simp only [h4, h4', decide_false, cond_false, hx, hm, Option.bind_some, choose_Leaf_eq, okAt, true_and]
    cases h5 : leafN m
    · simp
    · by_cases h6 : m.args = args <;> simp [h6]
  · have h4' : (findN w name (mostN s t).1).2 < 0 := by omega
    simp [h4, h4']
theorem choose_Sites_l1_eq (N : Nat) (w : Wd) (t : List Tl) (c : Int) (m : Me) (hN : 1048578 ≤ N) (hw : RiseW w) (hs : SmallW w) : ∀ (l : List Ins) (k : Nat) (acc : List Int), acc.length + l.length ≤ 1048576 →
    ∃ r, choose_Sites_l1 N w t c m l k acc = some r
  | [], k, acc, _ => ⟨_, rfl⟩
  | x :: l, k, acc, h => by
    simp only [List.length_cons] at h
    rw [choose_Sites_l1, choose_Site_eq N w t _ _ _ hN hw hs]
    simp only [Option.bind_some]
    have hb : ∀ n : Int, Nat.ble ((acc.length + [n].length) * 8) 140737488355328 = true := fun n => ble_true (by simp; omega)
    by_cases h1 : x.op = 14
    · simp only [h1, decide_true, cond_true, Option.bind_some, hb]
      exact choose_Sites_l1_eq N w t c m hN hw hs l (k + 1) _ (by simp; omega)
    · simp only [h1, decide_false, cond_false, Option.bind_some, hb, cond_true]
      exact choose_Sites_l1_eq N w t c m hN hw hs l (k + 1) _ (by simp; omega)
theorem choose_Sites_some (N : Nat) (w : Wd) (t : List Tl) (c k : Int) (hN : 1048578 ≤ N) (hw : RiseW w) (hs : SmallW w) : ∃ r, choose_Sites N w t c k = some r := by
  unfold choose_Sites
  by_cases h1 : c < 0
  · simp [h1]
  by_cases h2 : (w.classes.length : Int) ≤ c
  · simp [h1, h2]
  by_cases h3 : k < 0
  · simp [h1, h2, h3]
  obtain ⟨x, hx, hn⟩ := nthO_in (l := w.classes) (i := c) (by omega) (by omega)
  by_cases h4 : (x.methods.length : Int) ≤ k
  · simp [h1, h2, h3, h4, hn]
  obtain ⟨m, hm, hn2⟩ := nthO_in (l := x.methods) (i := k) (by omega) (by omega)
  simp only [h1, h2, h3, h4, hn, hn2, decide_false, cond_false, Option.bind_some]
  obtain ⟨r, hr⟩ := choose_Sites_l1_eq N w t c m hN hw hs m.code 0 [] (by
    have := (hs.2.2.1 x (List.mem_of_getElem? hx)).2 m (List.mem_of_getElem? hm); simpa using this)
  rw [hr]
  exact ⟨r, rfl⟩
theorem qcref5_Site_eq (N : Nat) (w : Wd) (t : List Tl) (s : St) (name : ByteArray) (args : Int) (hN : 1048578 ≤ N) (hs : SmallW w) : qcref5_Site N w t s name args = some (siteN w t s name args) := by
  unfold qcref5_Site siteN
  rw [qcref1_Most_eq]
  have h22 : (mostN s t).2 + (mostN s t).2 = 2 * (mostN s t).2 := by omega
  simp only [Option.bind_some, h22]
  by_cases h2 : allN s t < 2
  · simp [h2]
  by_cases h3 : wr (2 * (mostN s t).2) ≤ allN s t
  · simp [h2, h3]
  by_cases h1 : (mostN s t).1 < 0
  · simp [h1, h2, h3]
  simp only [h1, h2, h3, decide_false, cond_false, Option.bind_some, or_self, if_false]
  rw [qcref1_Find_eq N w _ name hN hs.1]
  simp only [Option.bind_some]
  by_cases h4 : 0 ≤ (findN w name (mostN s t).1).2
  · obtain ⟨x, m, hx, hm, _⟩ := findN_in h4
    have h4' : ¬ (findN w name (mostN s t).1).2 < 0 := by omega
    simp only [h4, h4', decide_false, cond_false, hx, hm, Option.bind_some, qcref5_Leaf_eq, okAt, true_and]
    cases h5 : leafN m
    · simp
    · by_cases h6 : m.args = args <;> simp [h6]
  · have h4' : (findN w name (mostN s t).1).2 < 0 := by omega
    simp [h4, h4']
theorem qcref5_Sites_l1_eq (N : Nat) (w : Wd) (t : List Tl) (c : Int) (m : Me) (hN : 1048578 ≤ N) (hw : RiseW w) (hs : SmallW w) : ∀ (l : List Ins) (k : Nat) (acc : List Int),
    qcref5_Sites_l1 N w t c m l k acc = choose_Sites_l1 N w t c m l k acc
  | [], k, acc => rfl
  | x :: l, k, acc => by
    rw [choose_Sites_l1, qcref5_Sites_l1, choose_Site_eq N w t _ _ _ hN hw hs, qcref5_Site_eq N w t _ _ _ hN hs]
    simp only [qcref5_Sites_l1_eq N w t c m hN hw hs l (k + 1)]
theorem qcref5_Sites_eq (N : Nat) (w : Wd) (t : List Tl) (c k : Int) (hN : 1048578 ≤ N) (hw : RiseW w) (hs : SmallW w) : qcref5_Sites N w t c k = choose_Sites N w t c k := by
  unfold qcref5_Sites choose_Sites
  simp only [qcref5_Sites_l1_eq N w t c _ hN hw hs]
end Go.Proofs.Ytioalgofaiideaa
