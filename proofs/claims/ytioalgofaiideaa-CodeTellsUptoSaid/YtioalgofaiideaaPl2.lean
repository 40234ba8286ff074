/- Plain laws of the mirrors: package value. No program in sight. -/
import Derived.Test.YtioalgofaiideaaPl1
namespace Go.Proofs.Ytioalgofaiideaa
open Go.RowKit
set_option linter.unusedVariables false
theorem ble_true {a b : Nat} (h : a ≤ b) : Nat.ble a b = true := by rw [Nat.ble_eq]; exact h
theorem nthO_out {α : Type} {l : List α} {i : Int} (h : ¬ (i < l.length)) : l[i.toNat]? = none := List.getElem?_eq_none (by omega)
theorem nthO_pos {α : Type} {l : List α} {i : Int} (h : 0 ≤ i) : nthO l i = l[i.toNat]? := by
  unfold nthO; rw [decide_eq_true h]; rfl
theorem nthO_in {α : Type} {l : List α} {i : Int} (h : 0 ≤ i) (h2 : i < l.length) : ∃ x, l[i.toNat]? = some x ∧ nthO l i = some x := by
  have hl : i.toNat < l.length := by omega
  exact ⟨l[i.toNat], List.getElem?_eq_getElem hl, by rw [nthO_pos h, List.getElem?_eq_getElem hl]⟩
/-- what is wrong with a value -/
def wrongN (v : V) (n : Int) : Int :=
  if v.k = 0 ∨ v.k = 1 ∨ v.k = 2 then (if v.n = 0 then 0 else 2)
  else if v.k = 3 then (if v.n < -1073741824 ∨ 1073741824 < v.n then 3 else 0)
  else if v.k = 4 then (if v.n < 0 ∨ n ≤ v.n then 6 else 0) else 1
theorem value_Wrong_eq (N : Nat) (v : V) (n : Int) : value_Wrong N v n = some (wrongN v n) := by
  unfold value_Wrong wrongN
  by_cases h0 : v.k = 0
  · by_cases h : v.n = 0 <;> simp [h0, h]
  by_cases h1 : v.k = 1
  · by_cases h : v.n = 0 <;> simp [h1, h]
  by_cases h2 : v.k = 2
  · by_cases h : v.n = 0 <;> simp [h2, h]
  by_cases h3 : v.k = 3
  · by_cases h : v.n < -1073741824 <;> by_cases h' : 1073741824 < v.n <;> simp [h3, h, h']
  by_cases h4 : v.k = 4
  · by_cases h : v.n < 0 <;> by_cases h' : n ≤ v.n <;> simp [h4, h, h']
  simp [h0, h1, h2, h3, h4]
theorem qcref1_Wrong_eq (N : Nat) (v : V) (n : Int) : qcref1_Wrong N v n = some (wrongN v n) := by
  unfold qcref1_Wrong wrongN
  by_cases h0 : v.k = 0
  · by_cases h : v.n = 0 <;> simp [h0, h]
  by_cases h1 : v.k = 1
  · by_cases h : v.n = 0 <;> simp [h1, h]
  by_cases h2 : v.k = 2
  · by_cases h : v.n = 0 <;> simp [h2, h]
  by_cases h3 : v.k = 3
  · by_cases h : v.n < -1073741824 <;> by_cases h' : 1073741824 < v.n <;> simp [h3, h, h']
  by_cases h4 : v.k = 4
  · by_cases h : v.n < 0 <;> by_cases h' : n ≤ v.n <;> simp [h4, h, h']
  by_cases h5 : v.k < 0
  · simp [h0, h1, h2, h3, h4, h5]
  · have h6 : 4 < v.k := by omega
    simp [h0, h1, h2, h3, h4, h5, h6]
/-- the class of a value -/
def classN (h : List Ob) (v : V) : Int :=
  if v.k = 0 then 1 else if v.k = 1 ∨ v.k = 2 then 2 else if v.k = 3 then 3
  else if v.k = 4 ∧ 0 ≤ v.n then (match h[v.n.toNat]? with | some o => o.cls | none => 0) else 0
theorem value_Class_eq (N : Nat) (h : List Ob) (v : V) : value_Class N h v = some (classN h v) := by
  unfold value_Class classN
  by_cases h0 : v.k = 0
  · simp [h0]
  by_cases h1 : v.k = 1
  · simp [h1]
  by_cases h2 : v.k = 2
  · simp [h2]
  by_cases h3 : v.k = 3
  · simp [h3]
  by_cases h4 : v.k = 4
  · by_cases h5 : 0 ≤ v.n
    · by_cases h6 : v.n < h.length
      · obtain ⟨x, hx, hy⟩ := nthO_in h5 h6
        simp [h4, h5, h6, hy]
        exact (congrArg Ob.cls (List.getElem?_eq_some_iff.1 hx).2).symm
      · simp [h4, h5, h6, nthO_out h6]
    · simp [h4, h5]
  · simp [h0, h1, h2, h3, h4]
theorem qcref1_Class_eq (N : Nat) (h : List Ob) (v : V) : qcref1_Class N h v = some (classN h v) := by
  unfold qcref1_Class classN
  by_cases h0 : v.k = 0
  · simp [h0, nthO]
  by_cases h1 : v.k = 1
  · simp [h1, nthO]
  by_cases h2 : v.k = 2
  · simp [h2, nthO]
  by_cases h3 : v.k = 3
  · simp [h3, nthO]
  by_cases h4 : v.k = 4
  · by_cases h5 : 0 ≤ v.n
    · by_cases h6 : v.n < h.length
      · obtain ⟨x, hx, hy⟩ := nthO_in h5 h6
        simp [h4, h5, h6, hy]
        exact (congrArg Ob.cls (List.getElem?_eq_some_iff.1 hx).2).symm
      · simp [h4, h5, h6, nthO_out h6]
    · simp [h4, h5]
  · by_cases h5 : v.k < 0
    · simp [h0, h1, h2, h3, h4, h5]
    · have h6 : 3 < v.k := by omega
      simp [h0, h1, h2, h3, h4, h5, h6]
/-- what is in a slot -/
def slotN (h : List Ob) (v : V) (n : Int) : V :=
  if v.k = 4 ∧ 0 ≤ v.n ∧ 0 ≤ n then (match h[v.n.toNat]? with | some o => o.slots.getD n.toNat ⟨0, 0⟩ | none => ⟨0, 0⟩) else ⟨0, 0⟩
theorem value_Slot_eq (N : Nat) (h : List Ob) (v : V) (n : Int) : value_Slot N h v n = some (slotN h v n) := by
  unfold value_Slot slotN
  by_cases h4 : v.k = 4
  · by_cases h5 : 0 ≤ v.n
    · have h5' : ¬ v.n < 0 := by omega
      by_cases h6 : v.n < h.length
      · have h6' : ¬ ((h.length : Int) ≤ v.n) := by omega
        obtain ⟨x, hx, hy⟩ := nthO_in h5 h6
        by_cases h7 : 0 ≤ n
        · have h7' : ¬ n < 0 := by omega
          by_cases h8 : n < x.slots.length
          · have h8' : ¬ ((x.slots.length : Int) ≤ n) := by omega
            obtain ⟨y, hy1, hy2⟩ := nthO_in h7 h8
            simp [h4, h5, h5', h6', h7, h7', hx, hy, h8', hy1, hy2, List.getD_eq_getElem?_getD]
          · have h8' : ((x.slots.length : Int) ≤ n) := by omega
            simp [h4, h5, h5', h6', h7, h7', hx, hy, h8', nthO_out h8, List.getD_eq_getElem?_getD]
        · have h7' : n < 0 := by omega
          simp [h4, h5, h5', h6', h7, h7']
      · have h6' : ((h.length : Int) ≤ v.n) := by omega
        simp [h4, h5, h5', h6', nthO_out h6]
    · have h5' : v.n < 0 := by omega
      simp [h4, h5, h5']
  · simp [h4]
theorem qcref1_Slot_l1_eq (N : Nat) (n : Int) : ∀ (l : List V) (k : Nat), qcref1_Slot_l1 N n l k = some (if (k : Int) ≤ n then (match l[(n - k).toNat]? with | some x => .ret x | none => .next ()) else .next ())
  | [], k => by simp [qcref1_Slot_l1]
  | x :: l, k => by
    rw [qcref1_Slot_l1, qcref1_Slot_l1_eq N n l (k + 1)]
    by_cases e : (k : Int) = n
    · subst e; simp
    · by_cases h : (k : Int) ≤ n
      · have h1 : ((k + 1 : Nat) : Int) ≤ n := by omega
        have h2 : (n - (k : Int)).toNat = (n - ((k + 1 : Nat) : Int)).toNat + 1 := by omega
        rw [if_pos h1, if_pos h, h2]
        simp [e]
      · have h1 : ¬ ((k + 1 : Nat) : Int) ≤ n := by omega
        rw [if_neg h1, if_neg h]
        simp [e]
theorem qcref1_Slot_eq (N : Nat) (h : List Ob) (v : V) (n : Int) : qcref1_Slot N h v n = some (slotN h v n) := by
  unfold qcref1_Slot slotN
  by_cases h4 : v.k = 4
  · by_cases h5 : 0 ≤ v.n
    · by_cases h6 : v.n < h.length
      · obtain ⟨x, hx, hy⟩ := nthO_in h5 h6
        by_cases h7 : 0 ≤ n
        · simp only [h4, h5, h6, hx, hy, Option.bind_some, Option.bind_none, cond_true, cond_false, Bool.cond_decide, eqAs_V, eqAs_St, eqAs_Ln, eqAs_Ins, Bool.not_true, Bool.not_false, nthO_nat, decide_true, qcref1_Slot_l1_eq]
          have : (n - ((0 : Nat) : Int)).toNat = n.toNat := by omega
          rw [this]
          cases hq : x.slots[n.toNat]? <;> simp [h7, hq, List.getD_eq_getElem?_getD]
        · simp [h4, h5, h6, hx, hy, qcref1_Slot_l1_eq, h7]
      · simp [h4, h5, h6, nthO_out h6]
    · simp [h4, h5]
  · simp [h4]
theorem value_Bool_eq (N : Nat) (b : Bool) : value_Bool N b = some (if b = true then ⟨2, 0⟩ else ⟨1, 0⟩) := by cases b <;> rfl
theorem qcref1_Bool_eq (N : Nat) (b : Bool) : qcref1_Bool N b = some (if b = true then ⟨2, 0⟩ else ⟨1, 0⟩) := by cases b <;> rfl
theorem slices_Clone_V_eq (N : Nat) {l : List V} (h : l.length ≤ 1048576) : slices_Clone_V N l = some l := by
  unfold slices_Clone_V
  rw [ble_true (by omega)]
  rfl
theorem value_Own_l1_eq (N : Nat) : ∀ (l : List Ob) (k : Nat) (acc : List Ob), (∀ o ∈ l, o.slots.length ≤ 1048576) → acc.length + l.length ≤ 1048576 → value_Own_l1 N l k acc = some (acc ++ l)
  | [], k, acc, _, _ => by simp [value_Own_l1]
  | x :: l, k, acc, h, hl => by
    rw [value_Own_l1, slices_Clone_V_eq N (h x (by simp))]
    simp only [Option.bind_some]
    rw [ble_true (by simp at hl ⊢; omega)]
    simp only [cond_true]
    rw [value_Own_l1_eq N l (k + 1) _ (fun o ho => h o (by simp [ho])) (by simp at hl ⊢; omega)]
    simp
theorem value_Own_eq (N : Nat) {l : List Ob} (h : ∀ o ∈ l, o.slots.length ≤ 1048576) (hl : l.length ≤ 1048576) : value_Own N l = some l := by
  unfold value_Own
  rw [value_Own_l1_eq N l 0 [] h (by simpa using hl)]
  rfl
theorem obs_small {l : List Ob} (h : bkL bkOb l ≤ 1048576) : (∀ o ∈ l, o.slots.length ≤ 1048576) ∧ l.length ≤ 1048575 := by
  refine ⟨fun o ho => ?_, ?_⟩
  · have h1 := bkL_mem (bk := bkOb) ho
    have h2 := bkL_len (bk := bkV) (fun a => bkV_pos a) o.slots
    have h3 : bkL bkV o.slots + 1 ≤ bkOb o := by unfold bkOb; omega
    omega
  · have := bkL_len (bk := bkOb) (fun a => bkOb_pos a) l
    omega
theorem value_New_eq (N : Nat) {l : List Ob} (c s : Int) (h : ∀ o ∈ l, o.slots.length ≤ 1048576) (hl : l.length ≤ 1048575) (h0 : 0 ≤ s) (h1 : s ≤ 1000) :
    value_New N l c s = some (if 60 ≤ l.length then ([], ⟨0, 0⟩, 15) else (l ++ [⟨c, List.replicate s.toNat ⟨0, 0⟩⟩], ⟨4, (l.length : Int)⟩, 0)) := by
  unfold value_New
  have hm : max s 0 = s := by omega
  by_cases h6 : 60 ≤ l.length
  · have h6' : (60 : Int) ≤ l.length := by omega
    simp [h6, h6']
  · have h6' : ¬ (60 : Int) ≤ l.length := by omega
    rw [value_Own_eq N h (by omega), hm]
    have e1 : (decide (0 ≤ s) && decide (s ≤ 140737488355328) && decide (s * 16 ≤ 140737488355328)) = true := by
      simp only [Bool.and_eq_true, decide_eq_true_eq]; omega
    rw [e1]
    simp only [Option.bind_some, cond_true]
    rw [ble_true (by simp; omega)]
    simp [h6, h6']
def numP (n : Int) : V := ⟨3, n.tmod 1073741825⟩
def primN (p : Int) (a b : V) : V × Int :=
  if a.k ≠ 3 ∨ b.k ≠ 3 then (⟨0, 0⟩, 12)
  else if p = 1 then (numP (a.n + b.n), 0) else if p = 2 then (numP (a.n - b.n), 0) else if p = 3 then (numP (a.n * b.n), 0)
  else if p = 4 then (if a.n < b.n then ⟨2, 0⟩ else ⟨1, 0⟩, 0) else if p = 5 then (if a.n = b.n then ⟨2, 0⟩ else ⟨1, 0⟩, 0) else (⟨0, 0⟩, 1)
theorem tmod_in (n : Int) : InR (n.tmod 1073741825) := by
  have h1 := Int.tmod_lt_of_pos n (show (0 : Int) < 1073741825 by omega)
  have h2 : -1073741825 < n.tmod 1073741825 := by
    rcases Int.le_total 0 n with h | h
    · have := Int.tmod_nonneg (1073741825 : Int) h; omega
    · have := Int.tmod_lt_of_pos (-n) (show (0 : Int) < 1073741825 by omega)
      rw [Int.neg_tmod] at this
      omega
  exact ⟨by omega, by omega⟩
theorem value_Prim_1_eq (N : Nat) (n : Int) : value_Prim_1 N n = some (numP n) := by
  unfold value_Prim_1 numP
  have := tmod_in n
  simp [this]
/-- a number that may be -/
def numOk (n : Int) : Prop := -1073741824 ≤ n ∧ n ≤ 1073741824
theorem mul_num {a b : Int} (ha : numOk a) (hb : numOk b) : -1152921504606846976 ≤ a * b ∧ a * b ≤ 1152921504606846976 := by
  have h : (a * b).natAbs ≤ 1073741824 * 1073741824 := by
    rw [Int.natAbs_mul]
    exact Nat.mul_le_mul (by have := ha.1; have := ha.2; omega) (by have := hb.1; have := hb.2; omega)
  omega
theorem value_Prim_eq (N : Nat) (p : Int) (a b : V) (ha : a.k = 3 → numOk a.n) (hb : b.k = 3 → numOk b.n) : value_Prim N p a b = some (primN p a b) := by
  unfold value_Prim primN
  by_cases h1 : a.k = 3
  · by_cases h2 : b.k = 3
    · have ha := ha h1
      have hb := hb h2
      have hm := mul_num ha hb
      have w1 : wr (a.n + b.n) = a.n + b.n := wr_in (by unfold InR; unfold numOk at ha hb; omega)
      have w2 : wr (a.n - b.n) = a.n - b.n := wr_in (by unfold InR; unfold numOk at ha hb; omega)
      have w3 : wr (a.n * b.n) = a.n * b.n := wr_in (by unfold InR; omega)
      simp only [h1, h2, w1, w2, w3, value_Prim_1_eq, value_Bool_eq, Option.bind_some, Option.bind_none, cond_true, cond_false, Bool.cond_decide, eqAs_V, eqAs_St, eqAs_Ln, eqAs_Ins, Bool.not_true, Bool.not_false, nthO_nat, decide_true, decide_eq_true_eq, ne_eq, not_true_eq_false, or_self, if_false]
      by_cases e1 : p = 1
      · simp [e1]
      by_cases e2 : p = 2
      · simp [e2]
      by_cases e3 : p = 3
      · simp [e3]
      by_cases e4 : p = 4
      · simp [e4]
      by_cases e5 : p = 5
      · simp [e5]
      simp [e1, e2, e3, e4, e5]
    · simp [h1, h2]
  · simp [h1]
theorem round_pos {n : Int} (h : 0 ≤ n) (hb : n ≤ 1152921504606846976) : wr (n - wr (n.tdiv 1073741825 * 1073741825)) = n.tmod 1073741825 ∧ InR (n.tdiv 1073741825) := by
  have e := Int.mul_tdiv_add_tmod n 1073741825
  have h1 := Int.tmod_nonneg (1073741825 : Int) h
  have h2 := Int.tmod_lt_of_pos n (show (0 : Int) < 1073741825 by omega)
  have w1 : wr (n.tdiv 1073741825 * 1073741825) = n.tdiv 1073741825 * 1073741825 := wr_in (by unfold InR; omega)
  have w2 : wr (n - n.tdiv 1073741825 * 1073741825) = n - n.tdiv 1073741825 * 1073741825 := wr_in (by unfold InR; omega)
  rw [w1, w2]
  exact ⟨by omega, by unfold InR; omega⟩
theorem round_neg {n : Int} (h : n < 0) (hb : -1152921504606846976 ≤ n) : wr (n + wr ((-n).tdiv 1073741825 * 1073741825)) = n.tmod 1073741825 ∧ InR ((-n).tdiv 1073741825) ∧ InR (-n) := by
  have e := Int.mul_tdiv_add_tmod (-n) 1073741825
  have h1 := Int.tmod_nonneg (1073741825 : Int) (show (0 : Int) ≤ -n by omega)
  have h2 := Int.tmod_lt_of_pos (-n) (show (0 : Int) < 1073741825 by omega)
  have w1 : wr ((-n).tdiv 1073741825 * 1073741825) = (-n).tdiv 1073741825 * 1073741825 := wr_in (by unfold InR; omega)
  have w2 : wr (n + (-n).tdiv 1073741825 * 1073741825) = n + (-n).tdiv 1073741825 * 1073741825 := wr_in (by unfold InR; omega)
  have e3 : (-n).tmod 1073741825 = -(n.tmod 1073741825) := Int.neg_tmod ..
  rw [w1, w2]
  exact ⟨by omega, by unfold InR; omega, by unfold InR; omega⟩
theorem qcref1_Prim_eq (N : Nat) (p : Int) (a b : V) (ha : a.k = 3 → numOk a.n) (hb : b.k = 3 → numOk b.n) : qcref1_Prim N p a b = some (primN p a b) := by
  unfold qcref1_Prim
  by_cases h1 : a.k = 3
  · by_cases h2 : b.k = 3
    · have ha := ha h1
      have hb := hb h2
      have hm := mul_num ha hb
      have w1 : wr (a.n + b.n) = a.n + b.n := wr_in (by unfold InR; unfold numOk at ha hb; omega)
      have w2 : wr (a.n - b.n) = a.n - b.n := wr_in (by unfold InR; unfold numOk at ha hb; omega)
      have w3 : wr (a.n * b.n) = a.n * b.n := wr_in (by unfold InR; omega)
      have fin : ∀ n : Int, -1152921504606846976 ≤ n → n ≤ 1152921504606846976 → (bif decide ((0 : Int) ≤ n) then (bif (decide ((1073741825 : Int) ≠ 0) && decide (InR (n.tdiv (1073741825 : Int)))) then some ((⟨(3 : Int), (wr (n - (wr ((n.tdiv (1073741825 : Int)) * (1073741825 : Int)))))⟩ : V), (0 : Int)) else none) else (bif decide (InR (-n)) then (bif (decide ((1073741825 : Int) ≠ 0) && decide (InR ((-n).tdiv (1073741825 : Int)))) then some ((⟨(3 : Int), (wr (n + (wr (((-n).tdiv (1073741825 : Int)) * (1073741825 : Int)))))⟩ : V), (0 : Int)) else none) else none)) = some (numP n, 0) := by
        intro n l1 l2
        by_cases hn : 0 ≤ n
        · obtain ⟨r1, r2⟩ := round_pos hn l2
          have d2 := decide_eq_true r2
          have d0 : decide ((1073741825 : Int) ≠ 0) = true := by decide
          simp only [hn, r1, d2, d0, numP, decide_true, cond_true, Bool.and_true]
        · obtain ⟨r1, r2, r3⟩ := round_neg (show n < 0 by omega) l1
          have d2 := decide_eq_true r2
          have d3 := decide_eq_true r3
          have d0 : decide ((1073741825 : Int) ≠ 0) = true := by decide
          simp only [hn, r1, d2, d3, d0, numP, decide_true, decide_false, cond_true, cond_false, Bool.and_true]
      unfold numOk at ha hb
      by_cases e1 : p = 1
      · have hp : primN p a b = (numP (a.n + b.n), 0) := by simp [primN, h1, h2, e1]
        rw [hp]
        simp only [h1, h2, w1, e1, decide_true, Bool.not_true, cond_true, cond_false, Option.bind_some]
        exact fin _ (by omega) (by omega)
      by_cases e2 : p = 2
      · have hp : primN p a b = (numP (a.n - b.n), 0) := by simp [primN, h1, h2, e2]
        rw [hp]
        simp only [h1, h2, w2, e1, e2, decide_true, decide_false, Bool.not_true, cond_true, cond_false, Option.bind_some]
        exact fin _ (by omega) (by omega)
      by_cases e3 : p = 3
      · have hp : primN p a b = (numP (a.n * b.n), 0) := by simp [primN, h1, h2, e3]
        rw [hp]
        simp only [h1, h2, w3, e1, e2, e3, decide_true, decide_false, Bool.not_true, cond_true, cond_false, Option.bind_some]
        exact fin _ hm.1 hm.2
      unfold primN
      simp only [h1, h2, qcref1_Bool_eq, e1, e2, e3, decide_true, decide_false, Bool.not_true, cond_true, cond_false, Option.bind_some]
      by_cases e4 : p = 4
      · simp [e4]
      by_cases e5 : p = 5
      · simp [e5]
      simp [e1, e2, e3, e4, e5]
    · simp [primN, h1, h2]
  · simp [primN, h1]
end Go.Proofs.Ytioalgofaiideaa
