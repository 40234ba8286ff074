/- Plain laws of the mirrors: Slots, Name, numbers, Heights and Check as the reference has them. No program in sight. -/
import Derived.Test.YtioalgofaiideaaPl11
namespace Go.Proofs.Ytioalgofaiideaa
open Go.RowKit
set_option linter.unusedVariables false
theorem class_Slots_l1_eq (N : Nat) (w : Wd) (hs : w.classes.length ≤ 1048576) : ∀ (n : Nat) (k : Nat) (c acc : Int), k ≤ w.classes.length + 1 → w.classes.length + 1 - k < n →
    class_Slots_l1 N w n c acc (k : Int) = some ((upsN w (w.classes.length + 1 - k) c).foldl (fun n k => match w.classes[k.toNat]? with | some x => wr (n + x.slots) | none => n) acc)
  | 0, k, c, acc, _, h => by omega
  | n + 1, k, c, acc, hk, hn => by
    rw [class_Slots_l1]
    by_cases h0 : 0 ≤ c
    · by_cases h1 : c < w.classes.length
      · obtain ⟨x, hx, hnth⟩ := nthO_in h0 h1
        by_cases h2 : k ≤ w.classes.length
        · have h2' : (k : Int) ≤ (w.classes.length : Int) := by omega
          have e : w.classes.length + 1 - k = (w.classes.length - k) + 1 := by omega
          have wk : wr ((k : Int) + 1) = ((k + 1 : Nat) : Int) := by rw [wr_in (by unfold InR; omega)]; omega
          simp only [h0, h1, h2', decide_true, cond_true, Option.bind_some, hnth, wk]
          rw [class_Slots_l1_eq N w hs n (k + 1) _ _ (by omega) (by omega), e, upsN, if_pos h0, hx]
          simp only [List.foldl_cons, hx]
          rw [show w.classes.length + 1 - (k + 1) = w.classes.length - k by omega]
        · have h2' : ¬ (k : Int) ≤ (w.classes.length : Int) := by omega
          have e : w.classes.length + 1 - k = 0 := by omega
          simp only [h0, h1, h2', decide_true, decide_false, cond_true, cond_false, Option.bind_some, e]
          rfl
      · have hx : w.classes[c.toNat]? = none := nthO_out h1
        simp only [h0, h1, decide_true, decide_false, cond_true, cond_false, Option.bind_some]
        cases hm : w.classes.length + 1 - k with
        | zero => rfl
        | succ m => rw [upsN, if_pos h0, hx]; rfl
    · simp only [h0, decide_false, cond_false, Option.bind_some]
      cases hm : w.classes.length + 1 - k with
      | zero => rfl
      | succ m => rw [upsN, if_neg h0]; rfl
theorem class_Slots_eq (N : Nat) (w : Wd) (c : Int) (hN : 1048578 ≤ N) (hs : w.classes.length ≤ 1048576) : class_Slots N w c = some (slotsN w c) := by
  unfold class_Slots slotsN
  have h := class_Slots_l1_eq N w hs N 0 c 0 (by omega) (by omega)
  simp only [Nat.sub_zero, Int.ofNat_zero, Int.natCast_zero] at h
  rw [h]
  rfl
theorem class_Name_l1_eq (N : Nat) (s : ByteArray) : ∀ (n k : Nat), n + k = s.size → class_Name_l1 N s n k = some (if (s.data.toList.drop k).all nmB = true then .next () else .ret false)
  | 0, k, h => by
    rw [List.drop_eq_nil_of_le (by rw [show s.data.toList.length = s.size from rfl]; omega)]
    rfl
  | n + 1, k, h => by
    have hk : k < s.data.toList.length := by rw [show s.data.toList.length = s.size from rfl]; omega
    rw [class_Name_l1, List.drop_eq_getElem_cons hk, byO_nat, List.getElem?_eq_getElem hk, class_Name_l1_eq N s n (k + 1) (by omega)]
    simp only [Option.bind_some, List.all_cons]
    generalize s.data.toList[k] = u
    generalize s.data.toList.drop (k + 1) = b
    by_cases h1 : (u.toNat : Int) ≤ 32
    · have h1' : (u.toNat : Int) < 33 := by omega
      have e : nmB u = false := by simp [nmB, h1']
      simp only [h1, e, decide_true, cond_true, Option.bind_some, Bool.false_and]; rfl
    · have h1' : ¬ (u.toNat : Int) < 33 := by omega
      by_cases h2 : 126 < (u.toNat : Int)
      · have e : nmB u = false := by simp only [nmB, h1', h2, decide_true, decide_false, Bool.not_true, Bool.and_false]
        simp only [h1, h2, e, decide_true, decide_false, cond_true, cond_false, Option.bind_some, Bool.false_and]; rfl
      · have e : nmB u = true := by simp only [nmB, h1', h2, decide_false, Bool.not_false, Bool.and_true]
        simp only [h1, h2, e, decide_false, cond_false, Option.bind_some, Bool.true_and]
theorem class_Name_eq (N : Nat) (s : ByteArray) : class_Name N s = some (nameN s) := by
  unfold class_Name nameN
  have e : ((s.size : Int) - ((0 : Nat) : Int)).toNat = s.size := by omega
  rw [e, class_Name_l1_eq N s s.size 0 (by omega), List.drop_zero]
  by_cases h1 : (s.size : Int) < 1
  · have h1' : ¬ 0 < s.size := by omega
    simp [h1, h1']
  · have h1' : 0 < s.size := by omega
    by_cases h2 : (12 : Int) < (s.size : Int)
    · have h2' : ¬ s.size ≤ 12 := by omega
      simp [h1, h2, h2']
    · have h2' : s.size ≤ 12 := by omega
      cases h : s.data.toList.all nmB <;> simp [h1, h2, h1', h2']
def numOkN (w : Wd) (c : Int) (m : Me) (i : Ins) : Option Bool :=
  if i.op = 1 ∨ i.op = 6 ∨ i.op = 7 ∨ i.op = 8 ∨ i.op = 9 ∨ i.op = 10 ∨ i.op = 17 then some (decide (i.a = 0))
  else if i.op = 2 then some (decide (0 ≤ i.a) && decide (i.a < m.args))
  else if i.op = 3 ∨ i.op = 11 then some (decide (0 ≤ i.a) && decide (i.a < m.temps))
  else if i.op = 4 ∨ i.op = 12 then some (decide (0 ≤ i.a) && decide (i.a < slotsN w c))
  else if i.op = 5 then some (decide (-1073741824 ≤ i.a) && decide (i.a ≤ 1073741824))
  else if i.op = 13 then some (decide (i.a = 0) || (decide (4 ≤ i.a) && decide (i.a < w.classes.length)))
  else if i.op = 14 then some (decide (0 ≤ i.a) && decide (i.a < 5))
  else if i.op = 15 ∨ i.op = 16 then some (decide (0 ≤ i.a) && decide (i.a < m.code.length))
  else none
def formN (i : Ins) : Bool := (decide (i.op = 14) && !nameN i.name) || (!decide (i.op = 14) && !decide (i.name = (⟨#[]⟩ : ByteArray))) || !decide (i.b = 0) || !decide (i.c = 0)
/-- what is wrong with an instruction's numbers -/
def numN (w : Wd) (c : Int) (m : Me) (i : Ins) : Int := match numOkN w c m i with
  | none => 1
  | some ok => if ok = true then (if formN i = true then 2 else 0) else 3
theorem code_numbers_1_eq (N : Nat) (a b : Int) : code_numbers_1 N a b = some (decide (0 ≤ a) && decide (a < b)) := by
  unfold code_numbers_1
  by_cases h : 0 ≤ a <;> simp [h]
theorem code_numbers_eq (N : Nat) (w : Wd) (c : Int) (m : Me) (i : Ins) (hN : 1048578 ≤ N) (hs : w.classes.length ≤ 1048576) : code_numbers N w c m i = some (numN w c m i) := by
  unfold code_numbers numN numOkN formN
  simp only [class_Slots_eq N w c hN hs, class_Name_eq, code_numbers_1_eq, Option.bind_some]
  generalize decide (i.b = 0) = B
  generalize decide (i.c = 0) = C
  generalize decide (i.name = (⟨#[]⟩ : ByteArray)) = E
  generalize decide (i.a = 0) = A0
  generalize decide (0 ≤ i.a) = A1
  generalize decide (i.a < m.args) = A2
  generalize decide (i.a < m.temps) = A3
  generalize decide (i.a < slotsN w c) = A4
  generalize decide (-1073741824 ≤ i.a) = A5
  generalize decide (i.a ≤ 1073741824) = A6
  generalize decide (4 ≤ i.a) = A7
  generalize decide (i.a < (w.classes.length : Int)) = A8
  generalize decide (i.a < 5) = A9
  generalize decide (i.a < (m.code.length : Int)) = A10
  generalize nameN i.name = M
  by_cases h1 : i.op = 1
  · simp only [h1]; cases A0 <;> cases B <;> cases C <;> cases E <;> simp
  by_cases h6 : i.op = 6
  · simp only [h6]; cases A0 <;> cases B <;> cases C <;> cases E <;> simp
  by_cases h7 : i.op = 7
  · simp only [h7]; cases A0 <;> cases B <;> cases C <;> cases E <;> simp
  by_cases h8 : i.op = 8
  · simp only [h8]; cases A0 <;> cases B <;> cases C <;> cases E <;> simp
  by_cases h9 : i.op = 9
  · simp only [h9]; cases A0 <;> cases B <;> cases C <;> cases E <;> simp
  by_cases h10 : i.op = 10
  · simp only [h10]; cases A0 <;> cases B <;> cases C <;> cases E <;> simp
  by_cases h17 : i.op = 17
  · simp only [h17]; cases A0 <;> cases B <;> cases C <;> cases E <;> simp
  by_cases h2 : i.op = 2
  · simp only [h2]; cases A1 <;> cases A2 <;> cases B <;> cases C <;> cases E <;> simp
  by_cases h3 : i.op = 3
  · simp only [h3]; cases A1 <;> cases A3 <;> cases B <;> cases C <;> cases E <;> simp
  by_cases h11 : i.op = 11
  · simp only [h11]; cases A1 <;> cases A3 <;> cases B <;> cases C <;> cases E <;> simp
  by_cases h4 : i.op = 4
  · simp only [h4]; cases A1 <;> cases A4 <;> cases B <;> cases C <;> cases E <;> simp
  by_cases h12 : i.op = 12
  · simp only [h12]; cases A1 <;> cases A4 <;> cases B <;> cases C <;> cases E <;> simp
  by_cases h5 : i.op = 5
  · simp only [h5]; cases A5 <;> cases A6 <;> cases B <;> cases C <;> cases E <;> simp
  by_cases h13 : i.op = 13
  · simp only [h13]; cases A0 <;> cases A7 <;> cases A8 <;> cases B <;> cases C <;> cases E <;> simp
  by_cases h14 : i.op = 14
  · simp only [h14]; cases A1 <;> cases A9 <;> cases B <;> cases C <;> cases M <;> simp
  by_cases h15 : i.op = 15
  · simp only [h15]; cases A1 <;> cases A10 <;> cases B <;> cases C <;> cases E <;> simp
  by_cases h16 : i.op = 16
  · simp only [h16]; cases A1 <;> cases A10 <;> cases B <;> cases C <;> cases E <;> simp
  simp [h1, h6, h7, h8, h9, h10, h17, h2, h3, h11, h4, h12, h5, h13, h14, h15, h16]
theorem qcref1_Numbers_eq (N : Nat) (w : Wd) (c : Int) (m : Me) (i : Ins) (hN : 1048578 ≤ N) (hs : w.classes.length ≤ 1048576) (hl : 1 ≤ w.classes.length) (ha : 0 ≤ m.args ∧ m.args ≤ 1000) (ht : 0 ≤ m.temps ∧ m.temps ≤ 1000)
    (hsl : 0 ≤ slotsN w c ∧ slotsN w c ≤ 1000000000) (hc : m.code.length ≤ 1048576) : qcref1_Numbers N w c m i = some (numN w c m i) := by
  unfold qcref1_Numbers numN numOkN formN
  simp only [qcref1_Slots_eq N w c hN hs, qcref1_Name_eq, Option.bind_some, wr_in (show InR (m.args - 1) by unfold InR; omega), wr_in (show InR (m.temps - 1) by unfold InR; omega), wr_in (show InR (slotsN w c - 1) by unfold InR; omega),
    wr_in (show InR ((w.classes.length : Int) - 1) by unfold InR; omega), wr_in (show InR ((m.code.length : Int) - 1) by unfold InR; omega)]
  by_cases h13 : i.op = 13
  · have eE : (!decide (i.op = 14)) = true := by rw [h13]; rfl
    simp only [h13]
    rcases (by omega : i.a < 0 ∨ i.a = 0 ∨ (0 < i.a ∧ i.a < 4) ∨ 4 ≤ i.a) with h | h | h | h
    · simp [h, show ¬ i.a = 0 by omega, show ¬ 0 < i.a by omega, show ¬ 4 ≤ i.a by omega]
    · have hb : ¬ ((w.classes.length : Int) - 1 < 0) := by omega
      have hb2 : ¬ ((w.classes.length : Int) < 1) := by omega
      generalize decide (i.b = 0) = B
      generalize decide (i.c = 0) = C
      generalize decide (i.name = (⟨#[]⟩ : ByteArray)) = E
      simp only [h]
      cases B <;> cases C <;> cases E <;> simp [hb]
    · simp [h.1, h.2, show ¬ i.a = 0 by omega, show ¬ 4 ≤ i.a by omega]
    · have hb : ¬ i.a < 4 := by omega
      have hb2 : ¬ i.a < 0 := by omega
      have hb3 : ¬ i.a = 0 := by omega
      have hb4 : 0 < i.a := by omega
      generalize decide (i.b = 0) = B
      generalize decide (i.c = 0) = C
      generalize decide (i.name = (⟨#[]⟩ : ByteArray)) = E
      by_cases hA : i.a < (w.classes.length : Int)
      · have hA2 : ¬ ((w.classes.length : Int) - 1 < i.a) := by omega
        cases B <;> cases C <;> cases E <;> simp [hb, hb2, hb3, hb4, h, hA, hA2]
      · have hA2 : ((w.classes.length : Int) - 1 < i.a) := by omega
        simp [hb, hb2, hb3, hb4, h, hA, hA2]
  generalize decide (i.b = 0) = B
  generalize decide (i.c = 0) = C
  generalize decide (i.name = (⟨#[]⟩ : ByteArray)) = E
  generalize nameN i.name = M
  by_cases h1 : i.op = 1
  · rcases Int.lt_trichotomy i.a 0 with h | h | h
    · simp [h1, h, show ¬ i.a = 0 by omega]
    · cases B <;> cases C <;> cases E <;> simp [h1, h]
    · simp [h1, h, show ¬ i.a < 0 by omega, show ¬ i.a = 0 by omega]
  by_cases h6 : i.op = 6
  · rcases Int.lt_trichotomy i.a 0 with h | h | h
    · simp [h6, h, show ¬ i.a = 0 by omega]
    · cases B <;> cases C <;> cases E <;> simp [h6, h]
    · simp [h6, h, show ¬ i.a < 0 by omega, show ¬ i.a = 0 by omega]
  by_cases h7 : i.op = 7
  · rcases Int.lt_trichotomy i.a 0 with h | h | h
    · simp [h7, h, show ¬ i.a = 0 by omega]
    · cases B <;> cases C <;> cases E <;> simp [h7, h]
    · simp [h7, h, show ¬ i.a < 0 by omega, show ¬ i.a = 0 by omega]
  by_cases h8 : i.op = 8
  · rcases Int.lt_trichotomy i.a 0 with h | h | h
    · simp [h8, h, show ¬ i.a = 0 by omega]
    · cases B <;> cases C <;> cases E <;> simp [h8, h]
    · simp [h8, h, show ¬ i.a < 0 by omega, show ¬ i.a = 0 by omega]
  by_cases h9 : i.op = 9
  · rcases Int.lt_trichotomy i.a 0 with h | h | h
    · simp [h9, h, show ¬ i.a = 0 by omega]
    · cases B <;> cases C <;> cases E <;> simp [h9, h]
    · simp [h9, h, show ¬ i.a < 0 by omega, show ¬ i.a = 0 by omega]
  by_cases h10 : i.op = 10
  · rcases Int.lt_trichotomy i.a 0 with h | h | h
    · simp [h10, h, show ¬ i.a = 0 by omega]
    · cases B <;> cases C <;> cases E <;> simp [h10, h]
    · simp [h10, h, show ¬ i.a < 0 by omega, show ¬ i.a = 0 by omega]
  by_cases h17 : i.op = 17
  · rcases Int.lt_trichotomy i.a 0 with h | h | h
    · simp [h17, h, show ¬ i.a = 0 by omega]
    · cases B <;> cases C <;> cases E <;> simp [h17, h]
    · simp [h17, h, show ¬ i.a < 0 by omega, show ¬ i.a = 0 by omega]
  by_cases h2 : i.op = 2
  · by_cases h : 0 ≤ i.a
    · by_cases h' : i.a < m.args
      · cases B <;> cases C <;> cases E <;> simp [h2, h, h', show ¬ i.a < 0 by omega, show ¬ (m.args - 1 < i.a) by omega]
      · simp [h2, h, h', show ¬ i.a < 0 by omega, show (m.args - 1 < i.a) by omega]
    · simp [h2, h, show i.a < 0 by omega]
  by_cases h3 : i.op = 3
  · by_cases h : 0 ≤ i.a
    · by_cases h' : i.a < m.temps
      · cases B <;> cases C <;> cases E <;> simp [h3, h, h', show ¬ i.a < 0 by omega, show ¬ (m.temps - 1 < i.a) by omega]
      · simp [h3, h, h', show ¬ i.a < 0 by omega, show (m.temps - 1 < i.a) by omega]
    · simp [h3, h, show i.a < 0 by omega]
  by_cases h11 : i.op = 11
  · by_cases h : 0 ≤ i.a
    · by_cases h' : i.a < m.temps
      · cases B <;> cases C <;> cases E <;> simp [h11, h, h', show ¬ i.a < 0 by omega, show ¬ (m.temps - 1 < i.a) by omega]
      · simp [h11, h, h', show ¬ i.a < 0 by omega, show (m.temps - 1 < i.a) by omega]
    · simp [h11, h, show i.a < 0 by omega]
  by_cases h4 : i.op = 4
  · by_cases h : 0 ≤ i.a
    · by_cases h' : i.a < slotsN w c
      · cases B <;> cases C <;> cases E <;> simp [h4, h, h', show ¬ i.a < 0 by omega, show ¬ (slotsN w c - 1 < i.a) by omega]
      · simp [h4, h, h', show ¬ i.a < 0 by omega, show (slotsN w c - 1 < i.a) by omega]
    · simp [h4, h, show i.a < 0 by omega]
  by_cases h12 : i.op = 12
  · by_cases h : 0 ≤ i.a
    · by_cases h' : i.a < slotsN w c
      · cases B <;> cases C <;> cases E <;> simp [h12, h, h', show ¬ i.a < 0 by omega, show ¬ (slotsN w c - 1 < i.a) by omega]
      · simp [h12, h, h', show ¬ i.a < 0 by omega, show (slotsN w c - 1 < i.a) by omega]
    · simp [h12, h, show i.a < 0 by omega]
  by_cases h5 : i.op = 5
  · by_cases h : -1073741824 ≤ i.a
    · by_cases h' : i.a ≤ 1073741824
      · cases B <;> cases C <;> cases E <;> simp [h5, h, h', show ¬ i.a < -1073741824 by omega, show ¬ (1073741824 < i.a) by omega]
      · simp [h5, h, h', show ¬ i.a < -1073741824 by omega, show (1073741824 < i.a) by omega]
    · simp [h5, h, show i.a < -1073741824 by omega]
  by_cases h14 : i.op = 14
  · by_cases h : 0 ≤ i.a
    · by_cases h' : i.a < 5
      · cases B <;> cases C <;> cases M <;> simp [h14, h, h', show ¬ i.a < 0 by omega, show ¬ (4 < i.a) by omega]
      · simp [h14, h, h', show ¬ i.a < 0 by omega, show (4 < i.a) by omega]
    · simp [h14, h, show i.a < 0 by omega]
  by_cases h15 : i.op = 15
  · by_cases h : 0 ≤ i.a
    · by_cases h' : i.a < (m.code.length : Int)
      · cases B <;> cases C <;> cases E <;> simp [h15, h, h', show ¬ i.a < 0 by omega, show ¬ ((m.code.length : Int) - 1 < i.a) by omega]
      · simp [h15, h, h', show ¬ i.a < 0 by omega, show ((m.code.length : Int) - 1 < i.a) by omega]
    · simp [h15, h, show i.a < 0 by omega]
  by_cases h16 : i.op = 16
  · by_cases h : 0 ≤ i.a
    · by_cases h' : i.a < (m.code.length : Int)
      · cases B <;> cases C <;> cases E <;> simp [h16, h, h', show ¬ i.a < 0 by omega, show ¬ ((m.code.length : Int) - 1 < i.a) by omega]
      · simp [h16, h, h', show ¬ i.a < 0 by omega, show ((m.code.length : Int) - 1 < i.a) by omega]
    · simp [h16, h, show i.a < 0 by omega]
  simp [h1, h2, h3, h4, h5, h6, h7, h8, h9, h10, h11, h12, h13, h14, h15, h16, h17]
theorem effect_eq (N : Nat) (i : Ins) (p : Int) (h : i.op = 14 → 0 ≤ i.a ∧ i.a ≤ 4) : ∃ g, code_effect N i = some ((nxN i p).1, g) ∧ wr (g - (nxN i p).1) = (nxN i p).2.1 := by
  unfold code_effect nxN
  by_cases h9 : i.op = 9
  · exact ⟨0, by simp [h9], by simp [h9]; rw [wr_in (by unfold InR; omega)]⟩
  by_cases h11 : i.op = 11
  · exact ⟨0, by simp [h11], by simp [h11]; rw [wr_in (by unfold InR; omega)]⟩
  by_cases h12 : i.op = 12
  · exact ⟨0, by simp [h12], by simp [h12]; rw [wr_in (by unfold InR; omega)]⟩
  by_cases h16 : i.op = 16
  · exact ⟨0, by simp [h16], by simp [h16]; rw [wr_in (by unfold InR; omega)]⟩
  by_cases h17 : i.op = 17
  · exact ⟨0, by simp [h17], by simp [h17]; rw [wr_in (by unfold InR; omega)]⟩
  by_cases h10 : i.op = 10
  · exact ⟨2, by simp [h10], by simp [h10]; rw [wr_in (by unfold InR; omega)]⟩
  by_cases h14 : i.op = 14
  · have := h h14
    exact ⟨1, by simp [h14], by simp [h14]; rw [wr_in (show InR (i.a + 1) by unfold InR; omega), wr_in (by unfold InR; omega)]; omega⟩
  by_cases h15 : i.op = 15
  · exact ⟨0, by simp [h15], by simp [h15]; rw [wr_in (by unfold InR; omega)]⟩
  exact ⟨1, by simp [h9, h10, h11, h12, h14, h15, h16, h17], by simp [h9, h10, h11, h12, h14, h15, h16, h17]; rw [wr_in (by unfold InR; omega)]⟩
end Go.Proofs.Ytioalgofaiideaa
