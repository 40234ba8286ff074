/- Plain laws of the mirrors: Heights and Check as the reference has them; what Heights that come tell. No program in sight. -/
import Derived.Test.YtioalgofaiideaaPl13
namespace Go.Proofs.Ytioalgofaiideaa
open Go.RowKit
set_option linter.unusedVariables false
theorem code_Heights_l1_eq (N : Nat) : ∀ (n k : Nat) (v : List Int), n + k = v.length → code_Heights_l1 N n k v = some (v.take k ++ List.replicate n (-1))
  | 0, k, v, h => by rw [code_Heights_l1, List.take_of_length_le (by omega)]; simp
  | n + 1, k, v, h => by
    have hk : k < v.length := by omega
    rw [code_Heights_l1, nthO_nat, List.getElem?_eq_getElem hk]
    simp only [Option.bind_some, Int.toNat_natCast]
    rw [code_Heights_l1_eq N n (k + 1) _ (by simp; omega)]
    congr 1
    rw [List.take_add_one, List.take_set_of_le (Nat.le_refl _), List.getElem?_set_self hk, List.replicate_succ]
    simp
def prA (a : Arr2Int) : Int × Int := (a.f0, a.f1)
def pushN (i : Ins) (p h : Int) (q : List Arr2Int) : List Arr2Int :=
  let q1 := if i.op = 15 ∨ i.op = 17 then q else q ++ [⟨wr (p + 1), h⟩]
  if i.op = 15 ∨ i.op = 16 then q1 ++ [⟨i.a, h⟩] else q1
theorem pushN_eq (i : Ins) (p h : Int) (q : List Arr2Int) : (pushN i p h q).map prA = q.map prA ++ (nxN i p).2.2.map fun x => (x, h) := by
  unfold pushN nxN
  by_cases h15 : i.op = 15
  · simp [h15, prA]
  by_cases h16 : i.op = 16
  · simp [h16, prA]
  by_cases h17 : i.op = 17
  · simp [h17]
  by_cases h9 : i.op = 9
  · simp [h9, prA]
  by_cases h11 : i.op = 11
  · simp [h11, prA]
  by_cases h12 : i.op = 12
  · simp [h12, prA]
  by_cases h10 : i.op = 10
  · simp [h10, prA]
  by_cases h14 : i.op = 14
  · simp [h14, prA]
  simp [h15, h16, h17, h9, h11, h12, h10, h14, prA]
theorem code_Heights_l2_eq (N : Nat) (m : Me) (hm : NegOk m) (hc : m.code.length ≤ 1048576) : ∀ (n : Nat) (h : List Int) (q : List Arr2Int), q.length + 2 * unset h ≤ 4194304 → h.length = m.code.length →
    hOk (q.map prA) → code_Heights_l2 N m n h q = hgt m n h (q.map prA)
  | 0, _, _, _, _, _ => rfl
  | n + 1, h, [], _, _, _ => by
    rw [code_Heights_l2]
    simp [hgt]
  | n + 1, h, ⟨p, x⟩ :: q, hb, hh, ho => by
    rw [code_Heights_l2]
    have hx := ho (p, x) (by simp [prA])
    have hr : hOk (q.map prA) := fun z hz => ho z (by rw [List.map_cons]; exact List.mem_cons_of_mem _ hz)
    have hlt' : (0 : Int) < (((⟨p, x⟩ : Arr2Int) :: q).length : Int) := by simp only [List.length_cons]; omega
    have hg : (decide (0 ≤ (1 : Int)) && decide ((1 : Int) ≤ (((⟨p, x⟩ : Arr2Int) :: q).length : Int))) = true := by simp only [Bool.and_eq_true, decide_eq_true_eq, List.length_cons]; omega
    have hn0 : nthO ((⟨p, x⟩ : Arr2Int) :: q) (0 : Int) = some ⟨p, x⟩ := rfl
    have hd : ((⟨p, x⟩ : Arr2Int) :: q).drop (1 : Int).toNat = q := rfl
    simp only [List.length_cons] at hb
    rw [List.map_cons, show prA ⟨p, x⟩ = (p, x) from rfl, hgt]
    simp only [hlt', decide_true, cond_true, hn0, Option.bind_some, hg, hd]
    by_cases h1' : p < 0
    · simp only [h1', decide_true, cond_true, Option.bind_some, or_true, if_true]
    by_cases h1 : (m.code.length : Int) ≤ p
    · simp only [h1, h1', decide_true, decide_false, cond_true, cond_false, Option.bind_some, true_or, if_true]
    simp only [h1, h1', decide_false, cond_false, Option.bind_some, or_self, if_false]
    have hpl : p.toNat < m.code.length := by omega
    have hp0 : 0 ≤ p := by omega
    have e1 : h[p.toNat]? = some (h[p.toNat]'(by omega)) := List.getElem?_eq_getElem (by omega)
    have e2 : m.code[p.toNat]? = some m.code[p.toNat] := List.getElem?_eq_getElem hpl
    generalize h[p.toNat]'(by omega) = y at e1
    have hi := hm _ (List.getElem_mem hpl)
    generalize m.code[p.toNat] = i at e2 hi
    have n1 : nthO h p = some y := by rw [nthO_pos hp0, e1]
    have n2 : nthO m.code p = some i := by rw [nthO_pos hp0, e2]
    obtain ⟨g, hg1, hg2⟩ := effect_eq N i p hi
    simp only [n1, n2, e1, e2, Option.bind_some, hg1, hg2]
    by_cases h2 : 0 ≤ y
    · simp only [h2, decide_true, cond_true, if_true]
      by_cases h3 : y = x
      · simp only [h3, decide_true, Bool.not_true, cond_false, Option.bind_some, if_true]
        exact code_Heights_l2_eq N m hm hc n h q (by omega) hh hr
      · simp only [h3, decide_false, Bool.not_false, cond_true, Option.bind_some, if_false]
    simp only [h2, decide_false, cond_false, if_false]
    by_cases h3 : x < (nxN i p).1
    · simp only [h3, decide_true, cond_true, Option.bind_some, true_or, if_true]
    by_cases h4 : i.op = 17 ∧ x ≠ 1
    · simp only [h3, h4.1, h4.2, decide_true, decide_false, cond_true, cond_false, Option.bind_some, Bool.not_false, or_true, if_true, ne_eq, not_false_eq_true, and_self]
    have hq : ((bif decide (i.op = (17 : Int)) then some ((!decide (x = (1 : Int)))) else some (false)) : Option Bool) = some false := by
      by_cases h5 : i.op = 17
      · by_cases h6 : x = 1
        · simp [h6]
        · exact absurd ⟨h5, h6⟩ h4
      · simp [h5]
    simp only [h3, h4, hq, decide_false, cond_false, Option.bind_some, or_self, if_false]
    by_cases h5 : 12 < wr (x + (nxN i p).2.1)
    · simp only [h5, decide_true, cond_true, Option.bind_some, if_true]
    simp only [h5, decide_false, cond_false, if_false]
    have hb2 := nx_height hx.1 hx.2 h3 h5 hi
    have hu := unset_set (y := x) e1 (by omega) hx.1
    have hl2 := nxN_len i p
    have hl3 := congrArg List.length (pushN_eq i p (wr (x + (nxN i p).2.1)) q)
    simp only [List.length_map, List.length_append] at hl3
    have go := code_Heights_l2_eq N m hm hc n (h.set p.toNat x) (pushN i p (wr (x + (nxN i p).2.1)) q) (by omega) (by simpa using hh) (by
      rw [pushN_eq]
      intro z hz
      rcases List.mem_append.1 hz with hz | hz
      · exact hr z hz
      · obtain ⟨z, _, rfl⟩ := List.mem_map.1 hz
        exact ⟨hb2.1, hb2.2.1⟩)
    rw [pushN_eq] at go
    rw [← go]
    generalize wr (x + (nxN i p).2.1) = H
    have c1 : Nat.ble ((q.length + 1) * 16) 140737488355328 = true := ble_true (by omega)
    have c3 : Nat.ble ((q.length + 1 + 1) * 16) 140737488355328 = true := ble_true (by omega)
    unfold pushN
    by_cases h15 : i.op = 15
    · simp [h15, c1]
    by_cases h16 : i.op = 16
    · simp [h16, c1, c3]
    by_cases h17 : i.op = 17
    · simp [h17]
    simp [h15, h16, h17, c1]
theorem code_Heights_eq (N : Nat) (m : Me) (hm : NegOk m) (hc : m.code.length ≤ 1048576) : code_Heights N m = (hgt m N (List.replicate m.code.length (-1)) [(0, 0)]).map hgtR := by
  unfold code_Heights
  have e0 : (decide (0 ≤ (m.code.length : Int)) && decide ((m.code.length : Int) ≤ 140737488355328) && decide ((m.code.length : Int) * 8 ≤ 140737488355328)) = true := by
    simp only [Bool.and_eq_true, decide_eq_true_eq]; omega
  have e1 : (((List.replicate (m.code.length : Int).toNat (0 : Int)).length : Int) - ((0 : Nat) : Int)).toNat = m.code.length := by simp
  rw [e0, e1, code_Heights_l1_eq N _ 0 _ (by simp)]
  simp only [cond_true, Option.bind_some, List.take_zero, List.nil_append]
  have h := code_Heights_l2_eq N m hm hc N (List.replicate m.code.length (-1)) [⟨0, 0⟩] (by rw [unset_rep]; simp; omega) (by simp) (by
    intro q hq
    simp only [List.map_cons, List.map_nil, prA, List.mem_cons, List.not_mem_nil, or_false] at hq
    subst hq; decide)
  rw [h]
  show _ = (hgt m N (List.replicate m.code.length (-1)) [(0, 0)]).map hgtR
  rw [show ([(⟨0, 0⟩ : Arr2Int)].map prA) = [((0 : Int), (0 : Int))] from rfl]
  cases hgt m N (List.replicate m.code.length (-1)) [(0, 0)] with
  | none => rfl
  | some o => cases o <;> rfl
theorem code_Heights_ref (N : Nat) (m : Me) (hm : NegOk m) (hc : m.code.length ≤ 1048576) : code_Heights N m = qcref1_Heights N m := by rw [code_Heights_eq N m hm hc, qcref1_Heights_eq N m hm hc]
end Go.Proofs.Ytioalgofaiideaa
