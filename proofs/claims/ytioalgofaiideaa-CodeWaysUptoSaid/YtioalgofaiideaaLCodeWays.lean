/- The plain law of qclaw3.CodeWays. No program in sight. -/
import Derived.Test.YtioalgofaiideaaPl15
namespace Go.Proofs.Ytioalgofaiideaa
open Go.RowKit
set_option linter.unusedVariables false
theorem alive3 : qclaw3_alive 4194304 = some true := by kernel_rfl
theorem CodeWays_l2_eq (N : Nat) (r : List Int × TFault) (k : Nat) (y : Int) (hk : r.1[k]? = some y) (t : Int × Int × List Int) (ht : ∀ to ∈ t.2.2, 0 ≤ to ∧ r.1[to.toNat]? = some (wr (y + t.2.1))) : ∀ (l : List Int) (j : Nat), l = t.2.2.drop j → qclaw3_CodeWays_l2 N r k t l j = some (.next ())
  | [], j, _ => rfl
  | x :: l, j, h => by
    obtain ⟨h1, h2, _⟩ := restCons h
    rw [qclaw3_CodeWays_l2]
    obtain ⟨q1, q2⟩ := ht x (List.mem_of_getElem? h1)
    have q3 := (List.getElem?_eq_some_iff.1 q2).1
    have c1 : ¬ x < 0 := by omega
    have c2 : ¬ (r.1.length : Int) ≤ x := by omega
    simp only [nthO_nat, h1, Option.bind_some, c1, c2, decide_false, cond_false, nthO_pos q1, q2, hk, decide_true, Bool.not_true]
    exact CodeWays_l2_eq N r k y hk t ht l (j + 1) h2
theorem CodeWays_l1_eq (N : Nat) (m : Me) (hm : NegOk m) (r : List Int × TFault) (hr : HInv m r.1 []) : ∀ (l : List Ins) (k : Nat), l = m.code.drop k → qclaw3_CodeWays_l1 N r l k = some (.next ())
  | [], k, _ => rfl
  | i :: l, k, h => by
    obtain ⟨h1, h2, hlt⟩ := restCons h
    have hlt := of_decide_eq_true hlt
    have hl := hr.len
    rw [qclaw3_CodeWays_l1]
    have hy : r.1[k]? = some (r.1[k]'(by omega)) := List.getElem?_eq_getElem (by omega)
    generalize r.1[k]'(by omega) = y at hy
    simp only [nthO_nat, hy, Option.bind_some]
    by_cases h0 : y < 0
    · simp only [h0, decide_true, cond_true, Option.bind_some]
      exact CodeWays_l1_eq N m hm r hr l (k + 1) h2
    obtain ⟨b1, b2, b3, b4, b5⟩ := hr.at_ k y i hy (by omega) h1
    have c1 : ¬ y < (nxN i k).1 := by omega
    have c2 : ¬ 12 < y := by omega
    have c3 : ((bif decide (i.op = (17 : Int)) then some ((!decide (y = (1 : Int)))) else some (false)) : Option Bool) = some false := by
      by_cases h17 : i.op = 17
      · simp [h17, b3 h17]
      · simp [h17]
    simp only [h0, decide_false, cond_false, qcref1_Next_eq N i k (hm i (List.mem_of_getElem? h1)), Option.bind_some, c1, c2, c3]
    rw [CodeWays_l2_eq N r k y hy (nxN i k) (fun to hto => by
      rcases b5 to hto with c | c
      · cases c
      · exact c) (nxN i k).2.2 0 rfl]
    simp only [Option.bind_some]
    exact CodeWays_l1_eq N m hm r hr l (k + 1) h2
theorem law_CodeWays (a0 : Wd) (a1 : Int) (a2 : Me) (h0 : okWd a0) (h1 : okI a1) (h2 : okMe a2) (hb : bkWd a0 + bkI a1 + bkMe a2 ≤ 1048576) : ∃ N, qclaw3_CodeWays N a0 a1 a2 = some true := by
  obtain ⟨N, hN, ha⟩ : ∃ N, 4194304 ≤ N ∧ qclaw3_alive N = some true := ⟨4194304, Nat.le_refl _, alive3⟩
  refine ⟨N, ?_⟩
  have hs := small_Wd (w := a0) (by omega)
  unfold qclaw3_CodeWays
  rw [ha]
  obtain ⟨f, hf⟩ := checkN_some N a0 a1 a2 (by omega)
  simp only [Bool.not_true, cond_false, code_Check_eq N a0 a1 a2 (by omega) hs.1, hf, Option.bind_some]
  by_cases he : f.err = 0
  · have hfi := checkN_ok hf he
    obtain ⟨h, hh⟩ := hfi.hgt
    obtain ⟨i1, i2, i3⟩ := hgt_inv a2 hfi.neg _ _ _ _ hh (rep_neg a2) hOk_one
    have hz := (i3 (0, 0) (by simp)).2
    have hl := hfi.len
    have hl2 := i1.len
    have hz : nthO h (0 : Int) = some 0 := hz
    rw [code_Heights_eq N a2 hfi.neg (by omega), hh]
    have hll : (h.length : Int) = (a2.code.length : Int) := by omega
    simp only [he, decide_true, Bool.not_true, cond_false, Option.map_some, hgtR, Option.bind_some, hll, hz, CodeWays_l1_eq N a2 hfi.neg (h, ⟨0, 0⟩) i1 a2.code 0 rfl]
  · simp only [he, decide_false, Bool.not_false, cond_true]
end Go.Proofs.Ytioalgofaiideaa
