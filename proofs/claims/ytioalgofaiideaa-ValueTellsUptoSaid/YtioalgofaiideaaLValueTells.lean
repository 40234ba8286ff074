/- The plain law of qclaw1.ValueTells. No program in sight. -/
import Derived.Test.YtioalgofaiideaaPl2
namespace Go.Proofs.Ytioalgofaiideaa
open Go.RowKit
set_option linter.unusedVariables false
theorem okNum {a : V} (h : wrongN a 1000 = 0) : a.k = 3 → numOk a.n := by
  intro hk
  unfold wrongN at h
  rw [if_neg (by omega), if_pos hk] at h
  unfold numOk
  by_cases hb : a.n < -1073741824 ∨ 1073741824 < a.n
  · rw [if_pos hb] at h; omega
  · omega
theorem law_ValueTells (a0 : (List Ob)) (a1 : V) (a2 : Int) (a3 : Int) (a4 : Int) (a5 : Int) (a6 : V) (a7 : V) (h0 : (okL okOb) a0) (h1 : okV a1) (h2 : okI a2) (h3 : okI a3) (h4 : okI a4) (h5 : okI a5) (h6 : okV a6) (h7 : okV a7)
    (hb : (bkL bkOb) a0 + bkV a1 + bkI a2 + bkI a3 + bkI a4 + bkI a5 + bkV a6 + bkV a7 ≤ 1048576) : ∃ N, qclaw1_ValueTells N a0 a1 a2 a3 a4 a5 a6 a7 = some true := by
  refine ⟨0, ?_⟩
  obtain ⟨hs, hl⟩ := obs_small (l := a0) (by omega)
  have hown := value_Own_eq 0 hs (by omega)
  unfold qclaw1_ValueTells
  simp only [value_Wrong_eq, qcref1_Wrong_eq, value_Class_eq, qcref1_Class_eq, value_Slot_eq, qcref1_Slot_eq, value_Bool_eq, qcref1_Bool_eq, hown, SameWorld_eq, Option.bind_some, decide_true, Bool.not_true, cond_false, eqAs_V]
  have hprim : ((((bif (!decide (wrongN a6 1000 = 0)) then some (true) else some ((!decide (wrongN a7 1000 = (0 : Int))))) : Option Bool).bind fun v61 => (bif v61 then some true else ((value_Prim 0 a5 a6 a7).bind fun r70 => ((qcref1_Prim 0 a5 a6 a7).bind fun r72 => (((bif decide (r70.2 = r72.2) then some ((eqAs (eV r70.1) (eV r72.1))) else some (false)) : Option Bool).bind fun v74 => some v74)))))) = some true := by
    by_cases e6 : wrongN a6 1000 = 0
    · by_cases e7 : wrongN a7 1000 = 0
      · rw [value_Prim_eq 0 a5 a6 a7 (okNum e6) (okNum e7), qcref1_Prim_eq 0 a5 a6 a7 (okNum e6) (okNum e7)]
        simp [e6, e7, eqAs_V]
      · simp [e6, e7]
    · simp [e6]
  by_cases hc : 0 ≤ a4 ∧ a4 ≤ 100
  · obtain ⟨c1, c2⟩ := hc
    rw [value_New_eq 0 a3 a4 hs hl c1 (by omega)]
    simp only [c1, c2, decide_true, cond_true, Option.bind_some]
    by_cases h60 : 60 ≤ a0.length
    · have h60' : (60 : Int) ≤ a0.length := by omega
      simp only [h60, h60', if_true, decide_true, cond_true, Bool.not_true, cond_false, Option.bind_some]
      have e1 : eqAs (eV ⟨0, 0⟩) [.int (0 : Int), .int (0 : Int)] = true := by decide
      simpa [e1, eqAs_V] using hprim
    · have h60' : ¬ (60 : Int) ≤ a0.length := by omega
      have e1 : eqAs (eV ⟨4, (a0.length : Int)⟩) [.int (4 : Int), .int (a0.length : Int)] = true := by simp [eqAs, eq1, eV]
      have e2 : Nat.ble ((([] : List Ob).length + a0.length) * 32) 140737488355328 = true := ble_true (by simp; omega)
      have e3 : (decide (0 ≤ a4) && decide (a4 ≤ 140737488355328) && decide (a4 * 16 ≤ 140737488355328)) = true := by simp only [Bool.and_eq_true, decide_eq_true_eq]; omega
      have e4 : Nat.ble (((([] : List Ob) ++ a0).length + [(⟨a3, (List.replicate a4.toNat (⟨(0 : Int), (0 : Int)⟩ : V))⟩ : Ob)].length) * 32) 140737488355328 = true := ble_true (by simp; omega)
      simp only [h60, h60', e1, e2, e4, if_false, decide_true, decide_false, cond_true, Bool.not_true, cond_false, Option.bind_some, List.nil_append]
      have e5 : a4 ≤ 140737488355328 := by omega
      have e6 : a4 * 16 ≤ 140737488355328 := by omega
      have e7 : ((a0.length + 1) * 32).ble 140737488355328 = true := ble_true (by omega)
      simpa [e5, e6, e7, eqAs_V] using hprim
  · have hq : ((bif decide ((0 : Int) ≤ a4) then some (decide (a4 ≤ (100 : Int))) else some (false)) : Option Bool) = some false := by
      by_cases c1 : 0 ≤ a4
      · have c2 : ¬ a4 ≤ 100 := fun h => hc ⟨c1, h⟩
        simp [c1, c2]
      · simp [c1]
    rw [hq]
    simpa [eqAs_V] using hprim
end Go.Proofs.Ytioalgofaiideaa
