/- The plain law of qclaw6.CellsTells. No program in sight. -/
import Derived.Test.YtoceeiamcfdnlaaPl10
namespace Go.Proofs.Ytoceeiamcfdnlaa
open Go.RowKit
set_option linter.unusedVariables false
theorem cs_small {l : List Ce} (h : bkL bkCe l ≤ 1048576) : (∀ t ∈ l, t.lines.length ≤ 1048575) ∧ l.length ≤ 1048575 := by
  refine ⟨fun t ht => ?_, ?_⟩
  · have h1 := bkL_mem (bk := bkCe) ht
    have h2 := bkL_len (bk := bkLn) (fun a => bkLn_pos a) t.lines
    have h3 : (bkL bkLn) t.lines + 1 ≤ bkCe t := by unfold bkCe; omega
    omega
  · have := bkL_len (bk := bkCe) (fun a => bkCe_pos a) l
    omega
theorem law_CellsTells (a0 : (List Ce)) (a1 : Wd) (a2 : St) (a3 : Int) (a4 : Int) (a5 : Int) (a6 : ByteArray) (h0 : (okL okCe) a0) (h1 : okWd a1) (h2 : okSt a2) (h3 : okI a3) (h4 : okI a4) (h5 : okI a5) (h6 : okS a6) (hb : (bkL bkCe) a0 + bkWd a1 + bkSt a2 + bkI a3 + bkI a4 + bkI a5 + bkS a6 ≤ 1048576) : ∃ N, qclaw6_CellsTells N a0 a1 a2 a3 a4 a5 a6 = some true := by
  obtain ⟨N, hN⟩ : ∃ N : Nat, 4194304 ≤ N := ⟨4194304, Nat.le_refl _⟩
  refine ⟨N, ?_⟩
  have hs := small_Wd (w := a1) (by omega)
  obtain ⟨hl, hl2⟩ := cs_small (l := a0) (by omega)
  have hsc : SmallC a0 := ⟨by omega, fun x hx => Nat.le_succ_of_le (hl x hx)⟩
  obtain ⟨b, hb1, hb2⟩ := Rises_some N a1 hs
  unfold qclaw6_CellsTells
  simp only [cells_Get_eq, qcref1_Get_eq, cells_Put_eq N a0 a2 _ _ _ hsc, qcref1_Put_eq N a0 a2 _ _ _ hl (by omega), SameCells_eq, cells_Own_eq N hsc, hb1, Option.bind_some, decide_true, Bool.not_true, cond_false]
  cases b with
  | false => rfl
  | true =>
    have hw := hb2 rfl
    simp only [Bool.not_true, cond_false, cells_Find_eq N a0 a1 a2 a4 a6 (by omega) hw hs hsc, Option.bind_some, qcref1_Find_eq N a1 _ a6 (by omega) hs.1]
    unfold cfindN
    by_cases g0 : 0 ≤ cgetN a2 a1.epoch a4 a0
    · by_cases g1 : cgetN a2 a1.epoch a4 a0 < a1.classes.length
      · simp [g0, g1]
      · by_cases g2 : (findN a1 a6 a4).2 < 0
        · have g2' : ¬ (0 : Int) ≤ (findN a1 a6 a4).2 := by omega
          simp [g0, g1, g2, g2']
        · have g2' : (0 : Int) ≤ (findN a1 a6 a4).2 := by omega
          simp [g0, g1, g2, g2']
    · by_cases g2 : (findN a1 a6 a4).2 < 0
      · have g2' : ¬ (0 : Int) ≤ (findN a1 a6 a4).2 := by omega
        simp [g0, g2, g2']
      · have g2' : (0 : Int) ≤ (findN a1 a6 a4).2 := by omega
        simp [g0, g2, g2']
end Go.Proofs.Ytoceeiamcfdnlaa
