/- The plain law of qclaw11.FastTells. No program in sight. -/
import Derived.Test.YtoceeiamcfdnlaaPl19
namespace Go.Proofs.Ytoceeiamcfdnlaa
open Go.RowKit
set_option linter.unusedVariables false
theorem FastTells_l1_eq (N : Nat) (L : List Fs) : ∀ (l : List Fs) (k : Nat), l = L.drop k → qclaw11_FastTells_l1 N L L l k = some (.next ())
  | [], k, _ => rfl
  | x :: l, k, h => by
    obtain ⟨h1, h2, _⟩ := restCons h
    rw [qclaw11_FastTells_l1]
    simp only [nthO_nat, h1, Option.bind_some, SameFast_self, Bool.not_true, cond_false]
    exact FastTells_l1_eq N L l (k + 1) h2
theorem law_FastTells (a0 : Wd) (a1 : (List Tl)) (h0 : okWd a0) (h1 : (okL okTl) a1) (hb : bkWd a0 + (bkL bkTl) a1 ≤ 1048576) : ∃ N, qclaw11_FastTells N a0 a1 = some true := by
  obtain ⟨N, hN⟩ : ∃ N : Nat, 4194304 ≤ N := ⟨4194304, Nat.le_refl _⟩
  refine ⟨N, ?_⟩
  have hs := small_Wd (w := a0) (by omega)
  unfold qclaw11_FastTells
  obtain ⟨r, hr, hp⟩ := Right_some N a0 hN hs
  rw [hr]
  simp only [Option.bind_some]
  by_cases h : r = 0
  · have hp := hp h
    obtain ⟨b, hb1⟩ := qclaw11_small_some N a1
    simp only [h, hb1, decide_true, Bool.not_true, cond_false, Option.bind_some]
    cases b with
    | false => rfl
    | true =>
      obtain ⟨i1, i2⟩ := All_is N hN a0 hs hp a1
      simp only [Bool.not_true, cond_false, i1, i2, Option.bind_some, decide_true]
      rw [FastTells_l1_eq N (all1F N a0 a1 a0.classes 0) (all1F N a0 a1 a0.classes 0) 0 (by simp)]
      rfl
  · simp only [h, decide_false, Bool.not_false, cond_true, Option.bind_some]
end Go.Proofs.Ytoceeiamcfdnlaa
