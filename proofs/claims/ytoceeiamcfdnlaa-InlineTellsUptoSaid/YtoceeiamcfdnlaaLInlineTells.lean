/- The plain law of qclaw10.InlineTells. No program in sight. -/
import Derived.Test.YtoceeiamcfdnlaaPl19
import Derived.Test.YtoceeiamcfdnlaaPl10
namespace Go.Proofs.Ytoceeiamcfdnlaa
open Go.RowKit
set_option linter.unusedVariables false
theorem law_InlineTells (a0 : Wd) (a1 : Int) (a2 : Int) (a3 : (List Int)) (h0 : okWd a0) (h1 : okI a1) (h2 : okI a2) (h3 : (okL okI) a3) (hb : bkWd a0 + bkI a1 + bkI a2 + (bkL bkI) a3 ≤ 1048576) : ∃ N, qclaw10_InlineTells N a0 a1 a2 a3 = some true := by
  obtain ⟨N, hN⟩ : ∃ N : Nat, 4194304 ≤ N := ⟨4194304, Nat.le_refl _⟩
  refine ⟨N, ?_⟩
  have hs := small_Wd (w := a0) (by omega)
  unfold qclaw10_InlineTells
  obtain ⟨r, hr, hp⟩ := Right_some N a0 hN hs
  rw [hr]
  simp only [Option.bind_some]
  by_cases h : r = 0
  · have hp := hp h
    simp only [h, decide_true, Bool.not_true, cond_false, Method_is N hN a0 hs hp, Fast_is N hN a0 hs hp, Option.bind_some, cond_true, SameFast_self]
  · simp only [h, decide_false, Bool.not_false, cond_true]
end Go.Proofs.Ytoceeiamcfdnlaa
