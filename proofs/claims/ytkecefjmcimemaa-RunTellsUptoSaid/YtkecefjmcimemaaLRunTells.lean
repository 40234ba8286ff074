/- The plain law of qclaw5.RunTells. No program in sight. -/
import Derived.Test.YtkecefjmcimemaaPl23
namespace Go.Proofs.Ytkecefjmcimemaa
open Go.RowKit
set_option linter.unusedVariables false
theorem law_RunTells (a0 : Wd) (a1 : TCall) (a2 : Int) (h0 : okWd a0) (h1 : okTCall a1) (h2 : okI a2) (hb : bkWd a0 + bkTCall a1 + bkI a2 ≤ 1048576) : ∃ N, qclaw5_RunTells N a0 a1 a2 = some true := by
 obtain ⟨N, hN⟩ : ∃ N : Nat, 4194304 ≤ N := ⟨4194304, Nat.le_refl _⟩
 refine ⟨N, ?_⟩
 have hs := small_Wd (w := a0) (by omega)
 unfold qclaw5_RunTells
 obtain ⟨r, hr, hp⟩ := Right_some N a0 hN hs
 rw [hr]
 simp only [Option.bind_some]
 by_cases h : r = 0
 ·have hp := hp h
  obtain ⟨s, q1, q2⟩ := run_Plain_is hN hs hp a1 a2
  obtain ⟨t, R, ev, p1, p2, _⟩ := qcref5_Run_is hN hs hp a1 a2
  have e := q2.det p2.ran
  subst e
  simp only [h, decide_true, Bool.not_true, cond_false, q1, p1, Option.bind_some, run_Wrong_eq, qcref5_WrongCall_eq, cond_true, eqAs_TRan, SameWorld_eq]
 ·simp only [h, decide_false, Bool.not_false, cond_true]
end Go.Proofs.Ytkecefjmcimemaa
