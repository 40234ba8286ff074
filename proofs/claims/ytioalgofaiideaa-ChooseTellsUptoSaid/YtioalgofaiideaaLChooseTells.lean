/- The plain law of qclaw9.ChooseTells. No program in sight. -/
import Derived.Test.YtioalgofaiideaaPl7
namespace Go.Proofs.Ytioalgofaiideaa
open Go.RowKit
set_option linter.unusedVariables false
theorem ChooseTells_l2_eq (N : Nat) : ∀ (l : List Me) (k : Nat), qclaw9_ChooseTells_l2 N l k = some (.next ())
  | [], k => rfl
  | m :: l, k => by
    rw [qclaw9_ChooseTells_l2, choose_Leaf_eq, qcref5_Leaf_eq]
    simp only [Option.bind_some, decide_true, Bool.not_true, cond_false]
    exact ChooseTells_l2_eq N l (k + 1)
theorem ChooseTells_l1_eq (N : Nat) : ∀ (l : List Cl) (k : Nat), qclaw9_ChooseTells_l1 N l k = some (.next ())
  | [], k => rfl
  | m :: l, k => by
    rw [qclaw9_ChooseTells_l1, ChooseTells_l2_eq]
    exact ChooseTells_l1_eq N l (k + 1)
theorem ChooseTells_l3_eq (N : Nat) (L : List Int) : ∀ (l : List Int) (k : Nat), l = L.drop k → qclaw9_ChooseTells_l3 N L L l k = some (.next ())
  | [], k, _ => rfl
  | x :: l, k, h => by
    obtain ⟨h1, h2, _⟩ := restCons h
    rw [qclaw9_ChooseTells_l3]
    simp only [nthO_nat, h1, Option.bind_some, decide_true, Bool.not_true, cond_false]
    exact ChooseTells_l3_eq N L l (k + 1) h2
theorem law_ChooseTells (a0 : Wd) (a1 : (List Tl)) (a2 : Int) (a3 : Int) (a4 : St) (a5 : ByteArray) (a6 : Int) (h0 : okWd a0) (h1 : (okL okTl) a1) (h2 : okI a2) (h3 : okI a3) (h4 : okSt a4) (h5 : okS a5) (h6 : okI a6) (hb : bkWd a0 + (bkL bkTl) a1 + bkI a2 + bkI a3 + bkSt a4 + bkS a5 + bkI a6 ≤ 1048576) : ∃ N, qclaw9_ChooseTells N a0 a1 a2 a3 a4 a5 a6 = some true := by
  obtain ⟨N, hN⟩ : ∃ N : Nat, 4194304 ≤ N := ⟨4194304, Nat.le_refl _⟩
  refine ⟨N, ?_⟩
  have hs := small_Wd (w := a0) (by omega)
  obtain ⟨r, hr, hp⟩ := Right_some N a0 hN hs
  unfold qclaw9_ChooseTells
  rw [hr]
  simp only [Option.bind_some]
  by_cases h : r = 0
  · obtain ⟨b, hb1, _⟩ := qclaw9_small_eq N a1
    have hw := (hp h).rise
    simp only [h, hb1, decide_true, Bool.not_true, cond_false, Option.bind_some]
    cases b with
    | false => rfl
    | true =>
      obtain ⟨L, hL⟩ := choose_Sites_some N a0 a1 a2 a3 (by omega) hw hs
      simp only [Bool.not_true, cond_false, ChooseTells_l1_eq, Option.bind_some, qcref5_Sites_eq N a0 a1 a2 a3 (by omega) hw hs, hL, decide_true, ChooseTells_l3_eq N L L 0 rfl, choose_Site_eq N a0 a1 a4 a5 a6 (by omega) hw hs, qcref5_Site_eq N a0 a1 a4 a5 a6 (by omega) hs]
  · simp only [h, decide_false, Bool.not_false, cond_true, Option.bind_some]
end Go.Proofs.Ytioalgofaiideaa
