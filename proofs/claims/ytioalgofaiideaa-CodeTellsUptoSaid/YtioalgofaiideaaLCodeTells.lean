/- The plain law of qclaw3.CodeTells. No program in sight. -/
import Derived.Test.YtioalgofaiideaaPl15
namespace Go.Proofs.Ytioalgofaiideaa
open Go.RowKit
set_option linter.unusedVariables false
theorem eqAs_TFault (a b : TFault) : eqAs (eTFault a) (eTFault b) = decide (a = b) := by
  obtain ⟨x, y⟩ := a
  obtain ⟨x', y'⟩ := b
  show (decide (x = x') && (decide (y = y') && true)) = _
  by_cases h1 : x = x' <;> by_cases h2 : y = y' <;> simp [h1, h2]
theorem CodeTells_l1_eq (N : Nat) : ∀ (l : List Cl) (k : Nat), qclaw3_CodeTells_l1 N l k = some (.ret true) ∨ (qclaw3_CodeTells_l1 N l k = some (.next ()) ∧ ∀ x ∈ l, 0 ≤ x.slots ∧ x.slots ≤ 6)
  | [], k => .inr ⟨rfl, fun x hx => by cases hx⟩
  | x :: l, k => by
    rw [qclaw3_CodeTells_l1]
    by_cases h1 : x.slots < 0
    · left; simp only [h1, decide_true, cond_true, Option.bind_some]
    by_cases h2 : 6 < x.slots
    · left; simp only [h1, h2, decide_true, decide_false, cond_true, cond_false, Option.bind_some]
    simp only [h1, h2, decide_false, cond_false, Option.bind_some]
    rcases CodeTells_l1_eq N l (k + 1) with h | ⟨h, h'⟩
    · exact .inl h
    · exact .inr ⟨h, fun y hy => by
        rcases List.mem_cons.1 hy with rfl | hy
        · omega
        · exact h' y hy⟩
theorem CodeTells_l2_eq (N : Nat) (m : Me) : ∀ (l : List Ins) (k : Nat), qclaw3_CodeTells_l2 N m l k = some (.ret true) ∨ (qclaw3_CodeTells_l2 N m l k = some (.next ()) ∧ ∀ i ∈ l, i.op = 14 → 0 ≤ i.a ∧ i.a ≤ 4)
  | [], k => .inr ⟨rfl, fun x hx => by cases hx⟩
  | x :: l, k => by
    rw [qclaw3_CodeTells_l2]
    have go := CodeTells_l2_eq N m l (k + 1)
    have fin : ∀ b : Bool, (b = false → x.op = 14 → 0 ≤ x.a ∧ x.a ≤ 4) → ((bif b then some (.ret true) else qclaw3_CodeTells_l2 N m l (k + 1)) = some (Ctl.ret true) ∨ ((bif b then some (.ret true) else qclaw3_CodeTells_l2 N m l (k + 1)) = some (Ctl.next ()) ∧ ∀ i ∈ x :: l, i.op = 14 → 0 ≤ i.a ∧ i.a ≤ 4)) := by
      intro b hb
      cases b with
      | true => exact .inl rfl
      | false =>
        rcases go with h | ⟨h, h'⟩
        · exact .inl h
        · exact .inr ⟨h, fun y hy => by
            rcases List.mem_cons.1 hy with rfl | hy
            · exact hb rfl
            · exact h' y hy⟩
    by_cases h1 : x.op < 1
    · simp only [h1, decide_true, cond_true, Option.bind_some]; exact .inl trivial
    by_cases h2 : 17 < x.op
    · simp only [h1, h2, decide_true, decide_false, cond_true, cond_false, Option.bind_some]; exact .inl trivial
    by_cases h3 : x.op = 14
    · by_cases h4 : x.a < 0
      · simp only [h3, h4, decide_true, cond_true, Option.bind_some, show ((14 : Int) < 1) = False by decide, show ((17 : Int) < 14) = False by decide, decide_false, cond_false]; exact .inl trivial
      by_cases h5 : 4 < x.a
      · simp only [h3, h4, h5, decide_true, cond_true, Option.bind_some, show ((14 : Int) < 1) = False by decide, show ((17 : Int) < 14) = False by decide, decide_false, cond_false]; exact .inl trivial
      simp only [h3, h4, h5, decide_true, cond_true, Option.bind_some, show ((14 : Int) < 1) = False by decide, show ((17 : Int) < 14) = False by decide, show ((14 : Int) = 15) = False by decide, show ((14 : Int) = 16) = False by decide, decide_false, cond_false]
      exact fin false (fun _ _ => by omega)
    simp only [h1, h2, h3, decide_false, cond_false]
    by_cases h6 : x.op = 15
    · by_cases h7 : x.a < 0
      · simp only [h6, h7, decide_true, cond_true, Option.bind_some]; exact .inl trivial
      · simp only [h6, h7, decide_true, decide_false, cond_true, cond_false, Option.bind_some]; exact fin _ (fun _ h => absurd h h3)
    by_cases h8 : x.op = 16
    · by_cases h7 : x.a < 0
      · simp only [h6, h8, h7, decide_true, decide_false, cond_true, cond_false, Option.bind_some, show ((16 : Int) = 15) = False by decide]; exact .inl trivial
      · simp only [h6, h8, h7, decide_true, decide_false, cond_true, cond_false, Option.bind_some, show ((16 : Int) = 15) = False by decide]; exact fin _ (fun _ h => absurd h h3)
    simp only [h6, h8, decide_false, cond_false, Option.bind_some]
    exact fin false (fun _ h => absurd h h3)
theorem CodeTells_l3_eq (N : Nat) (r : List Int × TFault) : ∀ (l : List Int) (k : Nat), l = r.1.drop k → qclaw3_CodeTells_l3 N r r l k = some (.next ())
  | [], k, _ => rfl
  | x :: l, k, h => by
    obtain ⟨h1, h2, _⟩ := restCons h
    rw [qclaw3_CodeTells_l3]
    simp only [nthO_nat, h1, Option.bind_some, decide_true, Bool.not_true, cond_false]
    exact CodeTells_l3_eq N r l (k + 1) h2
theorem law_CodeTells (a0 : Wd) (a1 : Int) (a2 : Me) (h0 : okWd a0) (h1 : okI a1) (h2 : okMe a2) (hb : bkWd a0 + bkI a1 + bkMe a2 ≤ 1048576) : ∃ N, qclaw3_CodeTells N a0 a1 a2 = some true := by
  obtain ⟨N, hN⟩ : ∃ N : Nat, 4194304 ≤ N := ⟨4194304, Nat.le_refl _⟩
  refine ⟨N, ?_⟩
  have hs := small_Wd (w := a0) (by omega)
  unfold qclaw3_CodeTells
  rcases CodeTells_l1_eq N a0.classes 0 with h | ⟨h, hsl⟩
  · rw [h]; rfl
  rw [h]
  obtain ⟨b, hb1, hb2⟩ := Rises_some N a0 hs
  simp only [Option.bind_some, hb1]
  cases b with
  | false => rfl
  | true =>
    obtain ⟨f, hf⟩ := checkN_some N a0 a1 a2 hN
    simp only [Bool.not_true, cond_false, code_Check_eq N a0 a1 a2 (by omega) hs.1, qcref1_Check_eq N a0 a1 a2 (by omega) hs.1 (slotsN_in hsl hs.1 a1), hf, Option.bind_some, eqAs_TFault, decide_true]
    rcases CodeTells_l2_eq N a2 a2.code 0 with h | ⟨h, hng⟩
    · rw [h]; rfl
    rw [h]
    simp only [Option.bind_some]
    by_cases h3 : (a2.code.length : Int) = 0
    · simp only [h3, decide_true, cond_true, Option.bind_some]
    by_cases h4 : (1000 : Int) < (a2.code.length : Int)
    · simp only [h3, h4, decide_true, decide_false, cond_true, cond_false, Option.bind_some]
    obtain ⟨r, hr⟩ := qcref1_Heights_some N a2 hN hng (by omega)
    simp only [h3, h4, decide_false, cond_false, Option.bind_some, code_Heights_ref N a2 hng (by omega), hr, decide_true, Bool.not_true, CodeTells_l3_eq N r r.1 0 rfl]
end Go.Proofs.Ytioalgofaiideaa
