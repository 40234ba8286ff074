/- The plain law of qclaw7.TallyTells. No program in sight. -/
import Derived.Test.YtioalgofaiideaaPl8
namespace Go.Proofs.Ytioalgofaiideaa
open Go.RowKit
set_option linter.unusedVariables false
theorem TallyTells_l2_eq (N : Nat) : ∀ (l : List Ln) (k : Nat), ∃ o, qclaw7_TallyTells_l2 N l k = some o ∧ (∀ r, o = .ret r → r = true)
  | [], k => ⟨.next (), rfl, fun r h => by cases h⟩
  | x :: l, k => by
    rw [qclaw7_TallyTells_l2]
    by_cases h1 : x.found < 0
    · exact ⟨.ret true, by simp [h1], fun r h => by cases h; rfl⟩
    by_cases h2 : 1000000 < x.found
    · exact ⟨.ret true, by simp [h2], fun r h => by cases h; rfl⟩
    obtain ⟨o, ho, h3⟩ := TallyTells_l2_eq N l (k + 1)
    exact ⟨o, by simp only [h1, h2, decide_false, cond_false, Option.bind_some, ho], h3⟩
theorem TallyTells_l1_eq (N : Nat) : ∀ (l : List Tl) (k : Nat), ∃ o, qclaw7_TallyTells_l1 N l k = some o ∧ (∀ r, o = .ret r → r = true)
  | [], k => ⟨.next (), rfl, fun r h => by cases h⟩
  | x :: l, k => by
    rw [qclaw7_TallyTells_l1]
    obtain ⟨o, ho, h1⟩ := TallyTells_l2_eq N x.classes 0
    rw [ho]
    cases o with
    | ret r => exact ⟨.ret r, rfl, fun r' h => by cases h; exact h1 r rfl⟩
    | next u => exact TallyTells_l1_eq N l (k + 1)
theorem tls_small {l : List Tl} (h : bkL bkTl l ≤ 1048576) : (∀ t ∈ l, t.classes.length ≤ 1048575) ∧ l.length ≤ 1048575 := by
  refine ⟨fun t ht => ?_, ?_⟩
  · have h1 := bkL_mem (bk := bkTl) ht
    have h2 := bkL_len (bk := bkLn) (fun a => bkLn_pos a) t.classes
    have h3 : bkTl t = bkSt t.site + (bkL bkLn) t.classes + 1 := rfl
    omega
  · have := bkL_len (bk := bkTl) (fun a => bkTl_pos a) l
    omega
theorem law_TallyTells (a0 : (List Tl)) (a1 : St) (a2 : Int) (h0 : (okL okTl) a0) (h1 : okSt a1) (h2 : okI a2) (hb : (bkL bkTl) a0 + bkSt a1 + bkI a2 ≤ 1048576) : ∃ N, qclaw7_TallyTells N a0 a1 a2 = some true := by
  refine ⟨0, ?_⟩
  obtain ⟨hs, hl⟩ := tls_small (l := a0) (by omega)
  unfold qclaw7_TallyTells
  obtain ⟨o, ho, hr⟩ := TallyTells_l1_eq 0 a0 0
  rw [ho]
  cases o with
  | ret r => rw [hr r rfl]; rfl
  | next u =>
    simp only [Option.bind_some, qcref1_Most_eq, tally_Most_eq, tally_All_eq, tally_Add_eq 0 a0 a1 a2 (fun t ht => Nat.le_succ_of_le (hs t ht)) (by omega), qcref1_Count_eq 0 a0 a1 a2 hs hl, SameTallies_eq, tally_Own_eq 0 (l := a0) (fun t ht => Nat.le_succ_of_le (hs t ht)) (by omega), decide_true, cond_true]
end Go.Proofs.Ytioalgofaiideaa
