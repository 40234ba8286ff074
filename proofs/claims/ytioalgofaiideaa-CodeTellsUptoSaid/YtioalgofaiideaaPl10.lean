/- Plain laws of the mirrors: the reference's cells; methods that rise. No program in sight. -/
import Derived.Test.YtioalgofaiideaaPl9
namespace Go.Proofs.Ytioalgofaiideaa
open Go.RowKit
set_option linter.unusedVariables false
theorem Rises_l2_eq (N : Nat) (c : Cl) (hl : c.methods.length ≤ 1048576) : ∀ (l : List Me) (k : Nat), l = c.methods.drop k → ∃ o, qcref1_Rises_l2 N c l k = some o ∧ (match o with | .ret r => r = false | .next () => ∀ i m p, k ≤ i → 0 < i → c.methods[i]? = some m → c.methods[i - 1]? = some p → ltS p.name m.name = true)
  | [], k, h => ⟨.next (), rfl, fun i m p hi _ hm _ => by
      have h1 := (List.getElem?_eq_some_iff.1 hm).1
      have h2 := List.drop_eq_nil_iff.1 h.symm
      omega⟩
  | m :: l, k, h => by
    obtain ⟨hm, hl2, hlt⟩ := restCons h
    have hlt := of_decide_eq_true hlt
    rw [qcref1_Rises_l2]
    by_cases h0 : 0 < k
    · have h0' : (0 : Int) < (k : Int) := by omega
      have wk : wr ((k : Int) - 1) = ((k - 1 : Nat) : Int) := by rw [wr_in (by unfold InR; omega)]; omega
      obtain ⟨p, hp⟩ : ∃ p, c.methods[k - 1]? = some p := ⟨_, List.getElem?_eq_getElem (by omega)⟩
      simp only [h0', decide_true, cond_true, wk, nthO_nat, hp, Option.bind_some]
      cases hq : ltS p.name m.name with
      | false => exact ⟨.ret false, by simp, rfl⟩
      | true =>
        obtain ⟨o, ho, h2⟩ := Rises_l2_eq N c hl l (k + 1) hl2
        refine ⟨o, by simp only [Bool.not_true, cond_false]; exact ho, ?_⟩
        cases o with
        | ret r => exact h2
        | next u =>
          intro i x q hi hi0 hx hq2
          rcases Nat.eq_or_lt_of_le hi with rfl | hi
          · rw [hm] at hx; cases hx; rw [hp] at hq2; cases hq2; exact hq
          · exact h2 i x q hi hi0 hx hq2
    · have h0' : ¬ (0 : Int) < (k : Int) := by omega
      obtain ⟨o, ho, h2⟩ := Rises_l2_eq N c hl l (k + 1) hl2
      refine ⟨o, by simp only [h0', decide_false, cond_false, Option.bind_some]; exact ho, ?_⟩
      cases o with
      | ret r => exact h2
      | next u =>
        intro i x q hi hi0 hx hq2
        exact h2 i x q (by omega) hi0 hx hq2
theorem Rises_l1_eq (N : Nat) : ∀ (l : List Cl) (k : Nat), (∀ c ∈ l, c.methods.length ≤ 1048576) → ∃ o, qcref1_Rises_l1 N l k = some o ∧ (match o with | .ret r => r = false | .next () => ∀ c ∈ l, Rise c.methods)
  | [], k, _ => ⟨.next (), rfl, fun c hc => by cases hc⟩
  | c :: l, k, h => by
    rw [qcref1_Rises_l1]
    obtain ⟨o, ho, h1⟩ := Rises_l2_eq N c (h c (by simp)) c.methods 0 rfl
    rw [ho]
    cases o with
    | ret r => exact ⟨.ret r, rfl, h1⟩
    | next u =>
      obtain ⟨o, ho, h2⟩ := Rises_l1_eq N l (k + 1) fun d hd => h d (by simp [hd])
      refine ⟨o, ho, ?_⟩
      cases o with
      | ret r => exact h2
      | next u =>
        intro d hd
        rcases List.mem_cons.1 hd with rfl | hd
        · exact rise_of fun i m p hi hm hp => h1 i m p (by omega) hi hm hp
        · exact h2 d hd
theorem Rises_some (N : Nat) (w : Wd) (hs : SmallW w) : ∃ b, qcref1_Rises N w = some b ∧ (b = true → RiseW w) := by
  unfold qcref1_Rises
  obtain ⟨o, ho, h1⟩ := Rises_l1_eq N w.classes 0 fun c hc => (hs.2.2.1 c hc).1
  rw [ho]
  cases o with
  | ret r =>
    have h1 : r = false := h1
    exact ⟨false, by rw [h1]; rfl, fun h => by cases h⟩
  | next u => exact ⟨true, rfl, fun _ => h1⟩
end Go.Proofs.Ytioalgofaiideaa
