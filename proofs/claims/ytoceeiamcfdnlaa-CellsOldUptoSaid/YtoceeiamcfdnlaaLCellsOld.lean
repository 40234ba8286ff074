/- The plain law of qclaw6.CellsOld. No program in sight. -/
import Derived.Test.YtoceeiamcfdnlaaPl9
namespace Go.Proofs.Ytoceeiamcfdnlaa
open Go.RowKit
set_option linter.unusedVariables false
set_option maxRecDepth 100000 in
theorem qclaw6_alive_eq : qclaw6_alive 4194304 = some true := by kernel_rfl
/-- one cell of a site, of an epoch; or none yet -/
def OneC (s : St) (e : Int) (l : List Ce) : Prop := l = [] ∨ ∃ x : Ce, l = [x] ∧ x.site = s ∧ x.epoch = e ∧ x.lines.length ≤ 3
theorem putC_site (e c f : Int) (x : Ce) : (putC e c f x).site = x.site ∧ (putC e c f x).epoch = e := by
  unfold putC lineC freshC
  by_cases he : x.epoch = e
  · rw [if_pos he]
    split
    · exact ⟨rfl, he⟩
    · split
      · exact ⟨rfl, he⟩
      · exact ⟨rfl, he⟩
  · rw [if_neg he]
    split
    · exact ⟨rfl, rfl⟩
    · split <;> exact ⟨rfl, rfl⟩
theorem putN_one {s : St} {e c f : Int} {l : List Ce} (h : OneC s e l) : ∃ x : Ce, putN s e c f l = [x] ∧ x.site = s ∧ x.epoch = e ∧ x.lines.length ≤ 3 := by
  rcases h with rfl | ⟨x, rfl, h1, h2, h3⟩
  · exact ⟨putC e c f ⟨s, e, false, []⟩, rfl, (putC_site e c f _).1, (putC_site e c f _).2, putC_len e c f _ (by simp)⟩
  · refine ⟨putC e c f x, by rw [putN, if_pos h1], by rw [(putC_site e c f x).1, h1], (putC_site e c f x).2, putC_len e c f x h3⟩
theorem OneC.small {s : St} {e : Int} {l : List Ce} (h : OneC s e l) : SmallC l := by
  rcases h with rfl | ⟨x, rfl, _, _, h3⟩
  · exact ⟨by simp, fun x hx => by cases hx⟩
  · exact ⟨by simp, fun y hy => by rw [List.mem_singleton] at hy; subst hy; omega⟩
theorem CellsOld_l1_eq (N : Nat) (s : St) (e : Int) : ∀ (cs : List Int) (k : Nat) (l : List Ce), OneC s e l → ∃ l', qclaw6_CellsOld_l1 N s e cs k l = some l' ∧ OneC s e l' ∧ (cs ≠ [] → l' ≠ [])
  | [], k, l, h => ⟨l, rfl, h, fun h => absurd rfl h⟩
  | c :: cs, k, l, h => by
    rw [qclaw6_CellsOld_l1, cells_Put_eq N l s e c 1 h.small]
    simp only [Option.bind_some]
    obtain ⟨x, h1, h2, h3, h4⟩ := putN_one (c := c) (f := 1) h
    rw [h1]
    obtain ⟨l', e1, e2, e3⟩ := CellsOld_l1_eq N s e cs (k + 1) [x] (.inr ⟨x, rfl, h2, h3, h4⟩)
    refine ⟨l', e1, e2, fun _ hn => ?_⟩
    cases cs with
    | nil =>
      rw [qclaw6_CellsOld_l1] at e1
      cases e1
      cases hn
    | cons a b => exact e3 (by simp) hn
theorem cgetN_old {s : St} {e e' c : Int} {l : List Ce} (h : OneC s e l) (hne : ¬ e' = e) : cgetN s e' c l = -1 := by
  rcases h with rfl | ⟨x, rfl, h1, h2, _⟩
  · rfl
  · rw [cgetN, if_pos h1, if_neg (by rw [h2]; exact fun h => hne h.symm)]
theorem CellsOld_l2_eq (N : Nat) (s : St) (e e' : Int) (l : List Ce) (h : OneC s e l) (hne : ¬ e' = e) : ∀ (cs : List Int) (k : Nat), qclaw6_CellsOld_l2 N s e' l cs k = some (.next ())
  | [], k => rfl
  | c :: cs, k => by
    rw [qclaw6_CellsOld_l2, cells_Get_eq, cgetN_old h hne]
    simp only [Option.bind_some, decide_true, Bool.not_true, cond_false]
    exact CellsOld_l2_eq N s e e' l h hne cs (k + 1)
theorem put_anew {s : St} {e e' c : Int} {l : List Ce} (h : OneC s e l) (hl : l ≠ []) (hne : ¬ e' = e) : putN s e' c 2 l = [⟨s, e', false, [⟨c, 2⟩]⟩] := by
  rcases h with rfl | ⟨x, rfl, h1, h2, _⟩
  · exact absurd rfl hl
  · rw [putN, if_pos h1]
    unfold putC freshC
    rw [if_neg (by rw [h2]; exact fun h => hne h.symm), h1]
    rfl
theorem CellsOld_l3_eq (N : Nat) (s : St) (e e' : Int) (hne : ¬ e' = e) (L : List Int) (c0 : Int) (h0 : L[0]? = some c0) : ∀ (cs : List Int) (k : Nat), qclaw6_CellsOld_l3 N s e L e' [⟨s, e', false, [⟨c0, 2⟩]⟩] cs k = some (.next ())
  | [], k => rfl
  | c :: cs, k => by
    rw [qclaw6_CellsOld_l3]
    have h0' : nthO L 0 = some c0 := by rw [show (0 : Int) = ((0 : Nat) : Int) from rfl, nthO_nat, h0]
    have g1 : cgetN s e' c [⟨s, e', false, [⟨c0, 2⟩]⟩] = if c = c0 then 2 else -1 := by
      simp only [cgetN, lineN, if_true]
      by_cases h : c = c0
      · simp [h]
      · have : ¬ c0 = c := fun e => h e.symm
        simp [h, this]
    have g2 : cgetN s e c [⟨s, e', false, [⟨c0, 2⟩]⟩] = -1 := by
      simp only [cgetN, if_true]
      rw [if_neg hne]
    rw [h0', cells_Get_eq, cells_Get_eq, g1, g2]
    have ih := CellsOld_l3_eq N s e e' hne L c0 h0 cs (k + 1)
    by_cases h : c = c0
    · simp only [h, decide_true, cond_true, Option.bind_some, if_true, Bool.not_true, cond_false]; exact ih
    · simp only [h, decide_false, cond_false, Option.bind_some, if_false, decide_true, Bool.not_true]; exact ih
theorem law_CellsOld (a0 : St) (a1 : Int) (a2 : (List Int)) (a3 : Int) (h0 : okSt a0) (h1 : okI a1) (h2 : (okL okI) a2) (h3 : okI a3) (hb : bkSt a0 + bkI a1 + (bkL bkI) a2 + bkI a3 ≤ 1048576) : ∃ N, qclaw6_CellsOld N a0 a1 a2 a3 = some true := by
  refine ⟨4194304, ?_⟩
  unfold qclaw6_CellsOld
  rw [qclaw6_alive_eq]
  generalize 4194304 = N
  simp only [Option.bind_some, Bool.not_true, cond_false]
  by_cases he : a3 = a1
  · simp only [he, decide_true, cond_true]
  obtain ⟨l, e1, e2, e3⟩ := CellsOld_l1_eq N a0 a1 a2 0 [] (.inl rfl)
  simp only [he, decide_false, cond_false, e1, Option.bind_some, CellsOld_l2_eq N a0 a1 a3 l e2 he a2 0]
  cases a2 with
  | nil => rfl
  | cons c cs =>
    have hz : ¬ (((c :: cs).length : Int) = 0) := by simp only [List.length_cons]; omega
    have h0' : nthO (c :: cs) 0 = some c := by rw [show (0 : Int) = ((0 : Nat) : Int) from rfl, nthO_nat]; rfl
    simp only [hz, decide_false, cond_false, h0', Option.bind_some, cells_Put_eq N l a0 a3 c 2 e2.small, put_anew e2 (e3 (by simp)) he, CellsOld_l3_eq N a0 a1 a3 he (c :: cs) c rfl (c :: cs) 0]
    rfl
end Go.Proofs.Ytoceeiamcfdnlaa
