/- Plain laws of the mirrors: what a method of a right world is; fast code. No program in sight. -/
import Derived.Test.YtioalgofaiideaaPl10
namespace Go.Proofs.Ytioalgofaiideaa
open Go.RowKit
set_option linter.unusedVariables false
theorem Numbers_op (N : Nat) (w : Wd) (c : Int) (m : Me) (i : Ins) (hN : 1048578 ≤ N) (hs : w.classes.length ≤ 1048576) (h : qcref1_Numbers N w c m i = some 0) : 1 ≤ i.op ∧ i.op ≤ 17 := by
  by_cases hr : 1 ≤ i.op ∧ i.op ≤ 17
  · exact hr
  · exfalso
    unfold qcref1_Numbers at h
    have n1 : ¬ i.op = 1 := by omega
    have n2 : ¬ i.op = 2 := by omega
    have n3 : ¬ i.op = 3 := by omega
    have n4 : ¬ i.op = 4 := by omega
    have n5 : ¬ i.op = 5 := by omega
    have n6 : ¬ i.op = 6 := by omega
    have n7 : ¬ i.op = 7 := by omega
    have n8 : ¬ i.op = 8 := by omega
    have n9 : ¬ i.op = 9 := by omega
    have n10 : ¬ i.op = 10 := by omega
    have n11 : ¬ i.op = 11 := by omega
    have n12 : ¬ i.op = 12 := by omega
    have n13 : ¬ i.op = 13 := by omega
    have n14 : ¬ i.op = 14 := by omega
    have n15 : ¬ i.op = 15 := by omega
    have n16 : ¬ i.op = 16 := by omega
    have n17 : ¬ i.op = 17 := by omega
    simp only [n1, n2, n3, n4, n5, n6, n7, n8, n9, n10, n11, n12, n13, n14, n15, n16, n17, decide_false, cond_false, Option.bind_some] at h
    cases h
theorem Numbers_jump (N : Nat) (w : Wd) (c : Int) (m : Me) (i : Ins) (hm : m.code.length ≤ 1048576) (h : qcref1_Numbers N w c m i = some 0) (ho : i.op = 15 ∨ i.op = 16) : 0 ≤ i.a ∧ i.a < m.code.length := by
  have hw : wr ((m.code.length : Int) - 1) = (m.code.length : Int) - 1 := wr_in (by unfold InR; omega)
  have key : ∀ o : Int, (o = 15 ∨ o = 16) → i.op = o → 0 ≤ i.a ∧ i.a < m.code.length := by
    intro o ho he
    unfold qcref1_Numbers at h
    have n1 : ¬ o = 1 := by omega
    have n2 : ¬ o = 2 := by omega
    have n3 : ¬ o = 3 := by omega
    have n4 : ¬ o = 4 := by omega
    have n5 : ¬ o = 5 := by omega
    have n6 : ¬ o = 6 := by omega
    have n7 : ¬ o = 7 := by omega
    have n8 : ¬ o = 8 := by omega
    have n9 : ¬ o = 9 := by omega
    have n10 : ¬ o = 10 := by omega
    have n11 : ¬ o = 11 := by omega
    have n12 : ¬ o = 12 := by omega
    have n13 : ¬ o = 13 := by omega
    have n14 : ¬ o = 14 := by omega
    have n17 : ¬ o = 17 := by omega
    have hq : ((bif decide (o = (15 : Int)) then some (decide (o = (15 : Int))) else some (decide (o = (16 : Int)))) : Option Bool) = some true := by
      rcases ho with rfl | rfl <;> rfl
    simp only [he, n1, n2, n3, n4, n5, n6, n7, n8, n9, n10, n11, n12, n13, n14, n17, hq, decide_false, cond_false, cond_true, Option.bind_some, hw] at h
    by_cases h1 : i.a < 0
    · simp only [h1, decide_true, cond_true, Option.bind_some] at h; cases h
    · by_cases h2 : (m.code.length : Int) - 1 < i.a
      · simp only [h1, h2, decide_true, decide_false, cond_true, cond_false, Option.bind_some] at h; cases h
      · omega
  exact key i.op ho rfl
/-- a method with which nothing is wrong -/
structure MeP (N : Nat) (w : Wd) (k : Int) (m : Me) : Prop where
  args : 0 ≤ m.args ∧ m.args ≤ 4
  temps : 0 ≤ m.temps ∧ m.temps ≤ 6
  len : m.code.length ≤ 60
  num : ∀ i ∈ m.code, qcref1_Numbers N w k m i = some 0
theorem Check_ok (N : Nat) (w : Wd) (k : Int) (m : Me) (f : TFault) (hN : 1048578 ≤ N) (hs : w.classes.length ≤ 1048576) (h : qcref1_Check N w k m = some f) (h0 : f.err = 0) : MeP N w k m := by
  unfold qcref1_Check at h
  simp only [qcref1_Name_eq, Option.bind_some] at h
  by_cases a1 : k < 0
  · simp only [a1, decide_true, cond_true, Option.bind_some] at h; cases h; cases h0
  by_cases a2 : (w.classes.length : Int) ≤ k
  · simp only [a1, a2, decide_true, decide_false, cond_true, cond_false, Option.bind_some] at h; cases h; cases h0
  simp only [a1, a2, decide_false, cond_false, Option.bind_some] at h
  cases hn : nameN m.name with
  | false => rw [hn] at h; simp only [Bool.not_false, cond_true] at h; cases h; cases h0
  | true =>
    rw [hn] at h
    simp only [Bool.not_true, cond_false] at h
    by_cases b1 : m.args < 0
    · simp only [b1, decide_true, cond_true, Option.bind_some] at h; cases h; cases h0
    by_cases b2 : 4 < m.args
    · simp only [b1, b2, decide_true, decide_false, cond_true, cond_false, Option.bind_some] at h; cases h; cases h0
    by_cases b3 : m.temps < 0
    · simp only [b1, b2, b3, decide_true, decide_false, cond_true, cond_false, Option.bind_some] at h; cases h; cases h0
    by_cases b4 : 6 < m.temps
    · simp only [b1, b2, b3, b4, decide_true, decide_false, cond_true, cond_false, Option.bind_some] at h; cases h; cases h0
    simp only [b1, b2, b3, b4, decide_false, cond_false, Option.bind_some] at h
    by_cases b5 : m.prim = 0
    · simp only [b5, decide_true, Bool.not_true, cond_false] at h
      by_cases b6 : (m.code.length : Int) = 0
      · simp only [b6, decide_true, cond_true, Option.bind_some] at h; cases h; cases h0
      by_cases b7 : (60 : Int) < (m.code.length : Int)
      · simp only [b6, b7, decide_true, decide_false, cond_true, cond_false, Option.bind_some] at h; cases h; cases h0
      simp only [b6, b7, decide_false, cond_false, Option.bind_some] at h
      obtain ⟨o, h1, h2⟩ := qcref1_Check_l1_some N w k m hN hs m.code 0
      rw [h1] at h
      simp only [Option.bind_some] at h
      cases o with
      | next u => exact ⟨by omega, by omega, by omega, h2 rfl⟩
      | ret r =>
        have h : some r = some f := h
        cases h
        exfalso
        have key : ∀ (l : List Ins) (j : Nat) (r : TFault), qcref1_Check_l1 N w k m l j = some (.ret r) → r.err ≠ 0 := by
          intro l
          induction l with
          | nil => intro j r h; rw [qcref1_Check_l1] at h; cases h
          | cons x l ih =>
            intro j r h
            obtain ⟨q, hq⟩ := qcref1_Numbers_some N w k m x hN hs
            rw [qcref1_Check_l1, hq] at h
            simp only [Option.bind_some] at h
            by_cases hz : q = 0
            · simp only [hz, decide_true, Bool.not_true, cond_false] at h; exact ih _ _ h
            · simp only [hz, decide_false, Bool.not_false, cond_true] at h; cases h; exact hz
        exact key _ _ _ h1 h0
    · simp only [b5, decide_false, Bool.not_false, cond_true] at h; cases h; cases h0
/-- of a right world: a method is right, or one of the first -/
theorem meP_of {N : Nat} {w : Wd} (hN : 1048578 ≤ N) (hs : w.classes.length ≤ 1048576) (h : RightP N w) {k : Nat} {c : Cl} (hc : w.classes[k]? = some c) {m : Me} (hm : m ∈ c.methods) : MeP N w (k : Int) m := by
  rcases (h.meth k c hc).2.2.2 m hm with ⟨_, p, _, _, _, h1, h2, h3⟩ | ⟨f, h1, h2⟩
  · exact ⟨by omega, by omega, by rw [h3]; simp, by rw [h3]; intro i hi; cases hi⟩
  · exact Check_ok N w k m f hN hs h1 h2
end Go.Proofs.Ytioalgofaiideaa
