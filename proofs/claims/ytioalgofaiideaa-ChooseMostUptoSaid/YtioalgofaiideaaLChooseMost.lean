/- The plain law of qclaw9.ChooseMost. No program in sight. -/
import Derived.Test.YtioalgofaiideaaPl7
namespace Go.Proofs.Ytioalgofaiideaa
open Go.RowKit
set_option linter.unusedVariables false
set_option maxRecDepth 100000 in
theorem qclaw9_alive_eq : qclaw9_alive 4194304 = some true := by kernel_rfl
/-! ### sums that stay numbers -/
def lines (t : List Tl) : Nat := (t.map fun x => x.classes.length).sum
def mine1 (c : Int) (n : Int) (x : Ln) : Int := if x.cls = c then n + x.found else n
def sum1 (n : Int) (x : Ln) : Int := n + x.found
def mineN (c : Int) (s : St) (n : Int) (t : List Tl) : Int := t.foldl (fun n x => if x.site = s then x.classes.foldl (mine1 c) n else n) n
def sumN (s : St) (n : Int) (t : List Tl) : Int := t.foldl (fun n x => if x.site = s then x.classes.foldl sum1 n else n) n
def SmallL (l : List Ln) : Prop := ∀ y ∈ l, 0 ≤ y.found ∧ y.found ≤ 1000000
theorem sumL_bd : ∀ (l : List Ln) (n : Int), SmallL l → n ≤ l.foldl sum1 n ∧ l.foldl sum1 n ≤ n + 1000000 * (l.length : Int)
  | [], n, _ => by simp
  | x :: l, n, h => by
    have h1 := h x (by simp)
    have h2 := sumL_bd l (sum1 n x) fun y hy => h y (by simp [hy])
    simp only [List.foldl_cons, List.length_cons]
    unfold sum1 at h2 ⊢
    omega
theorem mineL_bd (c : Int) : ∀ (l : List Ln) (n : Int), SmallL l → n ≤ l.foldl (mine1 c) n ∧ l.foldl (mine1 c) n ≤ n + 1000000 * (l.length : Int)
  | [], n, _ => by simp
  | x :: l, n, h => by
    have h1 := h x (by simp)
    have h2 := mineL_bd c l (mine1 c n x) fun y hy => h y (by simp [hy])
    simp only [List.foldl_cons, List.length_cons]
    have h3 : n ≤ mine1 c n x ∧ mine1 c n x ≤ n + 1000000 := by unfold mine1; split <;> omega
    omega
theorem sumN_bd (s : St) : ∀ (t : List Tl) (n : Int), SmallT t → n ≤ sumN s n t ∧ sumN s n t ≤ n + 1000000 * (lines t : Int)
  | [], n, _ => by simp [sumN, lines]
  | x :: t, n, h => by
    have h1 : SmallL x.classes := h x (by simp)
    have hb := sumL_bd x.classes n h1
    have h2 := sumN_bd s t (if x.site = s then x.classes.foldl sum1 n else n) fun y hy => h y (by simp [hy])
    have e : sumN s n (x :: t) = sumN s (if x.site = s then x.classes.foldl sum1 n else n) t := rfl
    have e2 : lines (x :: t) = x.classes.length + lines t := by simp [lines]
    rw [e, e2]
    split at h2 <;> rename_i hc <;> simp only [hc, if_true, if_false] <;> omega
theorem mineN_bd (c : Int) (s : St) : ∀ (t : List Tl) (n : Int), SmallT t → n ≤ mineN c s n t ∧ mineN c s n t ≤ n + 1000000 * (lines t : Int)
  | [], n, _ => by simp [mineN, lines]
  | x :: t, n, h => by
    have h1 : SmallL x.classes := h x (by simp)
    have hb := mineL_bd c x.classes n h1
    have h2 := mineN_bd c s t (if x.site = s then x.classes.foldl (mine1 c) n else n) fun y hy => h y (by simp [hy])
    have e : mineN c s n (x :: t) = mineN c s (if x.site = s then x.classes.foldl (mine1 c) n else n) t := rfl
    have e2 : lines (x :: t) = x.classes.length + lines t := by simp [lines]
    rw [e, e2]
    split at h2 <;> rename_i hc <;> simp only [hc, if_true, if_false] <;> omega
theorem all1_sum : ∀ (l : List Ln) (n : Int), SmallL l → 0 ≤ n → n + 1000000 * (l.length : Int) ≤ 4611686018427387904 → l.foldl all1 n = l.foldl sum1 n
  | [], n, _, _, _ => rfl
  | x :: l, n, h, h0, hn => by
    have h1 := h x (by simp)
    simp only [List.length_cons] at hn
    have e : all1 n x = sum1 n x := by unfold all1 sum1; exact wr_in (by unfold InR; omega)
    simp only [List.foldl_cons, e]
    exact all1_sum l _ (fun y hy => h y (by simp [hy])) (by unfold sum1; omega) (by unfold sum1; omega)
theorem allN_sum (s : St) : ∀ (t : List Tl) (n : Int), SmallT t → 0 ≤ n → n + 1000000 * (lines t : Int) ≤ 4611686018427387904 → t.foldl (fun n t => if t.site = s then t.classes.foldl all1 n else n) n = sumN s n t
  | [], n, _, _, _ => rfl
  | x :: t, n, h, h0, hn => by
    have h1 : SmallL x.classes := h x (by simp)
    have e : sumN s n (x :: t) = sumN s (if x.site = s then x.classes.foldl sum1 n else n) t := rfl
    have e2 : lines (x :: t) = x.classes.length + lines t := by simp [lines]
    rw [e2] at hn
    have hb := sumL_bd x.classes n h1
    rw [e, List.foldl_cons, all1_sum x.classes n h1 h0 (by omega)]
    refine allN_sum s t _ (fun y hy => h y (by simp [hy])) ?_ ?_ <;> split <;> omega
/-! ### who was most often was so often -/
theorem most_le : ∀ (l : List Ln) (p : Int × Int) (m : Int → Int), SmallL l → (0 ≤ p.2 ∧ p.2 ≤ m p.1) → (∀ c, 0 ≤ m c) →
    0 ≤ (l.foldl most1 p).2 ∧ (l.foldl most1 p).2 ≤ l.foldl (mine1 (l.foldl most1 p).1) (m (l.foldl most1 p).1)
  | [], p, m, _, hp, _ => hp
  | x :: l, p, m, h, hp, hm => by
    have h1 := h x (by simp)
    simp only [List.foldl_cons]
    refine most_le l (most1 p x) (fun c => mine1 c (m c) x) (fun y hy => h y (by simp [hy])) ?_ (fun c => ?_)
    · unfold most1
      split
      · have := hm x.cls
        simp only [mine1, if_true]; omega
      · have := hm p.1
        unfold mine1; split <;> omega
    · have := hm c
      unfold mine1; split <;> omega
theorem mostN_le (s : St) : ∀ (t : List Tl) (p : Int × Int) (m : Int → Int), SmallT t → (0 ≤ p.2 ∧ p.2 ≤ m p.1) → (∀ c, 0 ≤ m c) →
    0 ≤ (t.foldl (fun p t => if t.site = s then t.classes.foldl most1 p else p) p).2 ∧ (t.foldl (fun p t => if t.site = s then t.classes.foldl most1 p else p) p).2 ≤ mineN (t.foldl (fun p t => if t.site = s then t.classes.foldl most1 p else p) p).1 s (m (t.foldl (fun p t => if t.site = s then t.classes.foldl most1 p else p) p).1) t
  | [], p, m, _, hp, _ => hp
  | x :: t, p, m, h, hp, hm => by
    have h1 : SmallL x.classes := h x (by simp)
    simp only [List.foldl_cons]
    have e : ∀ c n, mineN c s n (x :: t) = mineN c s (if x.site = s then x.classes.foldl (mine1 c) n else n) t := fun _ _ => rfl
    rw [e]
    by_cases hc : x.site = s
    · simp only [hc, if_true]
      exact mostN_le s t _ (fun c => x.classes.foldl (mine1 c) (m c)) (fun y hy => h y (by simp [hy])) (most_le x.classes p m h1 hp hm) fun c => by
        have := (mineL_bd c x.classes (m c) h1).1
        have := hm c
        omega
    · simp only [hc, if_false]
      exact mostN_le s t p m (fun y hy => h y (by simp [hy])) hp hm
theorem ChooseMost_l2_eq (N : Nat) (c : Int) : ∀ (l : List Ln) (k : Nat) (a b : Int), SmallL l → 0 ≤ a → 0 ≤ b → a + 1000000 * (l.length : Int) ≤ 4611686018427387904 → b + 1000000 * (l.length : Int) ≤ 4611686018427387904 →
    qclaw9_ChooseMost_l2 N c l k a b = some (l.foldl (mine1 c) a, l.foldl sum1 b)
  | [], k, a, b, _, _, _, _, _ => rfl
  | x :: l, k, a, b, h, h0, h0', ha, hb => by
    have h1 := h x (by simp)
    simp only [List.length_cons] at ha hb
    have e1 : wr (a + x.found) = a + x.found := wr_in (by unfold InR; omega)
    have e2 : wr (b + x.found) = b + x.found := wr_in (by unfold InR; omega)
    rw [qclaw9_ChooseMost_l2, e1, e2]
    by_cases hc : x.cls = c
    · simp only [hc, decide_true, cond_true, Option.bind_some]
      rw [ChooseMost_l2_eq N c l (k + 1) _ _ (fun y hy => h y (by simp [hy])) (by omega) (by omega) (by omega) (by omega)]
      simp [mine1, sum1, hc]
    · simp only [hc, decide_false, cond_false, Option.bind_some]
      rw [ChooseMost_l2_eq N c l (k + 1) _ _ (fun y hy => h y (by simp [hy])) (by omega) (by omega) (by omega) (by omega)]
      simp [mine1, sum1, hc]
theorem ChooseMost_l1_eq (N : Nat) (s : St) (c : Int) : ∀ (t : List Tl) (k : Nat) (a b : Int), SmallT t → 0 ≤ a → 0 ≤ b → a + 1000000 * (lines t : Int) ≤ 4611686018427387904 → b + 1000000 * (lines t : Int) ≤ 4611686018427387904 →
    qclaw9_ChooseMost_l1 N s c t k a b = some (mineN c s a t, sumN s b t)
  | [], k, a, b, _, _, _, _, _ => rfl
  | x :: t, k, a, b, h, h0, h0', ha, hb => by
    have h1 : SmallL x.classes := h x (by simp)
    have e2 : lines (x :: t) = x.classes.length + lines t := by simp [lines]
    rw [e2] at ha hb
    have b1 := mineL_bd c x.classes a h1
    have b2 := sumL_bd x.classes b h1
    rw [qclaw9_ChooseMost_l1, eqAs_St]
    have em : mineN c s a (x :: t) = mineN c s (if x.site = s then x.classes.foldl (mine1 c) a else a) t := rfl
    have es : sumN s b (x :: t) = sumN s (if x.site = s then x.classes.foldl sum1 b else b) t := rfl
    rw [em, es]
    by_cases hc : x.site = s
    · simp only [hc, decide_true, Bool.not_true, cond_false, if_true, ChooseMost_l2_eq N c x.classes 0 a b h1 h0 h0' (by omega) (by omega), Option.bind_some]
      exact ChooseMost_l1_eq N s c t (k + 1) _ _ (fun y hy => h y (by simp [hy])) (by omega) (by omega) (by omega) (by omega)
    · simp only [hc, decide_false, Bool.not_false, cond_true, if_false, Option.bind_some]
      exact ChooseMost_l1_eq N s c t (k + 1) _ _ (fun y hy => h y (by simp [hy])) h0 h0' (by omega) (by omega)
theorem ChooseMost_l3_eq (N : Nat) : ∀ (l : List Ins) (k : Nat), l.any sends = false → qclaw9_ChooseMost_l3 N l k = some (.next ())
  | [], k, _ => rfl
  | x :: l, k, h => by
    rw [List.any_cons, Bool.or_eq_false_iff] at h
    rw [qclaw9_ChooseMost_l3]
    have h1 := h.1
    unfold sends at h1
    rw [Bool.or_eq_false_iff] at h1
    simp only [h1.1, h1.2, cond_false, Option.bind_some]
    exact ChooseMost_l3_eq N l (k + 1) h.2
theorem bk_lines {t : List Tl} : lines t ≤ bkL bkTl t := by
  induction t with
  | nil => exact Nat.zero_le _
  | cons x t ih =>
    rw [bkL_cons]
    have e : bkTl x = bkSt x.site + (bkL bkLn) x.classes + 1 := rfl
    have h1 := bkL_len (bk := bkLn) (fun a => bkLn_pos a) x.classes
    have e2 : lines (x :: t) = x.classes.length + lines t := by simp [lines]
    omega
theorem law_ChooseMost (a0 : Wd) (a1 : (List Tl)) (a2 : St) (a3 : ByteArray) (a4 : Int) (h0 : okWd a0) (h1 : (okL okTl) a1) (h2 : okSt a2) (h3 : okS a3) (h4 : okI a4) (hb : bkWd a0 + (bkL bkTl) a1 + bkSt a2 + bkS a3 + bkI a4 ≤ 1048576) : ∃ N, qclaw9_ChooseMost N a0 a1 a2 a3 a4 = some true := by
  refine ⟨4194304, ?_⟩
  have hs := small_Wd (w := a0) (by omega)
  unfold qclaw9_ChooseMost
  rw [qclaw9_alive_eq]
  obtain ⟨N, hN, hNe⟩ : ∃ N : Nat, 4194304 ≤ N ∧ 4194304 = N := ⟨_, Nat.le_refl _, rfl⟩
  rw [hNe]
  clear hNe
  obtain ⟨r, hr, hp⟩ := Right_some N a0 hN hs
  rw [hr]
  simp only [Option.bind_some, Bool.not_true, cond_false]
  by_cases h : r = 0
  · obtain ⟨b, hb1, hb2⟩ := qclaw9_small_eq N a1
    have hw := (hp h).rise
    simp only [h, hb1, decide_true, Bool.not_true, cond_false, Option.bind_some]
    cases b with
    | false => rfl
    | true =>
      have ht := hb2 rfl
      have hl := bk_lines (t := a1)
      simp only [Bool.not_true, cond_false, choose_Site_eq N a0 a1 a2 a3 a4 (by omega) hw hs, Option.bind_some]
      by_cases hc : siteN a0 a1 a2 a3 a4 = -1
      · simp only [hc, decide_true, cond_true]
      · simp only [hc, decide_false, cond_false]
        rw [ChooseMost_l1_eq N a2 _ a1 0 0 0 ht (by omega) (by omega) (by omega) (by omega)]
        have hall : allN a2 a1 = sumN a2 0 a1 := allN_sum a2 a1 0 ht (by omega) (by omega)
        have hmost := mostN_le a2 a1 (-1, 0) (fun _ => 0) ht (by simp) (by simp)
        unfold siteN at hc ⊢
        by_cases g1 : (mostN a2 a1).1 < 0 ∨ allN a2 a1 < 2 ∨ wr (2 * (mostN a2 a1).2) ≤ allN a2 a1
        · rw [if_pos g1] at hc; exact absurd rfl hc
        rw [if_neg g1] at hc ⊢
        by_cases g2 : 0 ≤ (findN a0 a3 (mostN a2 a1).1).2 ∧ okAt a0 (findN a0 a3 (mostN a2 a1).1) a4 = true
        · rw [if_pos g2]
          simp only [Option.bind_some]
          rw [qcref1_Find_eq N a0 _ a3 (by omega) hs.1]
          have hmost : 0 ≤ (mostN a2 a1).2 ∧ (mostN a2 a1).2 ≤ mineN (mostN a2 a1).1 a2 0 a1 := hmost
          have mb := mineN_bd (mostN a2 a1).1 a2 a1 0 ht
          have e1 : wr (2 * (mostN a2 a1).2) = 2 * (mostN a2 a1).2 := wr_in (by unfold InR; omega)
          have e2 : wr (mineN (mostN a2 a1).1 a2 0 a1 + mineN (mostN a2 a1).1 a2 0 a1) = mineN (mostN a2 a1).1 a2 0 a1 + mineN (mostN a2 a1).1 a2 0 a1 := wr_in (by unfold InR; omega)
          have e3 : ¬ (mineN (mostN a2 a1).1 a2 0 a1 + mineN (mostN a2 a1).1 a2 0 a1 ≤ sumN a2 0 a1) := by
            rw [e1, hall] at g1
            omega
          have e4 : ¬ (findN a0 a3 (mostN a2 a1).1).2 < 0 := by omega
          obtain ⟨x, m, hx, hm, _⟩ := findN_in g2.1
          have g3 := g2.2
          unfold okAt at g3
          rw [hx] at g3
          simp only [hm, Bool.and_eq_true, decide_eq_true_eq] at g3
          have g4 := g3.1
          unfold leafN at g4
          simp only [Bool.and_eq_true, decide_eq_true_eq, Bool.not_eq_true'] at g4
          simp only [Option.bind_some, e2, e3, e4, decide_false, cond_false, hx, hm, ChooseMost_l3_eq N m.code 0 g4.2, g4.1, g3.2, decide_true, cond_true]
        · rw [if_neg g2] at hc; exact absurd rfl hc
  · simp only [h, decide_false, Bool.not_false, cond_true, Option.bind_some]
end Go.Proofs.Ytioalgofaiideaa
