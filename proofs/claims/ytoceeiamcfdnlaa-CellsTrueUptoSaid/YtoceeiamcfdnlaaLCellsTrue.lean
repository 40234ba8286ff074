/- The plain law of qclaw6.CellsTrue. No program in sight. -/
import Derived.Test.YtoceeiamcfdnlaaPl9
namespace Go.Proofs.Ytoceeiamcfdnlaa
open Go.RowKit
set_option linter.unusedVariables false
set_option maxRecDepth 100000 in
theorem qclaw6_alive_eq : qclaw6_alive 4194304 = some true := by kernel_rfl
/-- what is remembered is so -/
def TrueC (w : Wd) (name : ByteArray) (l : List Ce) : Prop := ∀ x ∈ l, x.epoch = w.epoch → ∀ y ∈ x.lines, findN w name y.found = findN w name y.cls
theorem lineN_mem {c : Int} : ∀ {l : List Ln}, lineN c l ≠ -1 → ∃ y ∈ l, y.cls = c ∧ lineN c l = y.found
  | [], h => absurd rfl h
  | y :: l, h => by
    rw [lineN] at h ⊢
    by_cases e : y.cls = c
    · exact ⟨y, by simp, e, by rw [if_pos e]⟩
    · rw [if_neg e] at h ⊢
      obtain ⟨z, h1, h2, h3⟩ := lineN_mem h
      exact ⟨z, by simp [h1], h2, h3⟩
theorem cgetN_mem {s : St} {e c : Int} : ∀ {l : List Ce}, cgetN s e c l ≠ -1 → ∃ x ∈ l, x.epoch = e ∧ ∃ y ∈ x.lines, y.cls = c ∧ cgetN s e c l = y.found
  | [], h => absurd rfl h
  | x :: l, h => by
    rw [cgetN] at h ⊢
    by_cases hs : x.site = s
    · rw [if_pos hs] at h ⊢
      by_cases he : x.epoch = e
      · rw [if_pos he] at h ⊢
        obtain ⟨y, h1, h2, h3⟩ := lineN_mem h
        exact ⟨x, by simp, he, y, h1, h2, h3⟩
      · rw [if_neg he] at h; exact absurd rfl h
    · rw [if_neg hs] at h ⊢
      obtain ⟨z, h1, h2⟩ := cgetN_mem h
      exact ⟨z, by simp [h1], h2⟩
theorem putC_true {w : Wd} {name : ByteArray} {c f : Int} {x : Ce} (h : x.epoch = w.epoch → ∀ y ∈ x.lines, findN w name y.found = findN w name y.cls) (hf : findN w name f = findN w name c) :
    ∀ y ∈ (putC w.epoch c f x).lines, findN w name y.found = findN w name y.cls := by
  unfold putC lineC freshC
  by_cases he : x.epoch = w.epoch
  · rw [if_pos he]
    split
    · exact h he
    · split
      · intro y hy; cases hy
      · intro y hy
        rcases List.mem_append.1 hy with hy | hy
        · exact h he y hy
        · rw [List.mem_singleton] at hy; subst hy; exact hf
  · rw [if_neg he]
    split
    · intro y hy; cases hy
    · split
      · intro y hy; cases hy
      · intro y hy
        simp only [List.nil_append, List.mem_singleton] at hy
        subst hy; exact hf
theorem putN_true {w : Wd} {name : ByteArray} {s : St} {c f : Int} (hf : findN w name f = findN w name c) : ∀ {l : List Ce}, TrueC w name l → TrueC w name (putN s w.epoch c f l)
  | [], _ => fun x hx _ => by
    rw [putN, List.mem_singleton] at hx
    subst hx
    exact putC_true (fun _ y hy => by cases hy) hf
  | x :: l, h => by
    rw [putN]
    by_cases hs : x.site = s
    · rw [if_pos hs]
      intro y hy hye
      rcases List.mem_cons.1 hy with rfl | hy
      · exact putC_true (h x (by simp)) hf
      · exact h y (by simp [hy]) hye
    · rw [if_neg hs]
      have ih := putN_true (s := s) hf (l := l) fun y hy => h y (by simp [hy])
      intro y hy hye
      rcases List.mem_cons.1 hy with rfl | hy
      · exact h y (by simp) hye
      · exact ih y hy hye
theorem cfind_true {w : Wd} {name : ByteArray} {s : St} {c : Int} {l : List Ce} (h : TrueC w name l) (hl : ∀ x ∈ l, x.lines.length ≤ 3) :
    (cfindN w s c name l).2.1 = (findN w name c).1 ∧ (cfindN w s c name l).2.2.1 = (findN w name c).2 ∧ TrueC w name (cfindN w s c name l).1 ∧ (∀ x ∈ (cfindN w s c name l).1, x.lines.length ≤ 3) ∧ (cfindN w s c name l).1.length ≤ l.length + 1 := by
  unfold cfindN
  by_cases h0 : 0 ≤ cgetN s w.epoch c l ∧ cgetN s w.epoch c l < w.classes.length
  · rw [if_pos h0]
    obtain ⟨x, hx, hxe, y, hy, hyc, hyf⟩ := cgetN_mem (s := s) (e := w.epoch) (c := c) (l := l) (by omega)
    have := h x hx hxe y hy
    rw [hyf, this, hyc]
    exact ⟨rfl, rfl, h, hl, Nat.le_succ _⟩
  · rw [if_neg h0]
    by_cases h1 : (findN w name c).2 < 0
    · rw [if_pos h1]
      exact ⟨rfl, rfl, h, hl, Nat.le_succ _⟩
    · rw [if_neg h1]
      exact ⟨rfl, rfl, putN_true (findN_again (by omega)) h, (putN_few hl).1, (putN_few hl).2⟩
theorem CellsTrue_l1_eq (N : Nat) (w : Wd) (cs : List Int) (name : ByteArray) (hN : 1048578 ≤ N) (hw : RiseW w) (hs : SmallW w) : ∀ (ss : List St) (k : Nat) (l : List Ce), TrueC w name l → (∀ x ∈ l, x.lines.length ≤ 3) → l.length + ss.length ≤ 1048576 →
    qclaw6_CellsTrue_l1 N w cs name ss k l = some (.next ())
  | [], k, l, _, _, _ => rfl
  | s :: ss, k, l, h, hl, hn => by
    simp only [List.length_cons] at hn
    rw [qclaw6_CellsTrue_l1]
    by_cases hk : (cs.length : Int) ≤ (k : Int)
    · simp only [hk, decide_true, cond_true]
    · obtain ⟨c, hc⟩ : ∃ c, cs[k]? = some c := ⟨_, List.getElem?_eq_getElem (by omega)⟩
      obtain ⟨e1, e2, e3, e4, e5⟩ := cfind_true (s := s) (c := c) h hl
      simp only [hk, decide_false, cond_false, nthO_nat, hc, Option.bind_some, cells_Find_eq N l w s c name hN hw hs ⟨by omega, fun x hx => by have := hl x hx; omega⟩, qcref1_Find_eq N w c name hN hs.1, e1, e2, decide_true, Bool.not_true]
      exact CellsTrue_l1_eq N w cs name hN hw hs ss (k + 1) _ e3 e4 (by omega)
theorem law_CellsTrue (a0 : Wd) (a1 : (List St)) (a2 : (List Int)) (a3 : ByteArray) (h0 : okWd a0) (h1 : (okL okSt) a1) (h2 : (okL okI) a2) (h3 : okS a3) (hb : bkWd a0 + (bkL bkSt) a1 + (bkL bkI) a2 + bkS a3 ≤ 1048576) : ∃ N, qclaw6_CellsTrue N a0 a1 a2 a3 = some true := by
  refine ⟨4194304, ?_⟩
  have hs := small_Wd (w := a0) (by omega)
  have hl : a1.length ≤ 1048576 := by
    have := bkL_len (bk := bkSt) (fun a => bkSt_pos a) a1
    omega
  unfold qclaw6_CellsTrue
  rw [qclaw6_alive_eq]
  obtain ⟨N, hN, hNe⟩ : ∃ N : Nat, 4194304 ≤ N ∧ 4194304 = N := ⟨_, Nat.le_refl _, rfl⟩
  rw [hNe]
  clear hNe
  obtain ⟨r, hr, hp⟩ := Right_some N a0 hN hs
  rw [hr]
  simp only [Option.bind_some, Bool.not_true, cond_false]
  by_cases h : r = 0
  · simp only [h, decide_true, Bool.not_true, cond_false, CellsTrue_l1_eq N a0 a2 a3 (by omega) (hp h).rise hs a1 0 [] (fun x hx => by cases hx) (fun x hx => by cases hx) (by simpa using hl), Option.bind_some]
  · simp only [h, decide_false, Bool.not_false, cond_true]
end Go.Proofs.Ytoceeiamcfdnlaa
