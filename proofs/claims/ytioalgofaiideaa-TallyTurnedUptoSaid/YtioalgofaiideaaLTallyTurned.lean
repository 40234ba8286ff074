/- The plain law of qclaw7.TallyTurned. No program in sight. -/
import Derived.Test.YtioalgofaiideaaPl8
namespace Go.Proofs.Ytioalgofaiideaa
open Go.RowKit
set_option linter.unusedVariables false
set_option maxRecDepth 100000 in
theorem qclaw7_alive_eq : qclaw7_alive 0 = some true := by kernel_rfl
/-! ### sums -/
def sL : List Ln → Int
  | [] => 0
  | x :: l => x.found + sL l
def mL (c : Int) : List Ln → Int
  | [] => 0
  | x :: l => (if x.cls = c then x.found else 0) + mL c l
def sT (s : St) : List Tl → Int
  | [] => 0
  | t :: l => (if t.site = s then sL t.classes else 0) + sT s l
def mT (s : St) (c : Int) : List Tl → Int
  | [] => 0
  | t :: l => (if t.site = s then mL c t.classes else 0) + mT s c l
theorem sL_app (l : List Ln) (x : Ln) : sL (l ++ [x]) = sL l + x.found := by
  induction l with
  | nil => simp [sL]
  | cons a l ih => simp only [List.cons_append, sL, ih]; omega
theorem mL_app (c : Int) (l : List Ln) (x : Ln) : mL c (l ++ [x]) = mL c l + (if x.cls = c then x.found else 0) := by
  induction l with
  | nil => simp [mL]
  | cons a l ih => simp only [List.cons_append, mL, ih]; omega
theorem sT_app (s : St) (l : List Tl) (x : Tl) : sT s (l ++ [x]) = sT s l + (if x.site = s then sL x.classes else 0) := by
  induction l with
  | nil => simp [sT]
  | cons a l ih => simp only [List.cons_append, sT, ih]; omega
theorem mT_app (s : St) (c : Int) (l : List Tl) (x : Tl) : mT s c (l ++ [x]) = mT s c l + (if x.site = s then mL c x.classes else 0) := by
  induction l with
  | nil => simp [mT]
  | cons a l ih => simp only [List.cons_append, mT, ih]; omega
/-! ### what one more does -/
def FoundsL (n : Nat) (l : List Ln) : Prop := ∀ x ∈ l, 1 ≤ x.found ∧ x.found ≤ n
theorem FoundsL.tail {n : Nat} {x : Ln} {l : List Ln} (h : FoundsL n (x :: l)) : FoundsL n l := fun y hy => h y (by simp [hy])
theorem bumpL_s {n : Nat} (hn : n ≤ 1048576) (c : Int) : ∀ l : List Ln, FoundsL n l → sL (bumpL c l).1 = sL l + (if (bumpL c l).2 = true then 1 else 0)
  | [], _ => rfl
  | x :: l, h => by
    have hx := h x (by simp)
    have ih := bumpL_s hn c l h.tail
    unfold bumpL
    by_cases hc : x.cls = c
    · simp only [hc, if_true, sL]; rw [wr_in (by unfold InR; omega)]; omega
    · simp only [hc, if_false, sL]; omega
theorem bumpL_m {n : Nat} (hn : n ≤ 1048576) (c c' : Int) : ∀ l : List Ln, FoundsL n l → mL c' (bumpL c l).1 = mL c' l + (if (bumpL c l).2 = true ∧ c = c' then 1 else 0)
  | [], _ => rfl
  | x :: l, h => by
    have hx := h x (by simp)
    have ih := bumpL_m hn c c' l h.tail
    unfold bumpL
    by_cases hc : x.cls = c
    · simp only [hc, if_true, mL, true_and]
      by_cases he : c = c'
      · simp only [he, if_true]; rw [wr_in (by unfold InR; omega)]; omega
      · simp only [he, if_false]; omega
    · simp only [hc, if_false, mL]; omega
theorem bumpL_none {c : Int} : ∀ {l : List Ln}, (bumpL c l).2 = false → (bumpL c l).1 = l ∧ ∀ x ∈ l, x.cls ≠ c
  | [], _ => ⟨rfl, fun x h => by cases h⟩
  | x :: l, h => by
    unfold bumpL at h ⊢
    by_cases hc : x.cls = c
    · simp [hc] at h
    · simp only [hc, if_false] at h ⊢
      obtain ⟨h1, h2⟩ := bumpL_none h
      refine ⟨by rw [h1], fun y hy => ?_⟩
      rcases List.mem_cons.1 hy with rfl | hy
      · exact hc
      · exact h2 y hy
theorem bumpL_cls (c : Int) : ∀ l : List Ln, (bumpL c l).1.map Ln.cls = l.map Ln.cls
  | [] => rfl
  | x :: l => by
    unfold bumpL
    by_cases hc : x.cls = c
    · simp [hc]
    · simp [hc, bumpL_cls c l]
theorem bumpL_f {n : Nat} (hn : n < 1048576) (c : Int) : ∀ l : List Ln, FoundsL n l → FoundsL (n + 1) (bumpL c l).1
  | [], _ => fun x h => by cases h
  | x :: l, h => by
    have hx := h x (by simp)
    have ih := bumpL_f hn c l h.tail
    unfold bumpL
    by_cases hc : x.cls = c
    · simp only [hc, if_true]
      intro y hy
      rcases List.mem_cons.1 hy with rfl | hy
      · show 1 ≤ wr (x.found + 1) ∧ wr (x.found + 1) ≤ _
        rw [wr_in (by unfold InR; omega)]; omega
      · have := h.tail y hy; omega
    · simp only [hc, if_false]
      intro y hy
      rcases List.mem_cons.1 hy with rfl | hy
      · omega
      · exact ih y hy
theorem addLr_s {n : Nat} (hn : n ≤ 1048576) (c : Int) {l : List Ln} (h : FoundsL n l) : sL (addLr c l) = sL l + 1 := by
  have := bumpL_s hn c l h
  unfold addLr
  cases hb : (bumpL c l).2 with
  | true => rw [hb] at this; simpa using this
  | false => simp only [Bool.false_eq_true, if_false]; rw [sL_app, this, hb]; simp
theorem addLr_m {n : Nat} (hn : n ≤ 1048576) (c c' : Int) {l : List Ln} (h : FoundsL n l) : mL c' (addLr c l) = mL c' l + (if c = c' then 1 else 0) := by
  have := bumpL_m hn c c' l h
  unfold addLr
  cases hb : (bumpL c l).2 with
  | true => rw [hb] at this; simpa using this
  | false => simp only [Bool.false_eq_true, if_false]; rw [mL_app, this, hb]; simp
theorem addLr_nd {c : Int} {l : List Ln} (h : (l.map Ln.cls).Nodup) : ((addLr c l).map Ln.cls).Nodup := by
  unfold addLr
  cases hb : (bumpL c l).2 with
  | true => simp only [if_true]; rw [bumpL_cls]; exact h
  | false =>
    simp only [Bool.false_eq_true, if_false, List.map_append, List.map_cons, List.map_nil]
    rw [bumpL_cls]
    refine List.nodup_append.2 ⟨h, by simp, fun a ha b hb2 => ?_⟩
    obtain ⟨x, hx, rfl⟩ := List.mem_map.1 ha
    rw [List.mem_singleton] at hb2
    subst hb2
    exact (bumpL_none hb).2 x hx
theorem addLr_f {n : Nat} (hn : n < 1048576) {c : Int} {l : List Ln} (h : FoundsL n l) : FoundsL (n + 1) (addLr c l) := by
  have := bumpL_f hn c l h
  unfold addLr
  cases hb : (bumpL c l).2 with
  | true => simpa using this
  | false =>
    simp only [Bool.false_eq_true, if_false]
    intro y hy
    rcases List.mem_append.1 hy with hy | hy
    · exact this y hy
    · rw [List.mem_singleton] at hy; subst hy; exact ⟨Int.le_refl 1, by show (1 : Int) ≤ ((n + 1 : Nat) : Int); omega⟩
/-- tallies of so many -/
structure Cnt (n : Nat) (l : List Tl) : Prop where
  site : (l.map Tl.site).Nodup
  cls : ∀ t ∈ l, (t.classes.map Ln.cls).Nodup
  fnd : ∀ t ∈ l, FoundsL n t.classes
  len : ∀ t ∈ l, t.classes.length ≤ n
  len2 : l.length ≤ n
theorem Cnt.nil : Cnt 0 [] := ⟨by simp, (fun t h => (by cases h)), (fun t h => (by cases h)), (fun t h => (by cases h)), by simp⟩
theorem bumpT_s {n : Nat} (hn : n ≤ 1048576) (s s' : St) (c : Int) : ∀ l : List Tl, (∀ t ∈ l, FoundsL n t.classes) → sT s' (bumpT s c l).1 = sT s' l + (if (bumpT s c l).2 = true ∧ s = s' then 1 else 0)
  | [], _ => rfl
  | x :: l, h => by
    have hx := h x (by simp)
    have ih := bumpT_s hn s s' c l fun t ht => h t (by simp [ht])
    unfold bumpT
    by_cases hc : x.site = s
    · simp only [hc, if_true, sT, true_and]
      by_cases he : s = s'
      · simp only [he, if_true]; rw [addLr_s hn c hx]; omega
      · simp only [he, if_false]; omega
    · simp only [hc, if_false, sT]; omega
theorem bumpT_m {n : Nat} (hn : n ≤ 1048576) (s s' : St) (c c' : Int) : ∀ l : List Tl, (∀ t ∈ l, FoundsL n t.classes) → mT s' c' (bumpT s c l).1 = mT s' c' l + (if (bumpT s c l).2 = true ∧ s = s' ∧ c = c' then 1 else 0)
  | [], _ => rfl
  | x :: l, h => by
    have hx := h x (by simp)
    have ih := bumpT_m hn s s' c c' l fun t ht => h t (by simp [ht])
    unfold bumpT
    by_cases hc : x.site = s
    · simp only [hc, if_true, mT, true_and]
      by_cases he : s = s'
      · simp only [he, if_true, true_and]; rw [addLr_m hn c c' hx]; omega
      · simp only [he, if_false, false_and]; omega
    · simp only [hc, if_false, mT]; omega
theorem bumpT_none {s : St} {c : Int} : ∀ {l : List Tl}, (bumpT s c l).2 = false → (bumpT s c l).1 = l ∧ ∀ x ∈ l, x.site ≠ s
  | [], _ => ⟨rfl, fun x h => by cases h⟩
  | x :: l, h => by
    unfold bumpT at h ⊢
    by_cases hc : x.site = s
    · simp [hc] at h
    · simp only [hc, if_false] at h ⊢
      obtain ⟨h1, h2⟩ := bumpT_none h
      refine ⟨by rw [h1], fun y hy => ?_⟩
      rcases List.mem_cons.1 hy with rfl | hy
      · exact hc
      · exact h2 y hy
theorem bumpT_site (s : St) (c : Int) : ∀ l : List Tl, (bumpT s c l).1.map Tl.site = l.map Tl.site
  | [] => rfl
  | x :: l => by
    unfold bumpT
    by_cases hc : x.site = s
    · simp [hc]
    · simp [hc, bumpT_site s c l]
theorem bumpT_mem {s : St} {c : Int} : ∀ {l : List Tl} {t : Tl}, t ∈ (bumpT s c l).1 → t ∈ l ∨ ∃ u ∈ l, t = ⟨u.site, addLr c u.classes⟩
  | x :: l, t, h => by
    unfold bumpT at h
    by_cases hc : x.site = s
    · simp only [hc, if_true] at h
      rcases List.mem_cons.1 h with rfl | h
      · exact .inr ⟨x, by simp, by rw [hc]⟩
      · exact .inl (by simp [h])
    · simp only [hc, if_false] at h
      rcases List.mem_cons.1 h with rfl | h
      · exact .inl (by simp)
      · rcases bumpT_mem h with h | ⟨u, hu, rfl⟩
        · exact .inl (by simp [h])
        · exact .inr ⟨u, by simp [hu], rfl⟩
theorem addTr_s {n : Nat} (hn : n ≤ 1048576) (s s' : St) (c : Int) {l : List Tl} (h : ∀ t ∈ l, FoundsL n t.classes) : sT s' (addTr s c l) = sT s' l + (if s = s' then 1 else 0) := by
  have := bumpT_s hn s s' c l h
  unfold addTr
  cases hb : (bumpT s c l).2 with
  | true => rw [hb] at this; simpa using this
  | false => simp only [Bool.false_eq_true, if_false]; rw [sT_app, this, hb]; simp [sL]
theorem addTr_m {n : Nat} (hn : n ≤ 1048576) (s s' : St) (c c' : Int) {l : List Tl} (h : ∀ t ∈ l, FoundsL n t.classes) : mT s' c' (addTr s c l) = mT s' c' l + (if s = s' ∧ c = c' then 1 else 0) := by
  have := bumpT_m hn s s' c c' l h
  unfold addTr
  cases hb : (bumpT s c l).2 with
  | true => rw [hb] at this; simpa using this
  | false =>
    simp only [Bool.false_eq_true, if_false]
    rw [mT_app, this, hb]
    by_cases h1 : s = s' <;> by_cases h2 : c = c' <;> simp [mL, h1, h2]
theorem addTr_cnt {n : Nat} (hn : n < 1048576) (s : St) (c : Int) {l : List Tl} (h : Cnt n l) : Cnt (n + 1) (addTr s c l) := by
  have mem : ∀ t ∈ (bumpT s c l).1, (t.classes.map Ln.cls).Nodup ∧ FoundsL (n + 1) t.classes ∧ t.classes.length ≤ n + 1 := by
    intro t ht
    rcases bumpT_mem ht with ht | ⟨u, hu, rfl⟩
    · exact ⟨h.cls t ht, fun x hx => by have := h.fnd t ht x hx; omega, by have := h.len t ht; omega⟩
    · exact ⟨addLr_nd (h.cls u hu), addLr_f hn (h.fnd u hu), by have := addLr_len c u.classes; have := h.len u hu; show (addLr c u.classes).length ≤ _; omega⟩
  have hl := bumpT_len s c l
  have hl2 := h.len2
  unfold addTr
  cases hb : (bumpT s c l).2 with
  | true =>
    simp only [if_true]
    exact ⟨by rw [bumpT_site]; exact h.site, fun t ht => (mem t ht).1, fun t ht => (mem t ht).2.1, fun t ht => (mem t ht).2.2, by omega⟩
  | false =>
    simp only [Bool.false_eq_true, if_false]
    have hnew : ∀ t ∈ (bumpT s c l).1 ++ [(⟨s, [⟨c, 1⟩]⟩ : Tl)], (t.classes.map Ln.cls).Nodup ∧ FoundsL (n + 1) t.classes ∧ t.classes.length ≤ n + 1 := by
      intro t ht
      rcases List.mem_append.1 ht with ht | ht
      · exact mem t ht
      · rw [List.mem_singleton] at ht
        subst ht
        refine ⟨by simp, fun x hx => ?_, by simp⟩
        rw [List.mem_singleton] at hx; subst hx
        exact ⟨Int.le_refl 1, by show (1 : Int) ≤ ((n + 1 : Nat) : Int); omega⟩
    refine ⟨?_, fun t ht => (hnew t ht).1, fun t ht => (hnew t ht).2.1, fun t ht => (hnew t ht).2.2, by simp; omega⟩
    rw [List.map_append, bumpT_site]
    refine List.nodup_append.2 ⟨h.site, by simp, fun a ha b hb2 => ?_⟩
    obtain ⟨x, hx, rfl⟩ := List.mem_map.1 ha
    simp only [List.map_cons, List.map_nil, List.mem_singleton] at hb2
    subst hb2
    exact (bumpT_none hb).2 x hx
/-! ### all that came -/
def evs (es : List (St × Int)) (l : List Tl) : List Tl := es.foldl (fun l e => addTr e.1 e.2 l) l
theorem evs_all : ∀ (es : List (St × Int)) (n : Nat) (l : List Tl), Cnt n l → n + es.length ≤ 1048576 → Cnt (n + es.length) (evs es l) ∧
    (∀ s, sT s (evs es l) = sT s l + (es.countP (fun e => decide (e.1 = s)) : Nat)) ∧ ∀ s c, mT s c (evs es l) = mT s c l + (es.countP (fun e => decide (e.1 = s ∧ e.2 = c)) : Nat)
  | [], n, l, h, _ => ⟨h, fun s => by simp [evs], fun s c => by simp [evs]⟩
  | e :: es, n, l, h, hn => by
    simp only [List.length_cons] at hn
    obtain ⟨h1, h2, h3⟩ := evs_all es (n + 1) (addTr e.1 e.2 l) (addTr_cnt (by omega) e.1 e.2 h) (by omega)
    have hr : evs (e :: es) l = evs es (addTr e.1 e.2 l) := rfl
    rw [hr]
    refine ⟨by simpa [Nat.add_assoc, Nat.add_comm 1] using h1, fun s => ?_, fun s c => ?_⟩
    · rw [h2, addTr_s (n := n) (by omega) e.1 s e.2 h.fnd, List.countP_cons]
      by_cases hs : e.1 = s <;> simp [hs] <;> omega
    · rw [h3, addTr_m (n := n) (by omega) e.1 s e.2 c h.fnd, List.countP_cons]
      by_cases hs : e.1 = s <;> by_cases hc : e.2 = c <;> simp [hs, hc] <;> omega
/-! ### who was most often -/
theorem mL_none {c : Int} : ∀ {l : List Ln}, (∀ x ∈ l, x.cls ≠ c) → mL c l = 0
  | [], _ => rfl
  | x :: l, h => by
    have ih : mL c l = 0 := mL_none fun y hy => h y (by simp [hy])
    simp [mL, h x (by simp), ih]
theorem mL_mem {x : Ln} : ∀ {l : List Ln}, (l.map Ln.cls).Nodup → x ∈ l → mL x.cls l = x.found
  | y :: l, hn, hx => by
    simp only [List.map_cons, List.nodup_cons] at hn
    rcases List.mem_cons.1 hx with rfl | hx
    · simp only [mL, if_true]
      rw [mL_none fun z hz e => hn.1 (by rw [← e]; exact List.mem_map_of_mem hz)]; omega
    · have : y.cls ≠ x.cls := fun e => hn.1 (by rw [e]; exact List.mem_map_of_mem hx)
      simp only [mL, this, if_false, mL_mem hn.2 hx]; omega
theorem mL_ex {c : Int} : ∀ {l : List Ln}, mL c l ≠ 0 → ∃ x ∈ l, x.cls = c
  | [], h => absurd rfl h
  | x :: l, h => by
    by_cases hc : x.cls = c
    · exact ⟨x, by simp, hc⟩
    · simp only [mL, hc, if_false, Int.zero_add] at h
      obtain ⟨y, hy, e⟩ := mL_ex h
      exact ⟨y, by simp [hy], e⟩
/-- the most of lines -/
def Top (l : List Ln) (p : Int × Int) : Prop := (p = (-1, 0) ∧ l = []) ∨ ∃ x ∈ l, p = (x.cls, x.found) ∧ ∀ y ∈ l, y.found < x.found ∨ (y.found = x.found ∧ x.cls ≤ y.cls)
theorem top_all {n : Nat} : ∀ (r l : List Ln) (p : Int × Int), FoundsL n (l ++ r) → Top l p → Top (l ++ r) (r.foldl most1 p)
  | [], l, p, _, h => by simpa using h
  | y :: r, l, p, hf, h => by
    have hy := hf y (by simp)
    have e : l ++ y :: r = (l ++ [y]) ++ r := by simp
    rw [e] at hf ⊢
    rw [List.foldl_cons]
    refine top_all r (l ++ [y]) _ hf ?_
    right
    rcases h with ⟨rfl, rfl⟩ | ⟨x, hx, rfl, hm⟩
    · refine ⟨y, by simp, ?_, fun z hz => ?_⟩
      · unfold most1; rw [if_pos (Or.inl (by show (0 : Int) < y.found; omega))]
      · simp at hz; subst hz; exact .inr ⟨rfl, Int.le_refl _⟩
    · have hx1 := hf x (by simp [hx])
      unfold most1
      by_cases hb : (x.cls, x.found).2 < y.found ∨ (y.found = (x.cls, x.found).2 ∧ 0 < (x.cls, x.found).2 ∧ y.cls < (x.cls, x.found).1)
      · rw [if_pos hb]
        simp only at hb
        refine ⟨y, by simp, rfl, fun z hz => ?_⟩
        rcases List.mem_append.1 hz with hz | hz
        · rcases hm z hz with h1 | ⟨h1, h2⟩ <;> rcases hb with h3 | ⟨h3, h4, h5⟩ <;> omega
        · simp at hz; subst hz; exact .inr ⟨rfl, Int.le_refl _⟩
      · rw [if_neg hb]
        simp only at hb
        refine ⟨x, by simp [hx], rfl, fun z hz => ?_⟩
        rcases List.mem_append.1 hz with hz | hz
        · exact hm z hz
        · simp at hz; subst hz; omega
/-- the lines of a site -/
def linesOf (s : St) : List Tl → List Ln
  | [] => []
  | t :: l => if t.site = s then t.classes else linesOf s l
theorem no_site {s : St} : ∀ {l : List Tl}, (∀ t ∈ l, t.site ≠ s) → linesOf s l = [] ∧ (∀ c, mT s c l = 0) ∧ sT s l = 0 ∧ ∀ p, l.foldl (fun p t => if t.site = s then t.classes.foldl most1 p else p) p = p
  | [], _ => ⟨rfl, fun _ => rfl, rfl, fun _ => rfl⟩
  | t :: l, h => by
    have h1 := h t (by simp)
    obtain ⟨a, b, c, d⟩ := no_site (s := s) (l := l) fun u hu => h u (by simp [hu])
    exact ⟨by simp [linesOf, h1, a], fun c => by simp [mT, h1, b c], by simp [sT, h1, c], fun p => by simp only [List.foldl_cons, h1, if_false]; exact d p⟩
theorem Cnt.tail {n : Nat} {t : Tl} {l : List Tl} (h : Cnt n (t :: l)) : Cnt n l :=
  ⟨by have := h.site; simp only [List.map_cons, List.nodup_cons] at this; exact this.2, fun u hu => h.cls u (by simp [hu]), fun u hu => h.fnd u (by simp [hu]), fun u hu => h.len u (by simp [hu]), by have := h.len2; simp at this; omega⟩
theorem one_site {n : Nat} (s : St) : ∀ {l : List Tl}, Cnt n l → ((linesOf s l).map Ln.cls).Nodup ∧ FoundsL n (linesOf s l) ∧ (∀ c, mT s c l = mL c (linesOf s l)) ∧ sT s l = sL (linesOf s l) ∧ ∀ p, l.foldl (fun p t => if t.site = s then t.classes.foldl most1 p else p) p = (linesOf s l).foldl most1 p
  | [], _ => ⟨by simp [linesOf], (fun x h => by cases h), fun _ => rfl, rfl, fun _ => rfl⟩
  | t :: l, h => by
    by_cases hs : t.site = s
    · have hn : ∀ u ∈ l, u.site ≠ s := fun u hu e => by
        have := h.site
        simp only [List.map_cons, List.nodup_cons] at this
        exact this.1 (by rw [hs, ← e]; exact List.mem_map_of_mem hu)
      obtain ⟨_, b, c, d⟩ := no_site (s := s) (l := l) hn
      have hl : linesOf s (t :: l) = t.classes := by simp [linesOf, hs]
      rw [hl]
      refine ⟨h.cls t (by simp), h.fnd t (by simp), fun c' => ?_, ?_, fun p => ?_⟩
      · simp only [mT, hs, if_true, b]; omega
      · simp only [sT, hs, if_true, c]; omega
      · simp only [List.foldl_cons, hs, if_true]; exact d _
    · obtain ⟨a, b, c, d, e⟩ := one_site s h.tail
      have hl : linesOf s (t :: l) = linesOf s l := by simp [linesOf, hs]
      rw [hl]
      refine ⟨a, b, fun c' => ?_, ?_, fun p => ?_⟩
      · simp only [mT, hs, if_false, c]; omega
      · simp only [sT, hs, if_false, d]; omega
      · simp only [List.foldl_cons, hs, if_false]; exact e p
theorem top_uniq {l l' : List Ln} {n : Nat} {p p' : Int × Int} (hn : (l.map Ln.cls).Nodup) (hn' : (l'.map Ln.cls).Nodup) (hf : FoundsL n l) (hf' : FoundsL n l') (hm : ∀ c, mL c l = mL c l') (h : Top l p) (h' : Top l' p') : p = p' := by
  have go : ∀ {l l' : List Ln}, (l.map Ln.cls).Nodup → (l'.map Ln.cls).Nodup → FoundsL n l → FoundsL n l' → (∀ c, mL c l = mL c l') → ∀ x ∈ l, ∃ y ∈ l', y.cls = x.cls ∧ y.found = x.found := by
    intro l l' hn hn' hf hf' hm x hx
    have h1 := mL_mem hn hx
    have h2 := hf x hx
    rw [hm] at h1
    obtain ⟨y, hy, e⟩ := mL_ex (c := x.cls) (l := l') (by omega)
    have h3 := mL_mem hn' hy
    rw [e, h1] at h3
    exact ⟨y, hy, e, h3.symm⟩
  rcases h with ⟨rfl, rfl⟩ | ⟨x, hx, rfl, hmx⟩
  · rcases h' with ⟨rfl, rfl⟩ | ⟨x', hx', rfl, _⟩
    · rfl
    · obtain ⟨y, hy, _⟩ := go hn' hn hf' hf (fun c => (hm c).symm) x' hx'
      cases hy
  · obtain ⟨y, hy, e1, e2⟩ := go hn hn' hf hf' hm x hx
    rcases h' with ⟨rfl, rfl⟩ | ⟨x', hx', rfl, hmx'⟩
    · cases hy
    · obtain ⟨y', hy', e1', e2'⟩ := go hn' hn hf' hf (fun c => (hm c).symm) x' hx'
      have g1 := hmx y' hy'
      have g2 := hmx' y hy
      refine Prod.ext ?_ ?_
      · show x.cls = x'.cls
        rcases g1 with g1 | ⟨g1, g1'⟩ <;> rcases g2 with g2 | ⟨g2, g2'⟩ <;> omega
      · show x.found = x'.found
        rcases g1 with g1 | ⟨g1, g1'⟩ <;> rcases g2 with g2 | ⟨g2, g2'⟩ <;> omega
/-! ### sums that stay numbers -/
theorem sL_pos {n : Nat} : ∀ {l : List Ln}, FoundsL n l → 0 ≤ sL l
  | [], _ => Int.le_refl _
  | x :: l, h => by have := h x (by simp); have := sL_pos h.tail; simp only [sL]; omega
theorem all1_sL {n : Nat} : ∀ {l : List Ln} {k : Int}, FoundsL n l → 0 ≤ k → k + sL l ≤ 4611686018427387904 → l.foldl all1 k = k + sL l
  | [], k, _, _, _ => by simp [sL]
  | x :: l, k, h, h0, hk => by
    have h1 := h x (by simp)
    have h2 := sL_pos h.tail
    simp only [sL] at hk ⊢
    rw [List.foldl_cons, show all1 k x = k + x.found from wr_in (by unfold InR; omega), all1_sL h.tail (by omega) (by omega)]
    omega
theorem allN_sT {n : Nat} (s : St) : ∀ {l : List Tl} {k : Int}, (∀ t ∈ l, FoundsL n t.classes) → 0 ≤ k → k + sT s l ≤ 4611686018427387904 → 0 ≤ sT s l ∧ l.foldl (fun n t => if t.site = s then t.classes.foldl all1 n else n) k = k + sT s l
  | [], k, _, _, _ => by simp [sT]
  | t :: l, k, h, h0, hk => by
    have h1 := h t (by simp)
    have p1 := sL_pos h1
    have pos : 0 ≤ sT s l := by
      have : ∀ l : List Tl, (∀ t ∈ l, FoundsL n t.classes) → 0 ≤ sT s l := by
        intro l
        induction l with
        | nil => intro _; exact Int.le_refl _
        | cons a l ih =>
          intro hl
          have := ih fun u hu => hl u (by simp [hu])
          have := sL_pos (hl a (by simp))
          simp only [sT]; split <;> omega
      exact this l fun u hu => h u (by simp [hu])
    simp only [sT] at hk ⊢
    rw [List.foldl_cons]
    by_cases hs : t.site = s
    · simp only [hs, if_true] at hk ⊢
      rw [all1_sL h1 h0 (by omega)]
      have := (allN_sT s (l := l) (k := k + sL t.classes) (fun u hu => h u (by simp [hu])) (by omega) (by omega)).2
      rw [this]; omega
    · simp only [hs, if_false, Int.zero_add] at hk ⊢
      exact allN_sT s (l := l) (k := k) (fun u hu => h u (by simp [hu])) h0 hk
theorem Turned_l1_eq (N : Nat) (a0 : List St) (a1 : List Int) (s : St) (hl : a0.length ≤ 1048576) : ∀ (m k : Nat), m + k = (a0.zip a1).length →
    ∃ o, qclaw7_TallyTurned_l1 N a0 a1 s m k (evs ((a0.zip a1).take k) []) (evs ((a0.zip a1).reverse.take k) []) (((a0.zip a1).take k).countP (fun e => decide (e.1 = s)) : Nat) = some o ∧
      (match o with | .ret r => r = true | .next q => q = (evs (a0.zip a1) [], evs (a0.zip a1).reverse [], (((a0.zip a1).countP (fun e => decide (e.1 = s)) : Nat) : Int)))
  | 0, k, h => by
    refine ⟨_, rfl, ?_⟩
    have e1 : (a0.zip a1).take k = a0.zip a1 := List.take_of_length_le (by omega)
    have e2 : (a0.zip a1).reverse.take k = (a0.zip a1).reverse := List.take_of_length_le (by simp only [List.length_reverse]; omega)
    rw [e1, e2]
  | m + 1, k, h => by
    have hlen : (a0.zip a1).length = min a0.length a1.length := List.length_zip
    generalize hz : a0.zip a1 = z at h hlen
    have hk : k < z.length := by omega
    have hk2 : z.length - 1 - k < z.length := by omega
    have g0 : ∀ i, i < z.length → a0[i]? = some (z[i]!).1 ∧ a1[i]? = some (z[i]!).2 := by
      intro i hi
      have : z[i]? = some z[i]! := by rw [List.getElem?_eq_getElem hi, getElem!_pos z i hi]
      rw [← hz, List.getElem?_zip_eq_some] at this
      rw [← hz]
      exact this
    obtain ⟨x1, x2⟩ := g0 k hk
    obtain ⟨y1, y2⟩ := g0 _ hk2
    have zk : z[k]? = some z[k]! := by rw [List.getElem?_eq_getElem hk, getElem!_pos z k hk]
    have zr : z.reverse[k]? = some z[z.length - 1 - k]! := by
      rw [List.getElem?_reverse hk, List.getElem?_eq_getElem hk2, getElem!_pos z _ hk2]
    have w1 : wr (wr (min (a0.length : Int) (a1.length : Int) - 1) - (k : Int)) = ((z.length - 1 - k : Nat) : Int) := by
      have e : min (a0.length : Int) (a1.length : Int) = (z.length : Int) := by omega
      have e2 : wr ((z.length : Int) - 1) = (z.length : Int) - 1 := wr_in (by unfold InR; omega)
      rw [e, e2, wr_in (by unfold InR; omega)]; omega
    rw [qclaw7_TallyTurned_l1]
    simp only [nthO_nat, x1, x2, w1, y1, y2, Option.bind_some]
    by_cases hneg : (z[k]!).2 < 0
    · exact ⟨.ret true, by simp only [hneg, decide_true, cond_true], rfl⟩
    have c1 := (evs_all (z.take k) 0 [] Cnt.nil (by rw [List.length_take]; omega)).1
    have c2 := (evs_all (z.reverse.take k) 0 [] Cnt.nil (by rw [List.length_take]; omega)).1
    rw [List.length_take] at c1 c2
    have s1 : ∀ e : St × Int, evs (z.take k ++ [e]) [] = addTr e.1 e.2 (evs (z.take k) []) := fun e => by simp [evs]
    have s2 : ∀ e : St × Int, evs (z.reverse.take k ++ [e]) [] = addTr e.1 e.2 (evs (z.reverse.take k) []) := fun e => by simp [evs]
    have ih := Turned_l1_eq N a0 a1 s hl m (k + 1) (by rw [hz]; omega)
    rw [hz, List.take_add_one, List.take_add_one, zk, zr] at ih
    simp only [Option.toList_some, s1, s2, List.countP_append, List.countP_cons, List.countP_nil] at ih
    simp only [hneg, decide_false, cond_false, tally_Add_eq N _ _ _ (fun t ht => by have := c1.len t ht; omega) (by have := c1.len2; omega), tally_Add_eq N _ _ _ (fun t ht => by have := c2.len t ht; omega) (by have := c2.len2; omega), Option.bind_some, eqAs_St]
    have hc : (z.take k).countP (fun e => decide (e.1 = s)) ≤ 1048576 := Nat.le_trans List.countP_le_length (by rw [List.length_take]; omega)
    by_cases hs : (z[k]!).1 = s
    · simp only [hs, decide_true, cond_true, Option.bind_some]
      simp only [hs, decide_true, if_true] at ih
      rw [wr_in (by unfold InR; omega)]
      simpa using ih
    · simp only [hs, decide_false, cond_false, Option.bind_some]
      simp only [hs, decide_false, Bool.false_eq_true, if_false] at ih
      simpa using ih
theorem law_TallyTurned (a0 : (List St)) (a1 : (List Int)) (a2 : St) (h0 : (okL okSt) a0) (h1 : (okL okI) a1) (h2 : okSt a2) (hb : (bkL bkSt) a0 + (bkL bkI) a1 + bkSt a2 ≤ 1048576) : ∃ N, qclaw7_TallyTurned N a0 a1 a2 = some true := by
  refine ⟨0, ?_⟩
  have hl : a0.length ≤ 1048576 := by
    have := bkL_len (bk := bkSt) (fun a => bkSt_pos a) a0
    omega
  unfold qclaw7_TallyTurned
  rw [qclaw7_alive_eq]
  simp only [Option.bind_some, Bool.not_true, cond_false]
  have hlen : (a0.zip a1).length = min a0.length a1.length := List.length_zip
  obtain ⟨o, ho, h⟩ := Turned_l1_eq 0 a0 a1 a2 hl (a0.zip a1).length 0 rfl
  have e : ((min (a0.length : Int) (a1.length : Int)) - ((0 : Nat) : Int)).toNat = (a0.zip a1).length := by omega
  have ho' : qclaw7_TallyTurned_l1 0 a0 a1 a2 (a0.zip a1).length 0 [] [] 0 = some o := ho
  rw [e, ho']
  cases o with
  | ret r =>
    have h : r = true := h
    rw [h]; rfl
  | next q =>
    have h : q = _ := h
    subst h
    generalize hz : a0.zip a1 = z at hlen
    have nil0 : Cnt 0 [] := Cnt.nil
    obtain ⟨c1, s1, m1⟩ := evs_all z 0 [] nil0 (by omega)
    obtain ⟨c2, s2, m2⟩ := evs_all z.reverse 0 [] nil0 (by simp only [List.length_reverse]; omega)
    rw [List.length_reverse] at c2
    have s1 := s1 a2
    have s2 := s2 a2
    have hcp : z.countP (fun e => decide (e.1 = a2)) ≤ 1048576 := Nat.le_trans List.countP_le_length (by omega)
    simp only [sT, List.countP_reverse] at s1 s2
    have t1 : allN a2 (evs z []) = (z.countP (fun e => decide (e.1 = a2)) : Nat) := by
      have := (allN_sT a2 (l := evs z []) (k := 0) c1.fnd (by omega) (by omega)).2
      unfold allN; rw [this]; omega
    have t2 : allN a2 (evs z.reverse []) = (z.countP (fun e => decide (e.1 = a2)) : Nat) := by
      have := (allN_sT a2 (l := evs z.reverse []) (k := 0) c2.fnd (by omega) (by omega)).2
      unfold allN; rw [this]; omega
    obtain ⟨n1, f1, q1, r1, p1⟩ := one_site a2 c1
    obtain ⟨n2, f2, q2, r2, p2⟩ := one_site a2 c2
    have top1 := top_all (n := 0 + z.length) (linesOf a2 (evs z [])) [] (-1, 0) (by simpa using f1) (Or.inl ⟨rfl, rfl⟩)
    have top2 := top_all (n := 0 + z.length) (linesOf a2 (evs z.reverse [])) [] (-1, 0) (by simpa using f2) (Or.inl ⟨rfl, rfl⟩)
    simp only [List.nil_append] at top1 top2
    have hme : mostN a2 (evs z []) = mostN a2 (evs z.reverse []) := by
      unfold mostN
      rw [p1, p2]
      refine top_uniq n1 n2 f1 f2 (fun c => ?_) top1 top2
      rw [← q1, ← q2, m1, m2, List.countP_reverse]
    have hle : 0 ≤ (mostN a2 (evs z [])).2 ∧ (mostN a2 (evs z [])).2 ≤ (z.countP (fun e => decide (e.1 = a2)) : Nat) := by
      have key : ∀ (l : List Ln), FoundsL (0 + z.length) l → ∀ p, Top l p → 0 ≤ p.2 ∧ p.2 ≤ sL l := by
        intro l hf p hp
        have mem : ∀ (l : List Ln), FoundsL (0 + z.length) l → ∀ x ∈ l, x.found ≤ sL l := by
          intro l
          induction l with
          | nil => intro _ x hx; cases hx
          | cons a l ih =>
            intro hf x hx
            have := sL_pos hf.tail
            have := hf a (by simp)
            simp only [sL]
            rcases List.mem_cons.1 hx with rfl | hx
            · omega
            · have := ih hf.tail x hx; omega
        rcases hp with ⟨rfl, rfl⟩ | ⟨x, hx, rfl, _⟩
        · exact ⟨Int.le_refl _, Int.le_refl _⟩
        · exact ⟨by have := hf x hx; show 0 ≤ x.found; omega, mem l hf x hx⟩
      have := key _ f1 _ top1
      unfold mostN
      rw [p1]
      refine ⟨this.1, Int.le_trans this.2 ?_⟩
      rw [← r1]; omega
    simp only [tally_Most_eq, tally_All_eq, Option.bind_some, t1, t2, ← hme, hle.1, hle.2, decide_true, cond_true]
end Go.Proofs.Ytioalgofaiideaa
