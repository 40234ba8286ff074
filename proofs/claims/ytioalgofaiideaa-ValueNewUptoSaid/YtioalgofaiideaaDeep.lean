/- Rows of structs that a call has made itself, each with a slice of its own: what may be written, and that all of it is apart. No program in sight. -/
import Derived.Test.YtioalgofaiideaaData
import Derived.Test.YtioalgofaiideaaApp
namespace Go.Proofs.Ytioalgofaiideaa
open Go.RowKit

def none_ : Sup := fun _ => False

/-- the pair of an element and its inner slice's value, as cells -/
def rPair {α : Type} (n : Nat) (f : α → List Value) (hl : ∀ a, (f a).length = n) (h1 : ∀ a, ∀ u ∈ f a, u.oneCell' = true) : Rep (α × Value) where
  size := n + 1
  pos := Nat.succ_pos n
  R := fun _ _ cs p => cs = f p.1 ++ [p.2] ∧ p.2.oneCell' = true
  mono := fun h _ _ => h
  len := fun {_ _ _ a} h => by rw [h.1]; simp [hl a.1]
  one := fun {_ _ _ a} ⟨h, h2⟩ u hu => by
    rw [h, List.mem_append] at hu
    rcases hu with hu | hu
    · exact h1 a.1 u hu
    · simp only [List.mem_singleton] at hu
      rw [hu]
      exact h2

section
variable {α β : Type} {n : Nat} {f : α → List Value} (hl : ∀ a, (f a).length = n) (h1 : ∀ a, ∀ u ∈ f a, u.oneCell' = true) (rin : Rep β) (g : α → List β)

/-- own rows within an own row, all apart -/
def DO (w : World) (eo ei base : Nat) (v : Value) (as : List α) : Prop :=
  ∃ ps : List (α × Value), ps.map (·.1) = as ∧ OL (rPair n f hl h1) w eo base none_ v ps ∧ (∀ p ∈ ps, OL rin w ei base none_ p.2 (g p.1)) ∧
    ps.Pairwise fun p q => p.2.ownBlock = none ∨ p.2.ownBlock ≠ q.2.ownBlock
end

section
variable {α β : Type} {n : Nat} {f : α → List Value} {hl : ∀ a, (f a).length = n} {h1 : ∀ a, ∀ u ∈ f a, u.oneCell' = true} {rin : Rep β} {g : α → List β}
variable {w w' : World} {eo ei base : Nat} {v : Value} {as : List α}

theorem DO.nil : DO hl h1 rin g w eo ei base (.slice none 0 0) ([] : List α) := ⟨[], rfl, OL.nil _ _ (fun _ h => h.elim), by simp, .nil⟩
theorem DO.below (h : DO hl h1 rin g w eo ei base v as) (hb : Below w.heap.size w w') : DO hl h1 rin g w' eo ei base v as := by
  obtain ⟨ps, e, ho, hi, hp⟩ := h
  exact ⟨ps, e, ho.below hb, fun p hp => (hi p hp).below hb, hp⟩
theorem DO.len_le (h : DO hl h1 rin g w eo ei base v as) : as.length ≤ maxLen := by
  obtain ⟨ps, e, ho, hi, hp⟩ := h
  rw [← e, List.length_map]
  exact ho.len_le
theorem DO.lt (h : DO hl h1 rin g w eo ei base v as) : ∀ b, v.ownBlock = some b → base ≤ b ∧ b < w.heap.size := by
  obtain ⟨ps, e, ho, hi, hp⟩ := h
  exact ho.lt
theorem OL.slice {γ : Type} {r : Rep γ} {S : Sup} {e : Nat} {xs : List γ} (h : OL r w e base S v xs) : ∃ A c, v = .slice A xs.length c ∧ xs.length ≤ c ∧ c ≤ maxLen := by
  obtain ⟨css, h1, h2, h3, h4⟩ := h
  rcases h3.2 with ⟨rfl, hn⟩ | ⟨g, cap, cur, rfl, hb, hg, hn, hm, hs, ht⟩
  · exact ⟨none, 0, by rw [hn], by omega, by simp [maxLen]⟩
  · exact ⟨_, cap, rfl, hn, hm⟩
theorem OL.type_ {γ : Type} {r : Rep γ} {S : Sup} {e : Nat} {xs : List γ} (h : OL r w e base S v xs) {b : Nat} (hb : v.ownBlock = some b) : ∃ cs, w.heap[b]? = some (.cells cs e (0, 0)) := by
  obtain ⟨css, h1, h2, h3, h4⟩ := h
  rcases h3.2 with ⟨rfl, hn⟩ | ⟨g, cap, cur, rfl, _, hg, hn, hm, hs, ht⟩
  · simp [Value.ownBlock] at hb
  · simp [Value.ownBlock] at hb
    subst hb
    exact ⟨cur, hg⟩
/-- rows of two types never share a block -/
theorem OL.apart {γ δ : Type} {r : Rep γ} {r' : Rep δ} {S S' : Sup} {e e' base' : Nat} {x : Value} {xs : List γ} {ys : List δ} (h : OL r w e base S v xs) (h' : OL r' w e' base' S' x ys) (hne : e ≠ e') {b : Nat} (hb : v.ownBlock = some b) : x.ownBlock ≠ some b := by
  intro hx
  obtain ⟨cs, e1⟩ := h.type_ hb
  obtain ⟨cs', e2⟩ := h'.type_ hx
  rw [e1] at e2
  injection e2 with e2
  injection e2 with _ e2
  exact hne e2

/-- what was made is read as the struct's data -/
theorem DO.toSL (h : DO hl h1 rin g w eo ei base v as) : SL (Rep.with n f hl h1 rin g) w (upto w.heap.size) v as := by
  obtain ⟨ps, e, ho, hi, hp⟩ := h
  have hs := ho.toSL_upto
  obtain ⟨A, c, hv, ha, hb, hc⟩ := hs
  have hlen : ps.length = as.length := by rw [← e, List.length_map]
  rw [hlen] at hv ha hc
  refine ⟨A, c, hv, ha, hb, fun hpos => ?_⟩
  obtain ⟨b, o, hA, hS, hat⟩ := hc hpos
  refine ⟨b, o, hA, hS, fun i a hia => ?_⟩
  rw [← e, List.getElem?_map] at hia
  cases hpi : ps[i]? with
  | none => rw [hpi] at hia; simp at hia
  | some p =>
    rw [hpi] at hia
    simp only [Option.map_some, Option.some.injEq] at hia
    subst hia
    obtain ⟨cs, ⟨hcs, _⟩, hcells⟩ := hat i p hpi
    exact ⟨cs, ⟨p.2, hcs, (hi p (List.mem_of_getElem? hpi)).toSL_upto⟩, hcells⟩

theorem OL.base_le {γ : Type} {r : Rep γ} {S : Sup} {e base' : Nat} {xs : List γ} (h : OL r w e base S v xs) (hb : base' ≤ base) : OL r w e base' S v xs := by
  obtain ⟨css, h1, h2, h3, h4⟩ := h
  refine ⟨css, h1, h2, ⟨h3.1, ?_⟩, h4⟩
  rcases h3.2 with h | ⟨g, cap, cur, rfl, hg, h⟩
  · exact .inl h
  · exact .inr ⟨g, cap, cur, rfl, Nat.le_trans hb hg, h⟩

theorem DO.base_le {base' : Nat} (h : DO hl h1 rin g w eo ei base v as) (hb : base' ≤ base) : DO hl h1 rin g w eo ei base' v as := by
  obtain ⟨ps, e, ho, hi, hp⟩ := h
  exact ⟨ps, e, ho.base_le hb, fun p hp => (hi p hp).base_le hb, hp⟩

/-- one element more, whose slice lies apart -/
theorem DO.pushed' {w0 : World} {base0 : Nat} (h : DO hl h1 rin g w0 eo ei base0 v as) (hw : Below w0.heap.size w0 w) (hne : eo ≠ ei) (hb0 : base ≤ base0) (a : α) (x : Value)
    (hx : OL rin w ei base none_ x (g a)) (hdis : ∀ b, x.ownBlock = some b → w0.heap.size ≤ b ∨ b < base0) :
    ∃ ps, ps.length = as.length ∧ OL (rPair n f hl h1) w eo base none_ v ps ∧ (rPair n f hl h1).R w none_ (f a ++ [x]) (a, x) ∧
      ∀ v' w', OL (rPair n f hl h1) w' eo base none_ v' (ps ++ [(a, x)]) → w.grownBy w' v.ownBlock → DO hl h1 rin g w' eo ei base v' (as ++ [a]) := by
  obtain ⟨ps, e, ho0, hi0, hp⟩ := h
  obtain ⟨A, c, hxs, -⟩ := hx.slice
  have ho := (ho0.below hw).base_le hb0
  have hi : ∀ p ∈ ps, OL rin w ei base none_ p.2 (g p.1) := fun p hp => ((hi0 p hp).below hw).base_le hb0
  refine ⟨ps, by rw [← e, List.length_map], ho, ⟨rfl, by rw [hxs]; rfl⟩, fun v' w' ho' hg => ⟨ps ++ [(a, x)], by simp [e], ho', ?_, ?_⟩⟩
  · have keep : ∀ {y : Value} {ys : List β}, OL rin w ei base none_ y ys → OL rin w' ei base none_ y ys := fun {y ys} hy =>
      hy.keep (fun _ h => h.elim) (fun b hb => hg.block b (hy.lt b hb).2 (fun e => (hy.apart ho (Ne.symm hne) hb) e.symm)) hg.size
    intro p hpm
    rw [List.mem_append] at hpm
    rcases hpm with hpm | hpm
    · exact keep (hi p hpm)
    · simp only [List.mem_singleton] at hpm
      subst hpm
      exact keep hx
  · rw [List.pairwise_append]
    refine ⟨hp, by simp, fun p hpm q hq => ?_⟩
    simp only [List.mem_singleton] at hq
    subst hq
    cases hpb : p.2.ownBlock with
    | none => exact .inl rfl
    | some b =>
      right
      intro hb
      have h1 := (hi0 p hpm).lt b hpb
      have h2 := hdis b hb.symm
      omega
/-- one element more, whose slice was made last of all (from block k on) -/
theorem DO.pushed {w0 : World} (h : DO hl h1 rin g w0 eo ei base v as) (hw : Below w0.heap.size w0 w) (hne : eo ≠ ei) (a : α) (x : Value) {k : Nat}
    (hx : OL rin w ei k none_ x (g a)) (hk : w0.heap.size ≤ k) (hbk : base ≤ k) :
    ∃ ps, ps.length = as.length ∧ OL (rPair n f hl h1) w eo base none_ v ps ∧ (rPair n f hl h1).R w none_ (f a ++ [x]) (a, x) ∧
      ∀ v' w', OL (rPair n f hl h1) w' eo base none_ v' (ps ++ [(a, x)]) → w.grownBy w' v.ownBlock → DO hl h1 rin g w' eo ei base v' (as ++ [a]) :=
  h.pushed' hw hne (Nat.le_refl _) a x (hx.base_le hbk) fun b hb => .inl (Nat.le_trans hk (hx.lt b hb).1)
end

/-- a row of plain structs has no memory of its own -/
theorem OL.flat_ {γ : Type} {r : Rep γ} {w : World} {S : Sup} {e base : Nat} {v : Value} {xs : List γ} (h : OL r w e base S v xs) (hr : ∀ (w : World) (S : Sup) (cs : List Value) (a : γ), r.R w S cs a → r.R w none_ cs a) : OL r w e base none_ v xs := by
  obtain ⟨css, h1, h2, h3, h4⟩ := h
  exact ⟨css, h1, fun i cs a x y => hr _ _ _ _ (h2 i cs a x y), h3, fun _ h => h.elim⟩
theorem SL.eq_nil {γ : Type} {r : Rep γ} {w : World} {S : Sup} {n c : Nat} {xs : List γ} (h : SL r w S (.slice none n c) xs) : n = 0 ∧ xs = [] := by
  obtain ⟨A, c', hv, h1, h2, h3⟩ := h
  injection hv with hA hn hc
  rcases Nat.eq_zero_or_pos xs.length with h0 | h0
  · exact ⟨by omega, List.eq_nil_of_length_eq_zero h0⟩
  · obtain ⟨b, o, h, _⟩ := h3 h0
    rw [← hA] at h
    cases h
theorem OL.empty {γ : Type} {r : Rep γ} {w : World} {S : Sup} {e base : Nat} (hb : base ≤ w.heap.size) (hS : ∀ b, S b → b < w.heap.size) : OL r (w.alloc (.cells #[] e)) e base S (.slice (some ⟨w.heap.size, 0, none⟩) 0 0) ([] : List γ) :=
  ⟨[], rfl, fun i cs a h => by simp at h, World.ownsRow_made w #[] 0 hb (by simp [maxLen]) (by simp), fun b h => ⟨by have := hS b h; simp; omega, by have := hS b h; simp [Value.ownBlock]; omega⟩⟩

theorem OL.set_below {γ : Type} {r : Rep γ} {w : World} {e base : Nat} {v : Value} {xs : List γ} (h : OL r w e base none_ v xs) {p : Addr} (hp : p.block < base) (u : Value) : OL r (w.setCell p u) e base none_ v xs :=
  h.keep (fun _ h => h.elim) (fun b hb => Below.heap_setCell w p u b (by have := (h.lt b hb).1; omega)) (by simp)

theorem OL.drew {γ : Type} {r : Rep γ} {w : World} {S : Sup} {e base : Nat} {v : Value} {xs : List γ} (h : OL r w e base S v xs) : OL r w.drew e base S v xs :=
  h.keep (fun _ _ => rfl) (fun _ _ => rfl) (Nat.le_refl _)

/-- a row that make has laid -/
theorem OL.made {γ : Type} {r : Rep γ} {w : World} {e base : Nat} {z : List Value} {d : γ} (hb : base ≤ w.heap.size) (hz : ∀ w, r.R w none_ z d) (m : Nat) (hm : m ≤ maxLen) {N : Nat} (hN : w.heap.size = N) :
    OL r (w.alloc (.cells (madeCells z.toArray (m * r.size)) e)) e base none_ (.slice (some ⟨N, 0, none⟩) m m) (List.replicate m d) := by
  subst hN
  have hzl : z.length = r.size := r.len (hz w)
  have hfl : ∀ m, (List.replicate m z).flatten.length = m * r.size := by
    intro m
    induction m with
    | zero => simp
    | succ m ih => rw [List.replicate_succ, List.flatten_cons, List.length_append, ih, hzl, Nat.succ_mul]; omega
  have hcells : (madeCells z.toArray (m * r.size)).toList = (List.replicate m z).flatten := by
    apply List.ext_getElem?
    intro j
    by_cases hj : j < m * r.size
    · have hpos := r.pos
      have hd : j / r.size < m := Nat.div_lt_of_lt_mul (by rwa [Nat.mul_comm] at hj)
      have hmod : j % r.size < r.size := Nat.mod_lt _ hpos
      have h := getElem?_flatten_block r.size (List.replicate m z) (fun c hc => by rw [List.eq_of_mem_replicate hc]; exact hzl) (j / r.size) (j % r.size) z (by simp [hd]) hmod
      have ej : j / r.size * r.size + j % r.size = j := by rw [Nat.mul_comm]; exact Nat.div_add_mod j r.size
      rw [ej] at h
      rw [h]
      have : j % r.size < z.length := by omega
      rw [List.getElem?_eq_getElem this]
      simp [madeCells, hj, hzl, List.getElem?_eq_getElem this]
    · rw [List.getElem?_eq_none (by simp [madeCells]; omega), List.getElem?_eq_none (by rw [hfl]; omega)]
  refine ⟨List.replicate m z, by simp, fun i cs a hi ha => ?_, ?_, fun _ h => h.elim⟩
  · rw [List.getElem?_replicate] at hi ha
    split at hi
    · rename_i hlt
      rw [if_pos hlt] at ha
      simp only [Option.some.injEq] at hi ha
      subst hi ha
      exact hz _
    · simp at hi
  · refine ⟨by simp [hfl], .inr ⟨w.heap.size, m, madeCells z.toArray (m * r.size), by simp, hb, ?_, by simp, hm, by simp [madeCells], ?_⟩⟩
    · show (w.heap.push _)[w.heap.size]? = _
      simp
    · rw [hcells, List.length_replicate, ← hfl m, List.take_length]

/-- what comes of a function that returns a row of its own -/
def RetOL {γ : Type} (r : Rep γ) (e : Nat) (S : Sup) (xs : List γ) (w : World) : Ending → World → Prop :=
  fun en w' => ∃ A c, en = .returned (.slice A xs.length c) ∧ OL r w' e w.heap.size S (.slice A xs.length c) xs ∧ Below w.heap.size w w'
theorem RetOL.mk {γ : Type} {r : Rep γ} {e : Nat} {S : Sup} {xs : List γ} {w w' : World} {v : Value} (h : OL r w' e w.heap.size S v xs) (hb : Below w.heap.size w w') : RetOL r e S xs w (.returned v) w' := by
  obtain ⟨A, c, rfl, -⟩ := h.slice
  exact ⟨A, c, rfl, h, hb⟩
/-- what comes of a function that returns rows of its own, all apart -/
def RetDO {α β : Type} {n : Nat} {f : α → List Value} (hl : ∀ a, (f a).length = n) (h1 : ∀ a, ∀ u ∈ f a, u.oneCell' = true) (rin : Rep β) (g : α → List β) (eo ei : Nat) (xs : List α) (w : World) : Ending → World → Prop :=
  fun en w' => ∃ A c, en = .returned (.slice A xs.length c) ∧ DO hl h1 rin g w' eo ei w.heap.size (.slice A xs.length c) xs ∧ Below w.heap.size w w'
section
variable {α β : Type} {n : Nat} {f : α → List Value} {hl : ∀ a, (f a).length = n} {h1 : ∀ a, ∀ u ∈ f a, u.oneCell' = true} {rin : Rep β} {g : α → List β} {eo ei : Nat}
theorem DO.slice {w : World} {base : Nat} {v : Value} {xs : List α} (h : DO hl h1 rin g w eo ei base v xs) : ∃ A c, v = .slice A xs.length c ∧ xs.length ≤ c ∧ c ≤ maxLen := by
  obtain ⟨ps, e, ho, hi, hp⟩ := h
  rw [← e, List.length_map]
  exact ho.slice
theorem DO.set_below {w : World} {base : Nat} {v : Value} {xs : List α} (h : DO hl h1 rin g w eo ei base v xs) {p : Addr} (hp : p.block < base) (u : Value) : DO hl h1 rin g (w.setCell p u) eo ei base v xs := by
  obtain ⟨ps, e, ho, hi, hq⟩ := h
  exact ⟨ps, e, ho.set_below hp u, fun q hqm => (hi q hqm).set_below hp u, hq⟩
theorem RetDO.mk {xs : List α} {w w' : World} {v : Value} (h : DO hl h1 rin g w' eo ei w.heap.size v xs) (hb : Below w.heap.size w w') : RetDO hl h1 rin g eo ei xs w (.returned v) w' := by
  obtain ⟨A, c, rfl, -⟩ := h.slice
  exact ⟨A, c, rfl, h, hb⟩
end

/-! ### The three kinds of such rows -/
abbrev DOob (w : World) (eo ei base : Nat) (v : Value) (xs : List Ob) : Prop := DO (n := 1) (f := fun o : Ob => [.int .i64 o.cls]) (by simp) (by simp [Value.oneCell']) rV (·.slots) w eo ei base v xs
abbrev RetOb (eo ei : Nat) (xs : List Ob) (w : World) : Ending → World → Prop := RetDO (n := 1) (f := fun o : Ob => [.int .i64 o.cls]) (by simp) (by simp [Value.oneCell']) rV (·.slots) eo ei xs w
abbrev rPob : Rep (Ob × Value) := rPair 1 (fun o : Ob => [.int .i64 o.cls]) (by simp) (by simp [Value.oneCell'])
abbrev DOtl (w : World) (eo ei base : Nat) (v : Value) (xs : List Tl) : Prop := DO (n := 3) (f := fun t : Tl => [.int .i64 t.site.cls, .string t.site.name, .int .i64 t.site.pos]) (by simp) (by simp [Value.oneCell']) rLn (·.classes) w eo ei base v xs
abbrev RetTl (eo ei : Nat) (xs : List Tl) (w : World) : Ending → World → Prop := RetDO (n := 3) (f := fun t : Tl => [.int .i64 t.site.cls, .string t.site.name, .int .i64 t.site.pos]) (by simp) (by simp [Value.oneCell']) rLn (·.classes) eo ei xs w
abbrev rPtl : Rep (Tl × Value) := rPair 3 (fun t : Tl => [.int .i64 t.site.cls, .string t.site.name, .int .i64 t.site.pos]) (by simp) (by simp [Value.oneCell'])
abbrev DOce (w : World) (eo ei base : Nat) (v : Value) (xs : List Ce) : Prop := DO (n := 5) (f := fun t : Ce => [.int .i64 t.site.cls, .string t.site.name, .int .i64 t.site.pos, .int .i64 t.epoch, .bool t.many]) (by simp) (by simp [Value.oneCell']) rLn (·.lines) w eo ei base v xs
abbrev RetCe (eo ei : Nat) (xs : List Ce) (w : World) : Ending → World → Prop := RetDO (n := 5) (f := fun t : Ce => [.int .i64 t.site.cls, .string t.site.name, .int .i64 t.site.pos, .int .i64 t.epoch, .bool t.many]) (by simp) (by simp [Value.oneCell']) rLn (·.lines) eo ei xs w
abbrev rPce : Rep (Ce × Value) := rPair 5 (fun t : Ce => [.int .i64 t.site.cls, .string t.site.name, .int .i64 t.site.pos, .int .i64 t.epoch, .bool t.many]) (by simp) (by simp [Value.oneCell'])
end Go.Proofs.Ytioalgofaiideaa
