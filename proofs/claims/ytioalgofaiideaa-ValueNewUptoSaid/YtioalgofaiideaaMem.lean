/- How Go's values in memory are read as plain data: lists of structs, and rows of memory that a call has made itself. No program in sight, no conditions. -/
import Derived.Test.YtioalgofaiideaaPost
import Derived.WalkSpells
import Derived.WalkLawsBesides
import Derived.Maps.AppendAt
import Derived.Laws.OwnMore
import Derived.Lib.Hide
namespace Go.Proofs.Ytioalgofaiideaa
open Go.RowKit

/-- so many bytes may be made at once (a name: the numeral itself stops a walk) -/
def Fits (n : Nat) : Prop := n ≤ 140737488355328
theorem Fits.le {m n : Nat} (h : Fits n) (hm : m ≤ n) : Fits m := Nat.le_trans hm h
theorem Fits.of {n : Nat} (h : n ≤ 140737488355328) : Fits n := h
theorem Fits.len {n k : Nat} (h : Fits (n * k)) (hk : 0 < k) : n ≤ maxLen := by
  unfold Fits at h
  have : n * 1 ≤ n * k := Nat.mul_le_mul_left n hk
  unfold maxLen
  omega

theorem Fits.small {n k : Nat} (h : Fits (n * k)) (hk : 0 < k) : n ≤ 140737488355328 := by
  unfold Fits at h
  have : n * 1 ≤ n * k := Nat.mul_le_mul_left n hk
  omega

/-! ### A set of blocks -/
abbrev Sup := Nat → Prop
def upto (n : Nat) : Sup := fun b => b < n
def Agree (S : Sup) (w w' : World) : Prop := ∀ b, S b → w'.heap[b]? = w.heap[b]?
theorem Agree.of_below {w w' : World} {S : Sup} {B : Nat} (h : Below B w w') (hS : ∀ b, S b → b < B) : Agree S w w' := fun b hb => h.block b (hS b hb)
theorem Agree.cell {S : Sup} {w w' : World} (h : Agree S w w') {b : Nat} (hb : S b) (i : Nat) : w'.cell? ⟨b, i, none⟩ = w.cell? ⟨b, i, none⟩ :=
  World.cell?_of_block (w := w) (a := ⟨b, i, none⟩) (h b hb)
theorem Agree.refl (S : Sup) (w : World) : Agree S w w := fun _ _ => rfl
theorem Agree.trans {S : Sup} {a b c : World} (h : Agree S a b) (k : Agree S b c) : Agree S a c := fun x hx => (k x hx).trans (h x hx)

/-- what a call that has only made memory leaves, in the walk's own form -/
theorem bcell {W w1 : World} (hb : Below W.heap.size W w1) : (∀ b o, b < W.heap.size → w1.cell? ⟨b, o, none⟩ = W.cell? ⟨b, o, none⟩) ∧ (∀ b o, b < W.heap.size → w1.frozen? ⟨b, o, none⟩ = W.frozen? ⟨b, o, none⟩) ∧ W.heap.size ≤ w1.heap.size :=
  ⟨fun b o h => hb.cell (p := ⟨b, o, none⟩) h, fun b o h => hb.frozen (p := ⟨b, o, none⟩) h, hb.size⟩

theorem bcellB {W w1 : World} {B : Nat} (hb : Below B W w1) : (∀ b o, b < B → w1.cell? ⟨b, o, none⟩ = W.cell? ⟨b, o, none⟩) ∧ (∀ b o, b < B → w1.frozen? ⟨b, o, none⟩ = W.frozen? ⟨b, o, none⟩) ∧ W.heap.size ≤ w1.heap.size :=
  ⟨fun b o h => hb.cell (p := ⟨b, o, none⟩) h, fun b o h => hb.frozen (p := ⟨b, o, none⟩) h, hb.size⟩

theorem below_step {W a b : World} (h : Below W.heap.size W a) (k : Below a.heap.size a b) : Below W.heap.size W b := h.trans (k.mono h.size)
theorem below_drew (W : World) : Below W.heap.size W W.drew := (Below.refl _ W).drew

/-! ### How one element's cells are read -/
structure Rep (α : Type) where
  size : Nat
  pos : 0 < size
  R : World → Sup → List Value → α → Prop
  mono : ∀ {w w' : World} {S S' : Sup} {cs : List Value} {a : α}, R w S cs a → Agree S w w' → (∀ b, S b → S' b) → R w' S' cs a
  len : ∀ {w : World} {S : Sup} {cs : List Value} {a : α}, R w S cs a → cs.length = size
  one : ∀ {w : World} {S : Sup} {cs : List Value} {a : α}, R w S cs a → ∀ u ∈ cs, u.oneCell' = true

section
variable {α : Type} (r : Rep α)

/-- A slice's value reads as a list of data. -/
def SL (w : World) (S : Sup) (v : Value) (as : List α) : Prop :=
  ∃ A c, v = .slice A as.length c ∧ as.length ≤ c ∧ c ≤ maxLen ∧ (0 < as.length → ∃ b o, A = some ⟨b, o, none⟩ ∧ S b ∧
    ∀ (i : Nat) (a : α), as[i]? = some a → ∃ cs, r.R w S cs a ∧ ∀ (j : Nat) (u : Value), cs[j]? = some u → w.cell? ⟨b, o + i * r.size + j, none⟩ = some u)

/-- A row that the call made itself reads as a list of data; the data's own memory (S) lies apart from the row. -/
def OL (w : World) (e : TypeId) (base : Nat) (S : Sup) (v : Value) (as : List α) : Prop :=
  ∃ css : List (List Value), css.length = as.length ∧ (∀ (i : Nat) (cs : List Value) (a : α), css[i]? = some cs → as[i]? = some a → r.R w S cs a) ∧
    w.ownsRow base e r.size v as.length css.flatten ∧ (∀ b, S b → b < w.heap.size ∧ v.ownBlock ≠ some b)
end

section
variable {α : Type} {r : Rep α} {w w' : World} {S S' : Sup} {v : Value} {as : List α}

theorem SL.mono (h : SL r w S v as) (ha : Agree S w w') (hS : ∀ b, S b → S' b) : SL r w' S' v as := by
  obtain ⟨A, c, hv, h1, h2, h3⟩ := h
  refine ⟨A, c, hv, h1, h2, fun hp => ?_⟩
  obtain ⟨b, o, hA, hb, hc⟩ := h3 hp
  refine ⟨b, o, hA, hS b hb, fun i a hi => ?_⟩
  obtain ⟨cs, hR, hcs⟩ := hc i a hi
  exact ⟨cs, r.mono hR ha hS, fun j u hj => (ha.cell hb _).trans (hcs j u hj)⟩
theorem SL.below {B : Nat} (h : SL r w S v as) (hb : Below B w w') (hS : ∀ b, S b → b < B) : SL r w' S v as := h.mono (.of_below hb hS) fun _ h => h
theorem SL.upto_below {B : Nat} (h : SL r w (upto B) v as) (hb : Below B w w') : SL r w' (upto B) v as := h.below hb fun _ h => h
theorem SL.len_le (h : SL r w S v as) : as.length ≤ maxLen := by
  obtain ⟨A, c, hv, h1, h2, h3⟩ := h
  omega
theorem SL.small (h : SL r w S v as) : as.length ≤ 9223372036854775807 := by simpa [maxLen] using h.len_le
theorem SL.nil (c : Nat) (hc : c ≤ maxLen) : SL r w S (.slice none 0 c) ([] : List α) := ⟨none, c, rfl, Nat.zero_le _, hc, fun h => absurd h (by simp)⟩
/-- a cut at the end -/
theorem SL.take {A : Option Addr} {n c k : Nat} (h : SL r w S (.slice A n c) as) (hk : k ≤ n) : SL r w S (.slice A k c) (as.take k) := by
  obtain ⟨A', c', hv, h1, h2, h3⟩ := h
  injection hv with e1 e2 e3
  subst e1 e2 e3
  refine ⟨A, c, by rw [List.length_take, Nat.min_eq_left hk], by rw [List.length_take]; omega, h2, fun hp => ?_⟩
  rw [List.length_take] at hp
  obtain ⟨b, o, hA, hb, hc⟩ := h3 (by omega)
  refine ⟨b, o, hA, hb, fun i a hi => ?_⟩
  rw [List.getElem?_take] at hi
  split at hi
  · exact hc i a hi
  · cases hi
/-- the i-th element's cells -/
theorem SL.at_ (h : SL r w S v as) {i : Nat} (hi : i < as.length) : ∃ b o c cs, v = .slice (some ⟨b, o, none⟩) as.length c ∧ S b ∧ r.R w S cs as[i] ∧
    ∀ (j : Nat) (u : Value), cs[j]? = some u → w.cell? ⟨b, o + i * r.size + j, none⟩ = some u := by
  obtain ⟨A, c, hv, h1, h2, h3⟩ := h
  obtain ⟨b, o, rfl, hb, hc⟩ := h3 (by omega)
  obtain ⟨cs, hR, hcs⟩ := hc i as[i] (List.getElem?_eq_getElem hi)
  exact ⟨b, o, c, cs, hv, hb, hR, hcs⟩

theorem getElem?_flatten_block {β : Type} (n : Nat) : ∀ (css : List (List β)), (∀ cs ∈ css, cs.length = n) → ∀ (i j : Nat) (cs : List β), css[i]? = some cs → j < n → css.flatten[i * n + j]? = cs[j]?
  | [], _, i, j, cs, h, _ => by simp at h
  | c :: css, hl, 0, j, cs, h, hj => by
    simp at h
    subst h
    have : c.length = n := hl c (by simp)
    simp [List.getElem?_append_left, this, hj]
  | c :: css, hl, i + 1, j, cs, h, hj => by
    have hc : c.length = n := hl c (by simp)
    have ih := getElem?_flatten_block n css (fun x hx => hl x (by simp [hx])) i j cs (by simpa using h) hj
    have e : (i + 1) * n + j = c.length + (i * n + j) := by rw [hc, Nat.succ_mul]; omega
    rw [List.flatten_cons, e, List.getElem?_append_right (by omega)]
    simpa using ih

theorem length_flatten_block {β : Type} (n : Nat) : ∀ (css : List (List β)), (∀ cs ∈ css, cs.length = n) → css.flatten.length = css.length * n
  | [], _ => by simp
  | c :: css, hl => by
    have ih := length_flatten_block n css (fun x hx => hl x (by simp [hx]))
    rw [List.flatten_cons, List.length_append, hl c (by simp), ih, List.length_cons, Nat.succ_mul]; omega

theorem OL.lens {css : List (List Value)} (hl : css.length = as.length) (hR : ∀ (i : Nat) (cs : List Value) (a : α), css[i]? = some cs → as[i]? = some a → r.R w S cs a) : ∀ cs ∈ css, cs.length = r.size := by
  intro cs hcs
  obtain ⟨i, hi, rfl⟩ := List.getElem_of_mem hcs
  exact r.len (hR i css[i] as[i] (List.getElem?_eq_getElem hi) (List.getElem?_eq_getElem (by omega)))

theorem OL.nil (e : TypeId) (base : Nat) (hS : ∀ b, S b → b < w.heap.size) : OL r w e base S (.slice none 0 0) ([] : List α) :=
  ⟨[], rfl, fun i cs a h => by simp at h, ⟨by simp, .inl ⟨rfl, rfl⟩⟩, fun b hb => ⟨hS b hb, by simp [Value.ownBlock]⟩⟩

theorem OL.len_le {e : TypeId} {base : Nat} (h : OL r w e base S v as) : as.length ≤ maxLen := by
  obtain ⟨css, h1, h2, h3, h4⟩ := h
  rcases h3.2 with ⟨_, h⟩ | ⟨g, cap, cur, hv, hb, hg, hn, hm, hs, ht⟩ <;> omega

/-- what was made is read -/
theorem OL.toSL {e : TypeId} {base : Nat} (h : OL r w e base S v as) (hS : ∀ b, S b → S' b) (hv : ∀ b, v.ownBlock = some b → S' b) : SL r w S' v as := by
  obtain ⟨css, h1, h2, h3, h4⟩ := h
  have hlens := OL.lens h1 h2
  rcases h3.2 with ⟨rfl, hn⟩ | ⟨g, cap, cur, rfl, hb, hg, hn, hm, hs, ht⟩
  · have : as = [] := List.eq_nil_of_length_eq_zero hn
    subst this
    exact SL.nil 0 (by simp [maxLen])
  · refine ⟨_, cap, rfl, hn, hm, fun hp => ⟨g, 0, rfl, hv g (by simp [Value.ownBlock]), fun i a hi => ?_⟩⟩
    have hil : i < css.length := by
      rw [h1]
      exact (List.getElem?_eq_some_iff.1 hi).1
    refine ⟨css[i], r.mono (h2 i css[i] a (List.getElem?_eq_getElem hil) hi) (Agree.refl _ _) hS, fun j u hj => ?_⟩
    have hcl := hlens css[i] (List.getElem_mem hil)
    have hjl : j < r.size := by rw [← hcl]; exact (List.getElem?_eq_some_iff.1 hj).1
    have hflat := getElem?_flatten_block r.size css hlens i j css[i] (List.getElem?_eq_getElem hil) hjl
    have hb1 : i * r.size + j < as.length * r.size := by
      rw [← h1]
      calc i * r.size + j < i * r.size + r.size := by omega
        _ = (i + 1) * r.size := by rw [Nat.succ_mul]
        _ ≤ css.length * r.size := Nat.mul_le_mul_right _ (by omega)
    have hc : w.cell? ⟨g, i * r.size + j, none⟩ = css.flatten[i * r.size + j]? := by
      rw [← ht]
      unfold World.cell?
      rw [hg]
      simp [hb1]
    rw [show 0 + i * r.size + j = i * r.size + j by omega, hc, hflat, hj]
theorem OL.toSL_upto {e : TypeId} {base : Nat} (h : OL r w e base S v as) : SL r w (upto w.heap.size) v as := by
  have h' := h
  obtain ⟨css, h1, h2, h3, h4⟩ := h'
  exact h.toSL (fun b hb => (h4 b hb).1) (fun b hb => (h3.lt b hb).2)

/-- the rest of memory may turn -/
theorem OL.keep {e : TypeId} {base : Nat} (h : OL r w e base S v as) (ha : Agree S w w') (hv : ∀ b, v.ownBlock = some b → w'.heap[b]? = w.heap[b]?) (hsz : w.heap.size ≤ w'.heap.size) : OL r w' e base S v as := by
  obtain ⟨css, h1, h2, h3, h4⟩ := h
  refine ⟨css, h1, fun i cs a x y => r.mono (h2 i cs a x y) ha fun _ h => h, ⟨h3.1, ?_⟩, fun b hb => ⟨Nat.lt_of_lt_of_le (h4 b hb).1 hsz, (h4 b hb).2⟩⟩
  rcases h3.2 with h | ⟨g, cap, cur, rfl, hb, hg, hn, hm, hs, ht⟩
  · exact .inl h
  · exact .inr ⟨g, cap, cur, rfl, hb, (hv g (by simp [Value.ownBlock])).trans hg, hn, hm, hs, ht⟩
theorem OL.lt {e : TypeId} {base : Nat} (h : OL r w e base S v as) : ∀ b, v.ownBlock = some b → base ≤ b ∧ b < w.heap.size := by
  obtain ⟨css, h1, h2, h3, h4⟩ := h
  exact h3.lt
theorem OL.sup_lt {e : TypeId} {base : Nat} (h : OL r w e base S v as) : ∀ b, S b → b < w.heap.size := by
  obtain ⟨css, h1, h2, h3, h4⟩ := h
  exact fun b hb => (h4 b hb).1
/-- everything that was there stands as it was -/
theorem OL.below {e : TypeId} {base : Nat} (h : OL r w e base S v as) (hb : Below w.heap.size w w') : OL r w' e base S v as :=
  h.keep (fun b h' => hb.block b (h.sup_lt b h')) (fun b h' => hb.block b (h.lt b h').2) hb.size
theorem OL.wider {e : TypeId} {base : Nat} (h : OL r w e base S v as) (hS : ∀ b, S b → S' b) (hf : ∀ b, S' b → b < w.heap.size ∧ v.ownBlock ≠ some b) : OL r w e base S' v as := by
  obtain ⟨css, h1, h2, h3, h4⟩ := h
  exact ⟨css, h1, fun i cs a x y => r.mono (h2 i cs a x y) (Agree.refl _ _) hS, h3, hf⟩
end
end Go.Proofs.Ytioalgofaiideaa
