/- How an argument that reads as data in the row's own sense reads as a list of structs, and how much it may hold. -/
import Derived.Test.YtioalgofaiideaaRows
import Derived.Test.YtioalgofaiideaaData
import Derived.Test.YtioalgofaiideaaApp
import Derived.Deep.Slices
namespace Go.Proofs.Ytioalgofaiideaa
open Go.ChangeShapes Go.WideShapes Go.ChangeAt Go.RowKit Go.Deep
set_option linter.unusedVariables false

/-- a number of 64 bits -/
def I64 (n : Int) : Prop := -9223372036854775808 ≤ n ∧ n ≤ 9223372036854775807
theorem I64.of {n : Int} (h : (Lit.int .i64 n).wf = true) : I64 n := by
  have : IntKind.i64.min ≤ n ∧ n ≤ IntKind.i64.max := by simpa [Lit.wf] using h
  exact this

theorem one_le_bulk {H : Type} (d : DataW H) : 1 ≤ Rows.uptoBulk d := by
  cases d with
  | lit l => cases l <;> simp [Rows.uptoBulk]
  | nil => simp [Rows.uptoBulk]
  | ptr d => simp [Rows.uptoBulk]
  | slice elems spare => simp [Rows.uptoBulk]
  | agg parts => simp [Rows.uptoBulk]
  | iface t d => simp [Rows.uptoBulk]
  | map entries => simp [Rows.uptoBulk]
  | held h => simp [Rows.uptoBulk]
theorem bulk_mem {H : Type} {d : DataW H} {l : List (DataW H)} (h : d ∈ l) : Rows.uptoBulk d ≤ Rows.uptoBulkAll l := by
  induction l with
  | nil => cases h
  | cons x r ih =>
    simp only [Rows.uptoBulkAll]
    cases List.mem_cons.1 h with
    | inl e => subst e; omega
    | inr e => have := ih e; omega
theorem bulk_append {H : Type} (l r : List (DataW H)) : Rows.uptoBulkAll (l ++ r) = Rows.uptoBulkAll l + Rows.uptoBulkAll r := by
  induction l with
  | nil => simp [Rows.uptoBulkAll]
  | cons x l ih => simp only [List.cons_append, Rows.uptoBulkAll, ih]; omega
theorem bulk_small {H : Type} {l : List (DataW H)} (h : Rows.uptoSmall H l = true) : Rows.uptoBulkAll l ≤ 1048576 := of_decide_eq_true h

theorem bulk_ofFn {H α : Type} (bk : α → Nat) : ∀ (n : Nat) (g : Fin n → α) (D : Nat → DataW H), (∀ i : Fin n, bk (g i) ≤ Rows.uptoBulk (D i)) → ((List.ofFn g).map bk).sum ≤ Rows.uptoBulkAll ((List.range n).map D)
  | 0, g, D, _ => by simp
  | n + 1, g, D, h => by
    have ih := bulk_ofFn bk n (fun i => g i.succ) (fun i => D (i + 1)) (fun i => by simpa using h i.succ)
    have h0 := h 0
    rw [List.ofFn_succ, List.range_succ_eq_map]
    simp only [List.map_cons, List.sum_cons, List.map_map, Rows.uptoBulkAll]
    have e : (D ∘ Nat.succ) = fun i => D (i + 1) := rfl
    rw [e]
    have h0' : bk (g 0) ≤ Rows.uptoBulk (D 0) := h0
    omega

section
variable {H : Type} {enc : TypeId × Value → H} {P : Program} {w : World} {sp : Nat → Bool} {held : Bool}

theorem cell_lt {w : World} {b o : Nat} {v : Value} (h : w.cell? ⟨b, o, none⟩ = some v) : b < w.heap.size := by
  unfold World.cell? at h
  cases hb : w.heap[b]? with
  | none => rw [hb] at h; cases h
  | some x => exact (Array.getElem?_eq_some_iff.1 hb).1

/-- a slice whose elements read as data -/
theorem open_SL {α : Type} {r : Rep α} {ok : α → Prop} {bk : α → Nat} {t e : TypeId} (ht : P.underlying t = some (.slice e)) (hc : P.cellsOf e = r.size)
    (hel : ∀ (fuel : Nat) (cs : List Value) (x : DataW H × List MemPlace), DataW.trod enc P w 0 sp held fuel e cs = some x → ∃ a, r.R w (upto w.heap.size) cs a ∧ ok a ∧ bk a ≤ Rows.uptoBulk x.1)
    {fuel : Nat} {v : Value} {x : DataW H × List MemPlace} (h : DataW.trod enc P w 0 sp held fuel t [v] = some x) :
    ∃ l : List α, SL r w (upto w.heap.size) v l ∧ (∀ a ∈ l, ok a) ∧ (l.map bk).sum + 1 ≤ Rows.uptoBulk x.1 := by
  rcases open_slice ht h with ⟨hv, hx⟩ | ⟨a, len, cap, m, n, D, Pl, hv, hb, hl, hm, hmm, hx, hi⟩
  · simp only [List.cons.injEq, and_true] at hv
    subst hv hx
    exact ⟨[], SL.nil 0 (by simp [maxLen]), by simp, by simp [Rows.uptoBulk]⟩
  · simp only [List.cons.injEq, and_true] at hv
    subst hv hx
    have hlm : len ≤ m := by rw [hmm]; split <;> omega
    have hall : ∀ i : Fin len, ∃ y, (∃ cs, r.R w (upto w.heap.size) cs y ∧ ∀ (j : Nat) (u : Value), cs[j]? = some u → w.cell? ((a.add (i * r.size)).add j) = some u) ∧ ok y ∧ bk y ≤ Rows.uptoBulk (D i) := by
      intro i
      obtain ⟨cs', hcs, htr⟩ := hi i (by omega)
      obtain ⟨y, hR, hok, hbk⟩ := hel n cs' _ htr
      rw [hc] at hcs
      obtain ⟨_, hlen, hcell⟩ := World.cells?_some hcs
      refine ⟨y, ⟨cs', hR, fun j u hj => ?_⟩, hok, hbk⟩
      rw [hcell j (by rw [← hlen]; exact (List.getElem?_eq_some_iff.1 hj).1), hj]
    let g : Fin len → α := fun i => (hall i).choose
    have hg := fun i => (hall i).choose_spec
    refine ⟨List.ofFn g, ⟨some a, cap, by simp, by simpa using hl, hm, fun hp => ?_⟩, ?_, ?_⟩
    · simp only [List.length_ofFn] at hp
      obtain ⟨⟨cs, hR, hcell⟩, _⟩ := hg ⟨0, hp⟩
      have hlen := r.len hR
      have hpos := r.pos
      have h0 := hcell 0 cs[0] (List.getElem?_eq_getElem (by omega))
      have hsp : a.spot = none := by
        have h1 : ((a.add (0 * r.size)).add 0) = a := by simp [Addr.add]
        simp only at h0
        rw [h1] at h0
        unfold World.cell? at h0
        split at h0
        · cases hs : a.spot with
          | none => rfl
          | some s => rw [hs] at h0; simp at h0
        · cases h0
      obtain ⟨b, o, s⟩ := a
      simp only at hsp
      subst hsp
      refine ⟨b, o, rfl, ?_, fun i y hy => ?_⟩
      · simp only [Nat.zero_mul, addr_add] at h0
        exact cell_lt h0
      · obtain ⟨hi', e⟩ := List.getElem?_eq_some_iff.1 hy
        simp only [List.length_ofFn] at hi'
        have e2 : g ⟨i, hi'⟩ = y := by rw [← e]; simp
        obtain ⟨⟨cs, hR, hcell⟩, _⟩ := hg ⟨i, hi'⟩
        refine ⟨cs, by rw [← e2]; exact hR, fun j u hj => ?_⟩
        have := hcell j u hj
        simpa only [addr_add] using this
    · intro y hy
      obtain ⟨i, rfl⟩ := List.mem_ofFn.1 hy
      exact (hg i).2.1
    · have := bulk_ofFn bk len g D fun i => (hg i).2.2
      simp only [Rows.uptoBulk]
      omega
end

/-! ### The structs -/
section
variable {H : Type} {enc : TypeId × Value → H} {w : World} {sp : Nat → Bool} {held : Bool}
theorem cellsInt : Try.prog.cellsOf 3 = 1 := by kernel_rfl
set_option maxRecDepth 100000 in
theorem open_V {fuel : Nat} {cs : List Value} {x : DataW H × List MemPlace} (h : DataW.trod enc Try.prog w 0 sp held fuel 45 cs = some x) :
    ∃ a, rV.R w (upto w.heap.size) cs a ∧ (I64 a.k ∧ I64 a.n) ∧ 1 ≤ Rows.uptoBulk x.1 := by
  obtain ⟨xs, n, _, hx, hlen, hxl, hf⟩ := DataW.trod_struct Try.underlying45 h
  have h2 : cs.length = 2 := hlen.trans (by kernel_rfl)
  have h3 : xs.length = 2 := hxl
  match cs, h2, xs, h3 with
  | [c0, c1], _, [y0, y1], _ =>
    have f0 : DataW.trod enc Try.prog w 0 sp held n 3 [c0] = some y0 := by simpa [cellsInt] using hf 0 _ rfl
    have f1 : DataW.trod enc Try.prog w 0 sp held n 3 [c1] = some y1 := by simpa [cellsInt] using hf 1 _ rfl
    obtain ⟨k, e0, -, w0⟩ := DataW.trod_int Try.underlying3 f0
    obtain ⟨m, e1, -, w1⟩ := DataW.trod_int Try.underlying3 f1
    simp only [List.cons.injEq, and_true] at e0 e1
    subst e0 e1
    exact ⟨⟨k, m⟩, rfl, ⟨I64.of w0, I64.of w1⟩, one_le_bulk _⟩
theorem sum_ones {γ : Type} (l : List γ) : (l.map fun _ => 1).sum = l.length := by
  induction l with
  | nil => rfl
  | cons x l ih => simp only [List.map_cons, List.sum_cons, ih, List.length_cons]; omega
def okV (v : V) : Prop := I64 v.k ∧ I64 v.n
theorem open_Vs {fuel : Nat} {v : Value} {x : DataW H × List MemPlace} (h : DataW.trod enc Try.prog w 0 sp held fuel 58 [v] = some x) :
    ∃ l : List V, SL rV w (upto w.heap.size) v l ∧ (∀ a ∈ l, okV a) ∧ l.length + 1 ≤ Rows.uptoBulk x.1 := by
  obtain ⟨l, h1, h2, h3⟩ := open_SL (r := rV) (ok := okV) (bk := fun _ => 1) Try.underlying58 (by kernel_rfl) (fun _ _ _ h => open_V h) h
  rw [sum_ones] at h3
  exact ⟨l, h1, h2, h3⟩
def okOb (o : Ob) : Prop := I64 o.cls ∧ ∀ v ∈ o.slots, okV v
set_option maxRecDepth 100000 in
theorem open_Ob {fuel : Nat} {cs : List Value} {x : DataW H × List MemPlace} (h : DataW.trod enc Try.prog w 0 sp held fuel 60 cs = some x) :
    ∃ a, rOb.R w (upto w.heap.size) cs a ∧ okOb a ∧ a.slots.length + 1 ≤ Rows.uptoBulk x.1 := by
  obtain ⟨xs, n, _, hx, hlen, hxl, hf⟩ := DataW.trod_struct Try.underlying60 h
  have h2 : cs.length = 2 := hlen.trans (by kernel_rfl)
  have h3 : xs.length = 2 := hxl
  have hcs : Try.prog.cellsOf 58 = 1 := by kernel_rfl
  match cs, h2, xs, h3 with
  | [c0, c1], _, [y0, y1], _ =>
    have f0 : DataW.trod enc Try.prog w 0 sp held n 3 [c0] = some y0 := by simpa [cellsInt] using hf 0 _ rfl
    have f1 : DataW.trod enc Try.prog w 0 sp held n 58 [c1] = some y1 := by simpa [hcs] using hf 1 _ rfl
    obtain ⟨k, e0, -, w0⟩ := DataW.trod_int Try.underlying3 f0
    obtain ⟨l, hl, hok, hbk⟩ := open_Vs f1
    simp only [List.cons.injEq, and_true] at e0
    subst e0 hx
    refine ⟨⟨k, l⟩, ⟨c1, rfl, hl⟩, ⟨I64.of w0, hok⟩, ?_⟩
    simp only [List.map_cons, List.map_nil, Rows.uptoBulk, Rows.uptoBulkAll]
    omega
theorem open_Obs {fuel : Nat} {v : Value} {x : DataW H × List MemPlace} (h : DataW.trod enc Try.prog w 0 sp held fuel 43 [v] = some x) :
    ∃ l : List Ob, SL rOb w (upto w.heap.size) v l ∧ (∀ a ∈ l, okOb a) ∧ (l.map fun o => o.slots.length + 1).sum + 1 ≤ Rows.uptoBulk x.1 :=
  open_SL (r := rOb) (ok := okOb) (bk := fun o => o.slots.length + 1) Try.underlying43 (by kernel_rfl) (fun _ _ _ h => open_Ob h) h
/-- what a sum of lengths bounds -/
theorem sum_mem {γ : Type} (f : γ → Nat) {l : List γ} {a : γ} (h : a ∈ l) : f a ≤ (l.map f).sum := by
  induction l with
  | nil => cases h
  | cons x l ih =>
    simp only [List.map_cons, List.sum_cons]
    rcases List.mem_cons.1 h with e | e
    · subst e; omega
    · have := ih e; omega
theorem sum_length {γ : Type} (f : γ → Nat) (h1 : ∀ a, 1 ≤ f a) (l : List γ) : l.length ≤ (l.map f).sum := by
  induction l with
  | nil => simp
  | cons x l ih => have := h1 x; simp only [List.map_cons, List.sum_cons, List.length_cons]; omega
end
end Go.Proofs.Ytioalgofaiideaa
