/- What append and make do to rows of data that a call has made itself. No program in sight: the element's type is told by 'Elem'. -/
import Derived.Test.YtioalgofaiideaaMem
namespace Go.Proofs.Ytioalgofaiideaa
open Go.RowKit

theorem addr_add (b o j : Nat) : (⟨b, o, none⟩ : Addr).add j = ⟨b, o + j, none⟩ := by
  unfold Addr.add
  by_cases h : j = 0 <;> simp [h]

/-- a slice's type, its element's type, so many cells and bytes each -/
structure Elem (P : Program) (t e : TypeId) (size bytes : Nat) : Prop where
  ht : P.underlying t = some (.slice e)
  hi : ∃ i z, P.info? e = some i ∧ i.zero = some z ∧ i.size = size ∧ i.bytes = bytes ∧ z.cells.size = size

theorem Elem.of {P : Program} {t e : TypeId} {size bytes : Nat} {z : Value} (ht : P.underlying t = some (.slice e)) (hz : z.cells.size = size)
    (h : (P.info? e).map (fun i => (i.zero, i.size, i.bytes)) = some (some z, size, bytes)) : Elem P t e size bytes := by
  refine ⟨ht, ?_⟩
  cases hi : P.info? e with
  | none => rw [hi] at h; simp at h
  | some i =>
    rw [hi] at h
    simp only [Option.map_some, Option.some.injEq, Prod.mk.injEq] at h
    exact ⟨i, z, rfl, h.1, h.2.1, h.2.2, hz⟩

theorem run_make_of {P : Program} {t e : TypeId} {size bytes : Nat} {z : Value} (ht : P.underlying t = some (.slice e))
    (h : (P.info? e).map (fun i => (i.zero, i.size, i.bytes)) = some (some z, size, bytes)) (m : Nat) (hm : Fits (m * bytes)) (hb : 0 < bytes) (W : World) :
    (Instr.makeSlice t (.int .i64 m) (.int .i64 m)).run P W = .ok (.slice (some ⟨W.heap.size, 0, none⟩) m m) (W.alloc (.cells (madeCells z.cells (m * size)) e)) := by
  cases hi : P.info? e with
  | none => rw [hi] at h; simp at h
  | some i =>
    rw [hi] at h
    simp only [Option.map_some, Option.some.injEq, Prod.mk.injEq] at h
    obtain ⟨h1, h2, h3⟩ := h
    have hs := hm.small hb
    have hr := run_make (P := P) W t e i z ht hi h1 .i64 .i64 (m : Int) (m : Int) (by omega) (by omega) (by
      unfold Fits at hm
      have : ((i.bytes * m : Nat) : Int) ≤ 281474976710656 := by rw [h3, Nat.mul_comm]; omega
      rwa [Int.natCast_mul] at this) (by omega)
    rw [h2] at hr
    simpa using hr

section
variable {α : Type} {r : Rep α} {P : Program} {w : World} {S : Sup} {v : Value} {as : List α} {t e : TypeId} {bytes base : Nat}

theorem OL.append_run (E : Elem P t e r.size bytes) (h : OL r w e base S v as) (hbase : base ≤ w.heap.size) (ty : TypeId) (ad : Addr) (c : Nat) (bs : List α) (css2 : List (List Value))
    (hl2 : css2.length = bs.length) (hR2 : ∀ (i : Nat) (cs : List Value) (a : α), css2[i]? = some cs → bs[i]? = some a → r.R w S cs a)
    (hcell : ∀ (j : Nat) (u : Value), css2.flatten[j]? = some u → w.cell? (ad.add j) = some u) (hlen : as.length + bs.length ≤ maxLen) (hbytes : Fits ((as.length + bs.length) * bytes)) :
    ∃ v' w', (Builtin.append_ #[t, t] ty #[v, .slice (some ad) bs.length c]).run P w = .ok v' w' ∧ OL r w' e base S v' (as ++ bs) ∧ w.grownBy w' v.ownBlock ∧ (v'.ownBlock = v.ownBlock ∨ v'.ownBlock = some w.heap.size) := by
  obtain ⟨css, h1, h2, h3, h4⟩ := h
  obtain ⟨ht, i, z, hi, hz, hs, hb, hzs⟩ := E
  have hl := length_flatten_block r.size css2 (OL.lens hl2 hR2)
  have h1c : ∀ u ∈ css2.flatten, u.oneCell' = true := by
    intro u hu
    obtain ⟨cs, hcs, hu⟩ := List.mem_flatten.1 hu
    obtain ⟨k, hk, rfl⟩ := List.getElem_of_mem hcs
    exact r.one (hR2 k css2[k] bs[k] (List.getElem?_eq_getElem hk) (List.getElem?_eq_getElem (by omega))) u hu
  obtain ⟨v', w', hrun, hown, hg, _, hat⟩ := run_append_own_at (P := P) w base t ty e i z r.size bytes ht hi hz hs hb hzs r.pos v as.length css.flatten h3 ad bs.length c css2.flatten (by rw [hl, hl2]) hcell h1c hlen hbytes hbase
  have hag : Agree S w w' := fun b hb => hg.block b (h4 b hb).1 (fun e => (h4 b hb).2 e.symm)
  refine ⟨v', w', hrun, ⟨css ++ css2, by simp [h1, hl2], ?_, ?_, ?_⟩, hg, hat⟩
  · intro k cs a hk ha
    by_cases hlt : k < css.length
    · rw [List.getElem?_append_left hlt] at hk
      rw [List.getElem?_append_left (by omega)] at ha
      exact r.mono (h2 k cs a hk ha) hag fun _ h => h
    · rw [List.getElem?_append_right (by omega)] at hk
      rw [List.getElem?_append_right (by omega), ← h1] at ha
      exact r.mono (hR2 _ cs a hk ha) hag fun _ h => h
  · simpa using hown
  · intro b hb
    refine ⟨Nat.lt_of_lt_of_le (h4 b hb).1 hg.size, ?_⟩
    rcases hat with e | e
    · rw [e]; exact (h4 b hb).2
    · rw [e]
      have := (h4 b hb).1
      simp only [ne_eq, Option.some.injEq]
      omega

/-- 'append(out, x)': x's cells lie in a new block of their own -/
theorem OL.push_run (E : Elem P t e r.size bytes) (h : OL r w e base S v as) (hbase : base ≤ w.heap.size) (ty : TypeId) (c : Nat) (a : α) (cs : List Value) (hR : r.R w S cs a)
    (hlen : as.length + 1 ≤ maxLen) (hbytes : Fits ((as.length + 1) * bytes)) :
    ∃ v' w', (Builtin.append_ #[t, t] ty #[v, .slice (some ⟨w.heap.size, 0, none⟩) 1 c]).run P (w.alloc (.cells cs.toArray e)) = .ok v' w' ∧ OL r w' e base S v' (as ++ [a]) ∧ w.grownBy w' v.ownBlock ∧ Below base w w' ∧
      (v'.ownBlock = v.ownBlock ∨ v'.ownBlock = some (w.heap.size + 1)) := by
  have hbl : Below w.heap.size w (w.alloc (.cells cs.toArray e)) := (Below.refl _ _).alloc (Nat.le_refl _) _
  have h' := h.below hbl
  have h1 : ∀ (k : Nat) (cs' : List Value) (a' : α), [cs][k]? = some cs' → [a][k]? = some a' → r.R (w.alloc (.cells cs.toArray e)) S cs' a' := by
    intro k cs' a' hk ha
    match k, hk, ha with
    | 0, hk, ha =>
      simp at hk ha
      subst hk ha
      exact r.mono hR (.of_below hbl h.sup_lt) fun _ h => h
    | k + 1, hk, _ => simp at hk
  have h2 : ∀ (j : Nat) (u : Value), [cs].flatten[j]? = some u → (w.alloc (.cells cs.toArray e)).cell? ((⟨w.heap.size, 0, none⟩ : Addr).add j) = some u := by
    intro j u hj
    have e : (w.alloc (.cells cs.toArray e)).heap[w.heap.size]? = some (.cells cs.toArray e (0, 0)) := by
      show (w.heap.push _)[w.heap.size]? = _
      simp
    rw [addr_add, Nat.zero_add]
    unfold World.cell?
    simp only [List.flatten_cons, List.flatten_nil, List.append_nil] at hj
    rw [e]
    simpa using hj
  obtain ⟨v', w', hrun, ho, hg, hat⟩ := h'.append_run E (by simp; omega) ty ⟨w.heap.size, 0, none⟩ c [a] [cs] rfl h1 h2 hlen hbytes
  have hg' : w.grownBy w' v.ownBlock := (World.grownBy_alloc w _ _).trans hg
  exact ⟨v', w', hrun, ho, hg', (Below.refl _ _).grown hg' hbase fun k hk => (h.lt k hk).1, by simpa using hat⟩

theorem wp_push {o : Oper} {a : Act} {K : Act → World → Prop} {Q : Exit → Act → World → Prop} (s x : Operand) (ho : o.op = .call { callee := .builtin .append, args := #[s, x], argTypes := #[t, t] })
    (E : Elem P t e r.size bytes) (hs : a.eval s = v) (h : OL r w e base S v as) (hbase : base ≤ w.heap.size) (b : α) (cs : List Value) {N : Nat} (hx : a.eval x = .slice (some ⟨N, 0, none⟩) 1 1) (hN : w.heap.size = N) (hR : r.R w S cs b)
    (hlen : as.length + 1 ≤ maxLen) (hbytes : Fits ((as.length + 1) * bytes))
    (hK : ∀ v' w', OL r w' e base S v' (as ++ [b]) → w.grownBy w' v.ownBlock → Below base w w' → (v'.ownBlock = v.ownBlock ∨ v'.ownBlock = some (w.heap.size + 1)) → K (a.put o.dst v') w') :
    o.wp P a (w.alloc (.cells cs.toArray e)) K Q := by
  subst hN
  obtain ⟨v', w', hrun, h2, h3, h4, h5⟩ := h.push_run E hbase o.type 1 b cs hR hlen hbytes
  unfold Oper.wp execOp
  simp only [ho, resolve, invoke, builtin, Sem.run_bind, Sem.run_pure, Result.andThen_ok, List.map_toArray, List.map_cons, List.map_nil, hs, hx, hrun]
  exact hK v' w' h2 h3 h4 h5

/-- AT THE OPERATION 'append(out, x)' -/
theorem wpList_push {ops : Array Oper} {rest : List Oper} {o : Oper} {a : Act} {Q : Exit → Act → World → Prop} (hgd : o.guard = none) (s x : Operand) (ho : o.op = .call { callee := .builtin .append, args := #[s, x], argTypes := #[t, t] })
    (E : Elem P t e r.size bytes) (hs : a.eval s = v) (h : OL r w e base S v as) (hbase : base ≤ w.heap.size) (b : α) (cs : List Value) {N : Nat} (hx : a.eval x = .slice (some ⟨N, 0, none⟩) 1 1) (hN : w.heap.size = N) (hR : r.R w S cs b)
    (hlen : as.length + 1 ≤ maxLen) (hbytes : Fits ((as.length + 1) * bytes))
    (hK : ∀ v' w', OL r w' e base S v' (as ++ [b]) → w.grownBy w' v.ownBlock → Below base w w' → (v'.ownBlock = v.ownBlock ∨ v'.ownBlock = some (w.heap.size + 1)) → wpList P ops Q rest (a.put o.dst v') w') :
    wpList P ops Q (o :: rest) a (w.alloc (.cells cs.toArray e)) :=
  wpList_plain hgd fun _ hk => wp_push s x ho E hs h hbase b cs hx hN hR hlen hbytes fun v' w' h2 h3 h4 h5 => hk _ _ (hK v' w' h2 h3 h4 h5)

/-- the same in a region that draws its order ('go_region_law') -/
theorem step_push {ops : Array Oper} {o : Oper} {a : Act} {K : Act → World → Prop} {Q : Exit → Act → World → Prop} {X : Prop} (hgd : o.guard = none) (s x : Operand) (ho : o.op = .call { callee := .builtin .append, args := #[s, x], argTypes := #[t, t] })
    (E : Elem P t e r.size bytes) (hs : a.eval s = v) (h : OL r w e base S v as) (hbase : base ≤ w.heap.size) (b : α) (cs : List Value) {N : Nat} (hx : a.eval x = .slice (some ⟨N, 0, none⟩) 1 1) (hN : w.heap.size = N) (hR : r.R w S cs b)
    (hlen : as.length + 1 ≤ maxLen) (hbytes : Fits ((as.length + 1) * bytes))
    (hK : ∀ v' w', OL r w' e base S v' (as ++ [b]) → w.grownBy w' v.ownBlock → Below base w w' → (v'.ownBlock = v.ownBlock ∨ v'.ownBlock = some (w.heap.size + 1)) → K (a.put o.dst v') w') :
    if Region.wanted o (yielded ops a.tmps) = true then Oper.wp P o a (w.alloc (.cells cs.toArray e)) K Q else X := by
  have hw : Region.wanted o (yielded ops a.tmps) = true := by simp [Region.wanted, hgd]
  rw [if_pos hw]
  exact wp_push s x ho E hs h hbase b cs hx hN hR hlen hbytes hK

/-- 'append(out, x)', x's block laid some time ago -/
theorem OL.push_at_run (E : Elem P t e r.size bytes) (h : OL r w e base S v as) (hbase : base ≤ w.heap.size) (ty : TypeId) (c : Nat) (a : α) (cs : List Value) (hR : r.R w S cs a) {g : Nat}
    (hc : ∀ (j : Nat) (u : Value), cs[j]? = some u → w.cell? ⟨g, j, none⟩ = some u) (hlen : as.length + 1 ≤ maxLen) (hbytes : Fits ((as.length + 1) * bytes)) :
    ∃ v' w', (Builtin.append_ #[t, t] ty #[v, .slice (some ⟨g, 0, none⟩) 1 c]).run P w = .ok v' w' ∧ OL r w' e base S v' (as ++ [a]) ∧ w.grownBy w' v.ownBlock ∧ Below base w w' ∧
      (v'.ownBlock = v.ownBlock ∨ v'.ownBlock = some w.heap.size) := by
  have h1 : ∀ (k : Nat) (cs' : List Value) (a' : α), [cs][k]? = some cs' → [a][k]? = some a' → r.R w S cs' a' := by
    intro k cs' a' hk ha
    match k, hk, ha with
    | 0, hk, ha =>
      simp at hk ha
      subst hk ha
      exact hR
    | k + 1, hk, _ => simp at hk
  obtain ⟨v', w', hrun, ho, hg, hat⟩ := h.append_run E hbase ty ⟨g, 0, none⟩ c [a] [cs] rfl h1 (fun j u hj => by rw [addr_add, Nat.zero_add]; exact hc j u (by simpa using hj)) hlen hbytes
  exact ⟨v', w', hrun, ho, hg, (Below.refl _ _).grown hg hbase fun k hk => (h.lt k hk).1, hat⟩
theorem wp_push_at {o : Oper} {a : Act} {K : Act → World → Prop} {Q : Exit → Act → World → Prop} (s x : Operand) (ho : o.op = .call { callee := .builtin .append, args := #[s, x], argTypes := #[t, t] })
    (E : Elem P t e r.size bytes) (hs : a.eval s = v) (h : OL r w e base S v as) (hbase : base ≤ w.heap.size) (b : α) (cs : List Value) {g : Nat} (hx : a.eval x = .slice (some ⟨g, 0, none⟩) 1 1) (hR : r.R w S cs b)
    (hc : ∀ (j : Nat) (u : Value), cs[j]? = some u → w.cell? ⟨g, j, none⟩ = some u) (hlen : as.length + 1 ≤ maxLen) (hbytes : Fits ((as.length + 1) * bytes))
    (hK : ∀ v' w', OL r w' e base S v' (as ++ [b]) → w.grownBy w' v.ownBlock → Below base w w' → (v'.ownBlock = v.ownBlock ∨ v'.ownBlock = some w.heap.size) → K (a.put o.dst v') w') :
    o.wp P a w K Q := by
  obtain ⟨v', w', hrun, h2, h3, h4, h5⟩ := h.push_at_run E hbase o.type 1 b cs hR hc hlen hbytes
  unfold Oper.wp execOp
  simp only [ho, resolve, invoke, builtin, Sem.run_bind, Sem.run_pure, Result.andThen_ok, List.map_toArray, List.map_cons, List.map_nil, hs, hx, hrun]
  exact hK v' w' h2 h3 h4 h5
theorem step_push_at {ops : Array Oper} {o : Oper} {a : Act} {K : Act → World → Prop} {Q : Exit → Act → World → Prop} {X : Prop} (hgd : o.guard = none) (s x : Operand) (ho : o.op = .call { callee := .builtin .append, args := #[s, x], argTypes := #[t, t] })
    (E : Elem P t e r.size bytes) (hs : a.eval s = v) (h : OL r w e base S v as) (hbase : base ≤ w.heap.size) (b : α) (cs : List Value) {g : Nat} (hx : a.eval x = .slice (some ⟨g, 0, none⟩) 1 1) (hR : r.R w S cs b)
    (hc : ∀ (j : Nat) (u : Value), cs[j]? = some u → w.cell? ⟨g, j, none⟩ = some u) (hlen : as.length + 1 ≤ maxLen) (hbytes : Fits ((as.length + 1) * bytes))
    (hK : ∀ v' w', OL r w' e base S v' (as ++ [b]) → w.grownBy w' v.ownBlock → Below base w w' → (v'.ownBlock = v.ownBlock ∨ v'.ownBlock = some w.heap.size) → K (a.put o.dst v') w') :
    if Region.wanted o (yielded ops a.tmps) = true then Oper.wp P o a w K Q else X := by
  have hw : Region.wanted o (yielded ops a.tmps) = true := by simp [Region.wanted, hgd]
  rw [if_pos hw]
  exact wp_push_at s x ho E hs h hbase b cs hx hR hc hlen hbytes hK

/-! ### 'append(out, xs...)' -/
theorem SL.cells_ (h : SL r w S v as) : ∃ (A : Option Addr) (c : Nat) (css : List (List Value)), v = .slice A as.length c ∧ css.length = as.length ∧ (∀ (i : Nat) (cs : List Value) (a : α), css[i]? = some cs → as[i]? = some a → r.R w S cs a) ∧
    (0 < as.length → ∃ ad : Addr, A = some ad ∧ S ad.block ∧ ∀ (j : Nat) (u : Value), css.flatten[j]? = some u → w.cell? (ad.add j) = some u) := by
  obtain ⟨A, c, hv, h1, h2, h3⟩ := h
  rcases Nat.eq_zero_or_pos as.length with h0 | hp
  · exact ⟨A, c, [], hv, by simp [h0], fun i cs a hi => by simp at hi, fun hp => absurd hp (by omega)⟩
  · obtain ⟨b, o, hA, hb, hc⟩ := h3 hp
    have hall : ∀ i : Fin as.length, ∃ cs, r.R w S cs as[i] ∧ ∀ (j : Nat) (u : Value), cs[j]? = some u → w.cell? ⟨b, o + i * r.size + j, none⟩ = some u := fun i => hc i _ (List.getElem?_eq_getElem i.2)
    let f : Fin as.length → List Value := fun i => (hall i).choose
    have hf := fun i => (hall i).choose_spec
    have hlen : (List.ofFn f).length = as.length := by simp
    have hat : ∀ (i : Nat) (cs : List Value), (List.ofFn f)[i]? = some cs → ∃ hi : i < as.length, cs = f ⟨i, hi⟩ := by
      intro i cs hi
      obtain ⟨hi', e⟩ := List.getElem?_eq_some_iff.1 hi
      rw [hlen] at hi'
      exact ⟨hi', by rw [← e]; simp⟩
    have hRs : ∀ (i : Nat) (cs : List Value) (a : α), (List.ofFn f)[i]? = some cs → as[i]? = some a → r.R w S cs a := by
      intro i cs a hi ha
      obtain ⟨hi', rfl⟩ := hat i cs hi
      have e : as[i] = a := by
        rw [List.getElem?_eq_getElem hi'] at ha
        simpa using ha
      rw [← e]
      exact (hf ⟨i, hi'⟩).1
    refine ⟨A, c, List.ofFn f, hv, hlen, hRs, fun _ => ⟨⟨b, o, none⟩, hA, hb, fun j u hj => ?_⟩⟩
    have hlens := OL.lens hlen hRs
    have hjl : j < as.length * r.size := by
      have := (List.getElem?_eq_some_iff.1 hj).1
      rwa [length_flatten_block r.size _ hlens, hlen] at this
    have hpos := r.pos
    have hd : j / r.size < as.length := Nat.div_lt_of_lt_mul (by rwa [Nat.mul_comm] at hjl)
    have hm : j % r.size < r.size := Nat.mod_lt _ hpos
    have hfl := getElem?_flatten_block r.size (List.ofFn f) hlens (j / r.size) (j % r.size) (f ⟨j / r.size, hd⟩) (by rw [List.getElem?_eq_getElem (by rw [hlen]; exact hd)]; simp) hm
    have ej : j / r.size * r.size + j % r.size = j := by rw [Nat.mul_comm]; exact Nat.div_add_mod j r.size
    rw [ej, hj] at hfl
    have := (hf ⟨j / r.size, hd⟩).2 (j % r.size) u hfl.symm
    rw [addr_add, ← this]
    simp only [Nat.add_assoc, ej]

theorem run_append_none {n : Nat} (E : Elem P t e r.size bytes) (h : OL r w e base S v as) (ty : TypeId) (c : Nat) (hn : n = 0) : (Builtin.append_ #[t, t] ty #[v, .slice none n c]).run P w = .ok v w := by
  obtain ⟨css, h1, h2, h3, h4⟩ := h
  obtain ⟨ht, i, z, hi, hz, hs, hb, hzs⟩ := E
  subst hn
  rcases h3.2 with ⟨rfl, hn⟩ | ⟨g, cap, cur, rfl, _, _, hnc, _⟩
  · simp [Builtin.append_, run_underlying ht, sizeOf, typeInfo, hi, Builtin.lenOf, Builtin.firstCells]
  · simp [Builtin.append_, run_underlying ht, sizeOf, typeInfo, hi, Builtin.lenOf, Builtin.firstCells, hnc, storeCells]

theorem OL.append_SL_run (E : Elem P t e r.size bytes) (h : OL r w e base S v as) (hbase : base ≤ w.heap.size) (ty : TypeId) {x : Value} {bs : List α} (hx : SL r w S x bs)
    (hlen : as.length + bs.length ≤ maxLen) (hbytes : Fits ((as.length + bs.length) * bytes)) :
    ∃ v' w', (Builtin.append_ #[t, t] ty #[v, x]).run P w = .ok v' w' ∧ OL r w' e base S v' (as ++ bs) ∧ w.grownBy w' v.ownBlock ∧ Below base w w' ∧ (v'.ownBlock = v.ownBlock ∨ v'.ownBlock = some w.heap.size) := by
  obtain ⟨A, c, css2, rfl, hl2, hR2, hcell⟩ := hx.cells_
  have hbl : ∀ w', w.grownBy w' v.ownBlock → Below base w w' := fun w' hg => (Below.refl _ _).grown hg hbase fun k hk => (h.lt k hk).1
  rcases A with _ | ad
  · have h0 : bs.length = 0 := by
      rcases Nat.eq_zero_or_pos bs.length with h0 | h0
      · exact h0
      · obtain ⟨ad, h, _⟩ := hcell h0
        cases h
    have : bs = [] := List.eq_nil_of_length_eq_zero h0
    subst this
    exact ⟨v, w, run_append_none E h ty c rfl, by simpa using h, World.grownBy.refl w _, Below.refl _ _, .inl rfl⟩
  · have h0 : ∀ (j : Nat) (u : Value), css2.flatten[j]? = some u → w.cell? (ad.add j) = some u := by
      intro j u hj
      have hp : 0 < bs.length := by
        rcases Nat.eq_zero_or_pos bs.length with h0 | h0
        · have : css2 = [] := List.eq_nil_of_length_eq_zero (by omega)
          subst this
          simp at hj
        · exact h0
      obtain ⟨ad', h, _, hc⟩ := hcell hp
      injection h with h
      subst h
      exact hc j u hj
    obtain ⟨v', w', h1, h2, h3, h4⟩ := h.append_run E hbase ty ad c bs css2 hl2 hR2 h0 hlen hbytes
    exact ⟨v', w', h1, h2, h3, hbl _ h3, h4⟩

theorem wpList_append_SL {ops : Array Oper} {rest : List Oper} {o : Oper} {a : Act} {Q : Exit → Act → World → Prop} (hgd : o.guard = none) (s x : Operand) (ho : o.op = .call { callee := .builtin .append, args := #[s, x], argTypes := #[t, t] })
    (E : Elem P t e r.size bytes) (hs : a.eval s = v) (h : OL r w e base S v as) (hbase : base ≤ w.heap.size) {xv : Value} {bs : List α} (hx : a.eval x = xv) (hX : SL r w S xv bs)
    (hlen : as.length + bs.length ≤ maxLen) (hbytes : Fits ((as.length + bs.length) * bytes))
    (hK : ∀ v' w', OL r w' e base S v' (as ++ bs) → w.grownBy w' v.ownBlock → Below base w w' → (v'.ownBlock = v.ownBlock ∨ v'.ownBlock = some w.heap.size) → wpList P ops Q rest (a.put o.dst v') w') :
    wpList P ops Q (o :: rest) a w := by
  refine wpList_plain hgd fun K hk => ?_
  obtain ⟨v', w', hrun, h2, h3, h4, h5⟩ := h.append_SL_run E hbase o.type hX hlen hbytes
  unfold Oper.wp execOp
  simp only [ho, resolve, invoke, builtin, Sem.run_bind, Sem.run_pure, Result.andThen_ok, List.map_toArray, List.map_cons, List.map_nil, hs, hx, hrun]
  exact hk _ _ (hK v' w' h2 h3 h4 h5)
end
end Go.Proofs.Ytioalgofaiideaa
