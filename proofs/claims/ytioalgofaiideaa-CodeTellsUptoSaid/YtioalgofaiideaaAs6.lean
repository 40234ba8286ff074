/- Operations over readings, the sixth part: rows made, and appended to; what is put into a row is frozen. No program in sight; types are told by the table. -/
import Derived.Test.YtioalgofaiideaaAs5
namespace Go.Proofs.Ytioalgofaiideaa
open Go.RowKit
set_option linter.unusedVariables false

/-- rows among cells are frozen: they are slices from here on -/
def fzs (os : Os) : List AV → Option (List AV × Os)
  | [] => some ([], [])
  | .own id :: l => match lk os id with
    | some (.row sz ls e) => match fzs os l with
      | some (r, g) => some (.sl sz ls :: r, (id, .row sz ls e) :: g)
      | none => none
    | _ => none
  | a :: l => match a.ids with
    | [] => match fzs os l with
      | some (r, g) => some (a :: r, g)
      | none => none
    | _ => none
structure FzOk (os : Os) (as r : List AV) (g : Os) : Prop where
  sub : ∀ id o, lk g id = some o → lk os id = some o
  ids : ∀ id o, lk g id = some o → o.ids = []
  len : r.length = as.length
  one : as.all oneA = true → r.all oneA = true
  run : ∀ (c : Ctx) (w : World) (us : List Value), HOk c w g → Rds c w us as → Rfs (c.fz g).Φ w us r
theorem HOk.tail {c : Ctx} {w : World} {os g : Os} {id : Nat} {o : Obj} (h : HOk c w ((id, o) :: g)) (h1 : lk os id = some o) (hs : ∀ i x, lk g i = some x → lk os i = some x) : HOk c w g :=
  h.sub fun i x hl => by
    rw [lk_cons]
    split
    · rename_i e
      subst e
      rw [← h1, hs _ _ hl]
    · exact hl
theorem fzΦ_tail {c : Ctx} {os g : Os} {id : Nat} {o : Obj} (h1 : lk os id = some o) (hs : ∀ i x, lk g i = some x → lk os i = some x) : ∀ b, fzΦ c g b → fzΦ c ((id, o) :: g) b := by
  rintro b (hb | ⟨i, x, h, hf⟩)
  · exact .inl hb
  · refine .inr ⟨i, x, ?_, hf⟩
    rw [lk_cons]
    split
    · rename_i e
      subst e
      rw [← h1, hs _ _ h]
    · exact h
theorem fzs_ok {os : Os} : ∀ {as r : List AV} {g : Os}, fzs os as = some (r, g) → FzOk os as r g := by
  intro as
  fun_induction fzs os as with
  | case1 => intro r g h; cases h; exact ⟨fun _ _ h => (by cases h), fun _ _ h => (by cases h), rfl, fun h => h, fun c w us _ h => by cases h; exact .nil⟩
  | case2 id l sz ls e hid r' g' hr ih =>
    intro r g h
    cases h
    have H := ih hr
    refine ⟨fun i o h => ?_, fun i o h => ?_, by simp [H.len], fun h => ?_, fun c w us hok h => ?_⟩
    · rw [lk_cons] at h
      split at h
      · rename_i e1; subst e1; cases h; exact hid
      · exact H.sub i o h
    · rw [lk_cons] at h
      split at h
      · cases h; rfl
      · exact H.ids i o h
    · simp only [List.all_cons, Bool.and_eq_true] at h ⊢
      exact ⟨rfl, H.one h.2⟩
    · cases h with | cons h t =>
        have hok' := hok.tail hid H.sub
        have hrow := hok.rep id _ (lk_self _ _ _)
        obtain ⟨css, q1, q2, q3⟩ := hrow
        obtain ⟨A, n, cap, e1, e2, _⟩ := h.own_
        refine .cons ?_ ((H.run c w _ hok' t).mono (fun _ _ => rfl) (fzΦ_tail hid H.sub))
        rw [e1, ← e2]
        exact q1.rf q2 q3 (fun b hb => .inl hb) fun b hb => .inr ⟨id, _, lk_self _ _ _, hb⟩
  | case3 id l sz ls e hid hr ih => intro r g h; cases h
  | case4 id l hid => intro r g h; cases h
  | case5 a l hne hids r' g' hr ih =>
    intro r g h
    cases h
    have H := ih hr
    refine ⟨H.sub, H.ids, by simp [H.len], fun h => ?_, fun c w us hok h => ?_⟩
    · simp only [List.all_cons, Bool.and_eq_true] at h ⊢
      exact ⟨h.1, H.one h.2⟩
    · cases h with | cons h t => exact .cons ((h.rf hids).mono (fun _ _ => rfl) fun _ h => .inl h) (H.run c w _ hok t)
  | case6 a l hne hids hr ih => intro r g h; cases h
  | case7 a l hne hids => intro r g h; cases h

theorem Post.widen {c c' : Ctx} {w w' : World} {g need upd : Os} {news : List Nat} (h : Post c w c' w' g upd news) (hs : ∀ id o, lk g id = some o → lk need id = some o) : Post c w c' w' need upd news := by
  have ht : ∀ b, Touch c g upd b → Touch c need upd b := fun b ⟨id, o, h1, h2, h3⟩ => ⟨id, o, hs id o h1, h2, h3⟩
  exact ⟨h.wos, h.tape, h.output, h.size, h.phi, fun b hb => (h.phiNew b hb).imp (fun h => h) (.imp (fun h => h) (ht b)), fun b hb hn => h.keep b hb fun h => hn (ht b h), h.ctx, h.hok, fun id o b hl hf => (h.feet id o b hl hf).imp (fun h => h) (ht b)⟩

/-- freeze, then lay a new row -/
theorem Post.fzRow {c : Ctx} {w : World} {g : Os} (hok : HOk c w g) (hids : ∀ id o, lk g id = some o → o.ids = []) (d : Nat) {sz : Nat} {css : List (List Value)} {ls : List (List AV)} (e : TypeId) (hl : css.length = ls.length)
    (hr : ∀ (i : Nat) (us : List Value) (cs : List AV), css[i]? = some us → ls[i]? = some cs → Rfs (c.fz g).Φ w us cs) (hlen : ∀ us ∈ css, us.length = sz) (h1 : ∀ us ∈ css, ∀ u ∈ us, u.oneCell' = true) (hm : css.length ≤ maxLen) :
    Post c w ((c.fz g).setHd d (.slice (some ⟨w.heap.size, 0, none⟩) css.length css.length)) (w.alloc (.cells css.flatten.toArray e)) g ((d, .row sz ls e) :: goneOf g) [d] := by
  have p1 := Post.freeze hok
  have p2 := Post.newRow (c := c.fz g) (w := w) (fun b hb => p1.hok.phi b hb) d e hl hr hlen h1 hm
  have := Post.trans hok p1 p2 (fun _ h => (by cases h)) (fun id hid => (by simp at hid; subst hid; rw [lk_self]; rfl)) (fun _ _ h => (by cases h)) (fun _ _ _ _ _ h => (by cases h)) (fun id o h _ x _ => by
    rw [lk_append] at h
    cases hg : lk (goneOf g) id with
    | some y =>
      rw [hg] at h
      simp at h
      subst h
      rw [lk_gone hg]
      simp [Obj.ids]
    | none =>
      rw [hg] at h
      simp at h
      rw [hids id o h]
      simp)
  simpa using this

section
variable {P : Program} {tab : Tab} {o : Oper} {ev : Ev} {os : Os} {K : Kt}

/-! ### a slice of parts -/
def fillE (os : Os) (sz : Nat) : List (List AV) → List (Nat × AV) → Option (List (List AV) × Os)
  | ls, [] => some (ls, [])
  | ls, (i, a) :: rest => match a.cells? with
    | some vs => match Nat.beq vs.length sz with
      | true => match fzs os vs with
        | some (r, g) => match setN i [r] ls with
          | some ls' => match fillE os sz ls' rest with
            | some (q, g') => some (q, g ++ g')
            | none => none
          | none => none
        | none => none
      | false => none
    | none => none
theorem lk_app_sub {os g g' : Os} (h1 : ∀ id o, lk g id = some o → lk os id = some o) (h2 : ∀ id o, lk g' id = some o → lk os id = some o) : (∀ id o, lk (g ++ g') id = some o → lk os id = some o) ∧ (∀ id o, lk g' id = some o → lk (g ++ g') id = some o) ∧ (∀ id o, lk g id = some o → lk (g ++ g') id = some o) := by
  refine ⟨fun id o h => ?_, fun id o h => ?_, fun id o h => ?_⟩
  · rw [lk_append] at h
    cases hg : lk g id with
    | some x => rw [hg] at h; simp at h; subst h; exact h1 id x hg
    | none => rw [hg] at h; simp at h; exact h2 id o h
  · rw [lk_append]
    cases hg : lk g id with
    | some x =>
      have a := h1 id x hg
      have b := h2 id o h
      rw [a] at b
      simpa using b
    | none => simpa using h
  · rw [lk_append, h]
    rfl
theorem fzΦ_mono {c : Ctx} {g g' : Os} (h : ∀ id o, lk g id = some o → lk g' id = some o) : ∀ b, fzΦ c g b → fzΦ c g' b := by
  rintro b (hb | ⟨i, x, h1, hf⟩)
  · exact .inl hb
  · exact .inr ⟨i, x, h i x h1, hf⟩
structure FillOk (os : Os) (sz : Nat) (ls : List (List AV)) (parts : List (Nat × AV)) (ls' : List (List AV)) (g : Os) : Prop where
  sub : ∀ id o, lk g id = some o → lk os id = some o
  ids : ∀ id o, lk g id = some o → o.ids = []
  len : ls'.length = ls.length
  run : ∀ (c : Ctx) (w : World) (Φ : Nat → Prop) (vparts : List (Nat × Value)) (css : List (List Value)), HOk c w g → (∀ b, fzΦ c g b → Φ b) → vparts.length = parts.length →
    (∀ (k : Nat) (p : Nat × Value) (q : Nat × AV), vparts[k]? = some p → parts[k]? = some q → p.1 = q.1 ∧ Rd c w p.2 q.2) → css.length = ls.length → (∀ us ∈ css, us.length = sz) → (∀ us ∈ css, ∀ u ∈ us, u.oneCell' = true) →
    (∀ (i : Nat) (us : List Value) (cs : List AV), css[i]? = some us → ls[i]? = some cs → Rfs Φ w us cs) →
    ∃ css' : List (List Value), Instr.fill (fun i => some (i * sz, sz)) css.flatten.toArray vparts = some css'.flatten.toArray ∧ css'.length = ls'.length ∧ (∀ us ∈ css', us.length = sz) ∧ (∀ us ∈ css', ∀ u ∈ us, u.oneCell' = true) ∧
      (∀ (i : Nat) (us : List Value) (cs : List AV), css'[i]? = some us → ls'[i]? = some cs → Rfs Φ w us cs)
theorem fillE_ok {os : Os} {sz : Nat} : ∀ {parts : List (Nat × AV)} {ls ls' : List (List AV)} {g : Os}, fillE os sz ls parts = some (ls', g) → FillOk os sz ls parts ls' g
  | [], ls, ls', g, h => by
    cases h
    refine ⟨fun _ _ h => (by cases h), fun _ _ h => (by cases h), rfl, fun c w Φ vparts css _ _ hvl _ hl h1 h2 h3 => ?_⟩
    have : vparts = [] := List.eq_nil_of_length_eq_zero hvl
    subst this
    exact ⟨css, rfl, hl, h1, h2, h3⟩
  | (i, a) :: rest, ls, ls', g, h => by
    unfold fillE at h
    split at h
    · rename_i vs hvs
      split at h
      · rename_i hsz
        have hsz := Nat.eq_of_beq_eq_true hsz
        split at h
        · rename_i r g1 hr
          split at h
          · rename_i ls1 hls1
            split at h
            · rename_i q g2 hq
              cases h
              have F := fzs_ok hr
              have R := fillE_ok hq
              obtain ⟨s1, s2, s3⟩ := lk_app_sub F.sub R.sub
              refine ⟨s1, fun id o h => ?_, by rw [R.len, (setN_len hls1).1], fun c w Φ vparts css hok hΦ hvl hp hl h1 h2 h3 => ?_⟩
              · rw [lk_append] at h
                cases hg : lk g1 id with
                | some x => rw [hg] at h; simp at h; subst h; exact F.ids id x hg
                | none => rw [hg] at h; simp at h; exact R.ids id o h
              · cases vparts with
                | nil => simp at hvl
                | cons pv vrest =>
                  obtain ⟨i', v⟩ := pv
                  obtain ⟨e, hv⟩ := hp 0 _ _ rfl rfl
                  simp only at e hv
                  subst e
                  obtain ⟨rv, h1v⟩ := cells?_rd hv hvs
                  have hfv := F.run c w _ (hok.sub s3) rv
                  have hfv' : Rfs Φ w v.cells.toList r := hfv.mono (fun _ _ => rfl) fun b hb => hΦ b (fzΦ_mono s3 b hb)
                  have hile := (setN_len hls1).2
                  simp only [List.length_cons, List.length_nil] at hile
                  have hil : i' < css.length := by omega
                  have hvlen : v.cells.toList.length = sz := by rw [rv.length]; exact hsz
                  have hset0 : setN 0 v.cells.toList css[i'] = some v.cells.toList := by
                    obtain ⟨x, hx⟩ := setN_ex 0 v.cells.toList css[i'] (by rw [hvlen, h1 _ (List.getElem_mem hil)]; omega)
                    rw [hx]
                    congr 1
                    apply List.ext_getElem?
                    intro j
                    rw [setN_at hx j]
                    by_cases hj : j < v.cells.toList.length
                    · rw [if_pos (by omega)]; simp
                    · rw [if_neg (by omega), List.getElem?_eq_none (by rw [h1 _ (List.getElem_mem hil)]; omega), List.getElem?_eq_none (by omega)]
                  have hblk := setN_block css i' 0 css[i'] v.cells.toList v.cells.toList h1 (List.getElem?_eq_getElem hil) hset0
                  rw [Nat.add_zero] at hblk
                  have hl1 : ls1 = ls.set i' r := by
                    apply List.ext_getElem?
                    intro j
                    rw [setN_at hls1 j, List.getElem?_set]
                    by_cases hj : i' = j
                    · subst hj
                      rw [if_pos (by simp), if_pos rfl, if_pos (by omega)]
                      simp
                    · rw [if_neg (by simp; omega), if_neg hj]
                  obtain ⟨css', q1, q2, q3, q4, q5⟩ := R.run c w Φ vrest (css.set i' v.cells.toList) (hok.sub s2) (fun b hb => hΦ b (fzΦ_mono s2 b hb)) (by simpa using hvl) (fun k p q a b => hp (k + 1) p q (by simpa using a) (by simpa using b)) (by rw [List.length_set, hl, hl1, List.length_set])
                    (fun us hu => by
                      rcases List.mem_or_eq_of_mem_set hu with h | h
                      · exact h1 us h
                      · rw [h]; exact hvlen) (fun us hu => by
                      rcases List.mem_or_eq_of_mem_set hu with h | h
                      · exact h2 us h
                      · rw [h]; exact h1v) (fun k us cs hu hc => by
                      rw [hl1] at hc
                      rw [List.getElem?_set] at hu hc
                      by_cases hk : i' = k
                      · subst hk
                        rw [if_pos rfl, if_pos hil] at hu
                        rw [if_pos rfl, if_pos (by omega)] at hc
                        cases hu
                        cases hc
                        exact hfv'
                      · rw [if_neg hk] at hu hc
                        exact h3 k us cs hu hc)
                  refine ⟨css', ?_, q2, q3, q4, q5⟩
                  have hvl : v.cells.size = sz := by simpa using hvlen
                  have hfold := foldl_set (i' * sz) v.cells.toList 0 css.flatten _ (by simpa using hblk)
                  have hfold2 : v.cells.zipIdx.foldl (fun (cs : Array Value) (c, j) => cs.setIfInBounds (i' * sz + j) c) css.flatten.toArray = (css.set i' v.cells.toList).flatten.toArray := by
                    rw [← hfold, ← Array.foldl_toList]
                    simp
                  have hble := (setN_len hblk).2
                  unfold Instr.fill
                  simp only
                  rw [if_neg (by simp only [ne_eq, hvl, not_true_eq_false, decide_false, Bool.false_or, decide_eq_true_eq, List.size_toArray]; rw [hvlen] at hble; omega), hfold2]
                  exact q1
            · cases h
          · cases h
        · cases h
      · cases h
    · cases h
/-- so many zero cells -/
theorem madeCells_eq (z : List Value) (m : Nat) : (madeCells z.toArray (m * z.length)).toList = (List.replicate m z).flatten := by
  have hfl : (List.replicate m z).flatten.length = m * z.length := by
    have := flat_len z.length (List.replicate m z) (fun c hc => by rw [List.eq_of_mem_replicate hc])
    rwa [List.length_replicate] at this
  apply List.ext_getElem?
  intro j
  by_cases hj : j < m * z.length
  · have hpos : 0 < z.length := by rcases Nat.eq_zero_or_pos z.length with h | h; rw [h] at hj; omega; exact h
    have hd : j / z.length < m := Nat.div_lt_of_lt_mul (by rwa [Nat.mul_comm] at hj)
    have hmod : j % z.length < z.length := Nat.mod_lt _ hpos
    have h := flat_get z.length (List.replicate m z) (fun c hc => by rw [List.eq_of_mem_replicate hc]) (j / z.length) (j % z.length) z (by simp [hd]) hmod
    have ej : j / z.length * z.length + j % z.length = j := by rw [Nat.mul_comm]; exact Nat.div_add_mod j z.length
    rw [ej] at h
    rw [h]
    simp [madeCells, hj, List.getElem?_eq_getElem hmod]
  · rw [List.getElem?_eq_none (by simp [madeCells]; omega), List.getElem?_eq_none (by rw [hfl]; omega)]
def stBuildSlice (tab : Tab) (os : Os) (ev : Ev) (d : Nat) (t : TypeId) (n : Nat) (parts : Array (Nat × Operand)) (K : Kt) : Prop :=
  match lk tab t with
  | some ti => match ti.kind, lk tab ti.elem with
    | 2, some te => match Nat.ble (n * te.size) 1000000, Nat.ble 1 te.size, fillE os te.size (List.replicate n te.zero) (evParts ev parts.toList) with
      | true, true, some (ls, g) => ∃ q, leLs ls q ∧ K (.own d) (g.map (·.1)) [d] ((d, .row te.size q ti.elem) :: goneOf g)
      | _, _, _ => False
    | _, _ => False
  | none => False
theorem st_buildSlice (hT : TabOk P tab) (d : Nat) {t : TypeId} {n : Nat} {parts : Array (Nat × Operand)} (ho : o.op = .buildSlice t n parts) (h : stBuildSlice tab os ev d t n parts K) : Ans P o ev os K := by
  unfold stBuildSlice at h
  split at h
  · rename_i ti hti
    split at h
    · rename_i te hk hte
      split at h
      · rename_i ls g hsm hpos hfe
        have hsm := Nat.le_of_ble_eq_true hsm
        have hpos := Nat.le_of_ble_eq_true hpos
        have ht := (hT t ti hti).slice_ hk
        have hE := hT _ te hte
        rw [evParts_eq] at hfe
        have F := fillE_ok hfe
        obtain ⟨q0, hq0, h⟩ := h
        refine fun _ => ⟨_, g, _, [d], fun c w ρ hok hr => ?_, F.sub, fun id hid => (by simp at hid; subst hid; rw [lk_self]; rfl), h⟩
        obtain ⟨z, hz, hzo, hza⟩ := hE.run_zero w
        have hzr := zeroOk_spec (c.fz g).Φ w _ _ hzo
        have hzl : z.cells.toList.length = te.size := by rw [hzr.1.length, hE.zl]
        obtain ⟨css', q1, q2, q3, q4, q5⟩ := F.run c w (c.fz g).Φ (parts.toList.map fun p => (p.1, ρ p.2)) (List.replicate n z.cells.toList) hok (fun b h => h) (by simp) (fun k p q hp hq => by
            simp only [List.getElem?_map, Option.map_eq_some_iff] at hp hq
            obtain ⟨a, ha, rfl⟩ := hp
            obtain ⟨b, hb, rfl⟩ := hq
            rw [ha] at hb
            cases hb
            refine ⟨rfl, hr a.2 ?_⟩
            rw [ho]
            simp only [Op.operands, List.mem_map]
            exact ⟨a, List.mem_of_getElem? ha, rfl⟩) (by simp) (fun us hu => by rw [List.eq_of_mem_replicate hu]; exact hzl) (fun us hu => by rw [List.eq_of_mem_replicate hu]; exact hzr.2) (fun i us cs hu hc => by
            rw [List.getElem?_replicate] at hu hc
            split at hu
            · rename_i hi
              rw [if_pos hi] at hc
              cases hu
              cases hc
              exact hzr.1
            · cases hu)
        have hn : css'.length = n := by rw [q2, F.len, List.length_replicate]
        have hnm : n ≤ n * te.size := Nat.le_mul_of_pos_right n hpos
        have hp := Post.fzRow hok F.ids d ti.elem q2 q5 q3 q4 (by rw [hn]; simp only [maxLen]; omega)
        have hcells : (Array.range (n * te.size)).map (z.cells[· % z.cells.size]!) = (List.replicate n z.cells.toList).flatten.toArray := by
          have := madeCells_eq z.cells.toList n
          rw [hzl] at this
          apply Array.toList_inj.1
          simpa [madeCells] using this
        have hvp : (parts.map fun (p : Nat × Operand) => (p.1, ρ p.2)).toList = parts.toList.map fun p => (p.1, ρ p.2) := by simp
        have hrun : (execOp ρ o).run P w = .ok (.value (.slice (some ⟨w.heap.size, 0, none⟩) n n)) (w.alloc (.cells css'.flatten.toArray ti.elem)) := by
          have hlim : ¬ (n * te.size > 2 ^ 24) := by omega
          by_cases h0 : n * te.size = 0
          · have hn0 : n = 0 := by rcases Nat.mul_eq_zero.1 h0 with h | h; exact h; omega
            subst hn0
            have hp0 : parts.toList = [] := by
              cases hpp : parts.toList with
              | nil => rfl
              | cons a l =>
                rw [hpp] at hfe
                simp only [List.map_cons, fillE, List.replicate_zero] at hfe
                split at hfe
                · split at hfe
                  · split at hfe
                    · have : ∀ (i : Nat) (r : List AV), setN i [r] ([] : List (List AV)) = none := fun i r => by cases i <;> rfl
                      rw [this] at hfe
                      cases hfe
                    · cases hfe
                  · cases hfe
                · cases hfe
            have hpa : parts = #[] := by simpa using hp0
            have hc0 : css' = [] := List.eq_nil_of_length_eq_zero hn
            subst hpa hc0
            simp [execOp, ho, Instr.buildSlice, run_underlying ht, hE.run_size, Instr.fill, newRow]
            rw [show (Array.map (fun _ => (default : Value)) (Array.range 0)) = #[] from Array.eq_empty_of_size_eq_zero (by simp)]
          · simp only [execOp, ho, Instr.buildSlice, Sem.run_bind, run_underlying ht, hE.run_size, Result.andThen_ok, if_neg hlim, if_neg h0, hz, Sem.run_pure, hcells]
            simp [q1, newRow]
        rw [hrun]
        refine ⟨_, Post.leRow hp hq0, ?_⟩
        rw [← hn]
        exact .own (by simp [Ctx.setHd]) (Nat.le_refl _) (by rw [hn]; simp only [maxLen]; omega)
      · exact h.elim
    · exact h.elim
  · exact h.elim

/-! ### make -/
def stMake (tab : Tab) (d : Nat) (t : TypeId) (x y : AV) (K : Kt) : Prop :=
  match lk tab t, x, y with
  | some ti, .int a, .int b => match ti.kind, lk tab ti.elem with
    | 2, some te => a = b ∧ 0 ≤ a ∧ a ≤ 140737488355328 ∧ a * te.bytes ≤ 140737488355328 ∧ ∃ q, leLs (List.replicate a.toNat te.zero) q ∧ K (.own d) [] [d] [(d, .row te.size q ti.elem)]
    | _, _ => False
  | _, _, _ => False
theorem st_make (hT : TabOk P tab) (d : Nat) {t : TypeId} {x y : Operand} (ho : o.op = .makeSlice t x y) (h : stMake tab d t (ev x) (ev y) K) : Ans P o ev os K := by
  unfold stMake at h
  split at h
  · rename_i ti a b hti hx hy
    split at h
    · rename_i te hk hte
      obtain ⟨rfl, h0, h1, h2, q0, hq0, h⟩ := h
      have ht := (hT t ti hti).slice_ hk
      have hE := hT _ te hte
      refine fun _ => ⟨_, [], _, [d], fun c w ρ hok hr => ?_, fun _ _ h => (by cases h), fun id hid => (by simp at hid; subst hid; rw [lk_self]; rfl), h⟩
      obtain ⟨i, z, hi, hsz, hby, hz, hzo, hza⟩ := hE.info
      have hzr := zeroOk_spec c.Φ w _ _ hzo
      have hzl : z.cells.toList.length = te.size := by rw [hzr.1.length, hE.zl]
      have r1 := hr x (by simp [ho, Op.operands])
      have r2 := hr y (by simp [ho, Op.operands])
      rw [hx] at r1
      rw [hy] at r2
      have hmk := run_make (P := P) w t ti.elem i z ht hi hz .i64 .i64 a a h0 (Int.le_refl _) (by rw [hby, Int.mul_comm]; omega) (by omega)
      have hcells : madeCells z.cells (a.toNat * i.size) = (List.replicate a.toNat z.cells.toList).flatten.toArray := by
        have := madeCells_eq z.cells.toList a.toNat
        rw [hzl] at this
        apply Array.toList_inj.1
        rw [hsz]
        simpa using this
      rw [hcells] at hmk
      have hp := Post.newRow (c := c) (w := w) hok.phi d (sz := te.size) (css := List.replicate a.toNat z.cells.toList) (ls := List.replicate a.toNat te.zero) ti.elem (by simp) (fun k us cs hu hc => by
        rw [List.getElem?_replicate] at hu hc
        split at hu
        · rename_i hi
          rw [if_pos hi] at hc
          cases hu
          cases hc
          exact hzr.1
        · cases hu) (fun us hu => by rw [List.eq_of_mem_replicate hu]; exact hzl) (fun us hu => by rw [List.eq_of_mem_replicate hu]; exact hzr.2) (by rw [List.length_replicate]; simp only [maxLen]; omega)
      have hrun : (execOp ρ o).run P w = .ok (.value (.slice (some ⟨w.heap.size, 0, none⟩) a.toNat a.toNat)) (w.alloc (.cells (List.replicate a.toNat z.cells.toList).flatten.toArray ti.elem)) := by
        simp [execOp, ho, r1.int_.1, r2.int_.1, hmk]
      rw [hrun]
      simp only [List.length_replicate] at hp
      exact ⟨_, Post.leRow hp hq0, .own (by simp [Ctx.setHd]) (Nat.le_refl _) (by simp only [maxLen]; omega)⟩
    · exact h.elim
  · exact h.elim
end
end Go.Proofs.Ytioalgofaiideaa
