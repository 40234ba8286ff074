/- Operations over readings, the fifth part: values built of parts, rows made, appended to, cut. No program in sight; types are told by the table. -/
import Derived.Test.YtioalgofaiideaaAs4
namespace Go.Proofs.Ytioalgofaiideaa
open Go.RowKit
set_option linter.unusedVariables false

section
variable {P : Program} {tab : Tab} {o : Oper} {ev : Ev} {os : Os} {K : Kt}

/-! ### built of parts -/
theorem foldl_set (off : Nat) : ∀ (vs : List Value) (k : Nat) (cells rs : List Value), setN (off + k) vs cells = some rs →
    (vs.zipIdx k).foldl (fun (cs : Array Value) (c, j) => cs.setIfInBounds (off + j) c) cells.toArray = rs.toArray
  | [], k, cells, rs, h => by
    have e1 : cells = rs := by
      apply List.ext_getElem?
      intro j
      rw [setN_at h j, if_neg (by simp only [List.length_nil]; omega)]
    simp [e1]
  | v :: vs, k, cells, rs, h => by
    obtain ⟨hlen, hle⟩ := setN_len h
    simp only [List.length_cons] at hle
    obtain ⟨r, hr⟩ := setN_ex (off + (k + 1)) vs (cells.set (off + k) v) (by rw [List.length_set]; omega)
    have : r = rs := by
      apply List.ext_getElem?
      intro j
      rw [setN_at hr j, setN_at h j, List.getElem?_set]
      by_cases h0 : j = off + k
      · subst h0
        rw [if_neg (by omega), if_pos rfl, if_pos (by omega), if_pos (by simp)]
        simp
      · by_cases hin : off + k ≤ j ∧ j < off + k + (vs.length + 1)
        · rw [if_pos (by omega), if_pos (by simpa using hin)]
          obtain ⟨i, rfl⟩ : ∃ i, j = off + k + 1 + i := ⟨j - (off + k + 1), by omega⟩
          rw [show off + k + 1 + i - (off + (k + 1)) = i by omega, show off + k + 1 + i - (off + k) = i + 1 by omega]
          simp
        · rw [if_neg (by omega), if_neg (fun e => h0 e.symm), if_neg (by simpa using hin)]
    subst this
    have ih := foldl_set off vs (k + 1) (cells.set (off + k) v) r hr
    simpa using ih

/-- parts put into cells -/
def fillA (place : Nat → Option (Nat × Nat)) : List AV → List (Nat × AV) → Option (List AV)
  | cells, [] => some cells
  | cells, (i, a) :: rest => match place i, a.cells? with
    | some (off, size), some vs => match Nat.beq vs.length size with
      | true => match setN off vs cells with
        | some r => fillA place r rest
        | none => none
      | false => none
    | _, _ => none
theorem fillA_run {c : Ctx} {w : World} {place : Nat → Option (Nat × Nat)} : ∀ {parts : List (Nat × AV)} {cells rs : List AV}, fillA place cells parts = some rs → ∀ {vparts : List (Nat × Value)} {us : List Value},
    vparts.length = parts.length → (∀ (k : Nat) (p : Nat × Value) (q : Nat × AV), vparts[k]? = some p → parts[k]? = some q → p.1 = q.1 ∧ Rd c w p.2 q.2) → Rds c w us cells → (∀ u ∈ us, u.oneCell' = true) →
    ∃ r, Instr.fill place us.toArray vparts = some r.toArray ∧ Rds c w r rs ∧ ∀ u ∈ r, u.oneCell' = true
  | [], cells, rs, h, vparts, us, hl, _, hr, h1 => by
    have : vparts = [] := List.eq_nil_of_length_eq_zero hl
    subst this
    cases h
    exact ⟨us, rfl, hr, h1⟩
  | (i, a) :: rest, cells, rs, h, [], us, hl, _, _, _ => by simp at hl
  | (i, a) :: rest, cells, rs, h, (i', v) :: vrest, us, hl, hp, hr, h1 => by
    obtain ⟨e, hv⟩ := hp 0 _ _ rfl rfl
    simp only at e hv
    subst e
    unfold fillA at h
    split at h
    · rename_i off size vs hpl hvs
      split at h
      · rename_i hsz
        have hsz := Nat.eq_of_beq_eq_true hsz
        split at h
        · rename_i r hset
          obtain ⟨rv, h1v⟩ := cells?_rd hv hvs
          obtain ⟨r', e1, hr'⟩ := setN_rds hset rv hr
          have hle := setN_len e1
          obtain ⟨q, q1, q2, q3⟩ := fillA_run h (vparts := vrest) (us := r') (by simpa using hl) (fun k p q a b => hp (k + 1) p q (by simpa using a) (by simpa using b)) hr' (fun u hu => by
            rcases setN_mem e1 u hu with h | h
            · exact h1v u h
            · exact h1 u h)
          refine ⟨q, ?_, q2, q3⟩
          have hvl : v.cells.size = size := by rw [← hsz, ← rv.length]; simp
          have hle2 : off + v.cells.size ≤ us.length := by have := hle.2; simpa using this
          have hfold := foldl_set off v.cells.toList 0 us r' (by simpa using e1)
          have hfold2 : v.cells.zipIdx.foldl (fun (cs : Array Value) (c, j) => cs.setIfInBounds (off + j) c) us.toArray = r'.toArray := by
            rw [← hfold, ← Array.foldl_toList]
            simp
          unfold Instr.fill
          simp only [hpl]
          rw [if_neg (by simp [hvl]; omega), hfold2]
          exact q1
        · cases h
      · cases h
    · cases h
def placeF (l : List (Nat × Nat × Bool)) (i : Nat) : Option (Nat × Nat) :=
  match nthF i l with
  | some (off, sz, _) => some (off, sz)
  | none => none
def placeE (size : Nat) (i : Nat) : Option (Nat × Nat) := some (i * size, size)
def evParts (ev : Ev) : List (Nat × Operand) → List (Nat × AV)
  | [] => []
  | (i, x) :: l => (i, ev x) :: evParts ev l
def stBuild (tab : Tab) (ev : Ev) (t : TypeId) (parts : Array (Nat × Operand)) (K : Kt) : Prop :=
  match lk tab t with
  | some ti => match ti.kind, lk tab ti.elem with
    | 1, _ => match fillA (placeF ti.fields) ti.zero (evParts ev parts.toList) with
      | some cs => K (.agg cs) [] [] []
      | none => False
    | 3, some te => match fillA (placeE te.size) ti.zero (evParts ev parts.toList) with
      | some cs => K (.agg cs) [] [] []
      | none => False
    | _, _ => False
  | none => False
theorem evParts_eq (l : List (Nat × Operand)) : evParts ev l = l.map fun p => (p.1, ev p.2) := by
  induction l with
  | nil => rfl
  | cons p l ih => simp [evParts, ih]
theorem run_fieldPlaces {w : World} (fs : Array Field) (l : List (Nat × Nat × Bool)) (hfs : fieldsOk P fs.toList l = true) : (fs.mapM (fun f => do pure (f.offset, ← sizeOf f.type)) : Sem (Array (Nat × Nat))).run P w = .ok (l.map fun x => (x.1, x.2.1)).toArray w := by
  have hpl : ∀ (fs : List Field) (l : List (Nat × Nat × Bool)) (acc : Array (Nat × Nat)), fieldsOk P fs l = true → (fs.foldlM (fun (bs : Array (Nat × Nat)) (a : Field) => bs.push <$> (do pure (a.offset, ← sizeOf a.type))) acc : Sem (Array (Nat × Nat))).run P w = .ok (acc ++ (l.map fun x => (x.1, x.2.1)).toArray) w := by
    intro fs
    induction fs with
    | nil =>
      intro l acc hf
      cases l with
      | nil => simp
      | cons a l => simp [fieldsOk] at hf
    | cons f fs ih =>
      intro l acc hf
      cases l with
      | nil => simp [fieldsOk] at hf
      | cons a l =>
        obtain ⟨a1, a2, a3⟩ := a
        simp only [fieldsOk, Bool.and_eq_true, decide_eq_true_eq] at hf
        obtain ⟨⟨⟨f1, f2⟩, f3⟩, f4⟩ := hf
        simp only [Option.map_eq_some_iff] at f2
        obtain ⟨i, hi, his⟩ := f2
        have hsz : (sizeOf f.type).run P w = .ok a2 w := by simp [sizeOf, typeInfo, hi, his]
        simp only [List.foldlM_cons, Sem.run_bind, Sem.run_map, hsz, Result.andThen_ok, Sem.run_pure, f1, ih l _ f4]
        simp
  rw [Array.mapM_eq_foldlM, ← Array.foldlM_toList]
  have := hpl fs.toList l #[] hfs
  rw [this]
  simp
theorem placeF_get (l : List (Nat × Nat × Bool)) (i : Nat) : ((l.map fun x => (x.1, x.2.1)).toArray)[i]? = placeF l i := by
  have : ∀ (l : List (Nat × Nat × Bool)) (i : Nat), (l.map fun x => (x.1, x.2.1))[i]? = placeF l i := by
    intro l
    induction l with
    | nil => intro i; cases i <;> rfl
    | cons a l ih =>
      intro i
      cases i with
      | zero => rfl
      | succ i => simpa [placeF, nthF] using ih i
  simpa using this l i
theorem st_build (hT : TabOk P tab) {t : TypeId} {parts : Array (Nat × Operand)} (ho : o.op = .build t parts) (h : stBuild tab ev t parts K) : Ans P o ev os K := by
  unfold stBuild at h
  split at h
  · rename_i ti hti
    have hTi := hT t ti hti
    -- what is the same of both kinds
    have close : ∀ (place : Nat → Option (Nat × Nat)) (cs : List AV), fillA place ti.zero (evParts ev parts.toList) = some cs → K (.agg cs) [] [] [] →
        (∀ (w : World) (ρ : Operand → Value) (z : Value) (r : List Value), (zeroValue t).run P w = .ok z w → Instr.fill place z.cells (parts.toList.map fun p => (p.1, ρ p.2)) = some r.toArray → (Instr.build t (parts.map fun (i, x) => (i, ρ x))).run P w = .ok (.agg r.toArray) w) → Ans P o ev os K := by
      intro place cs hcs hK hrun
      refine .pure (fun c w ρ hr => ?_) hK
      obtain ⟨z, hz, hzo, hza⟩ := hTi.run_zero w
      have hzr := zeroOk_spec c.Φ w _ _ hzo
      rw [evParts_eq] at hcs
      obtain ⟨r, h1, h2, h3⟩ := fillA_run (c := c) (w := w) hcs (vparts := parts.toList.map fun p => (p.1, ρ p.2)) (us := z.cells.toList) (by simp) (fun k p q hp hq => by
        simp only [List.getElem?_map, Option.map_eq_some_iff] at hp hq
        obtain ⟨a, ha, rfl⟩ := hp
        obtain ⟨b, hb, rfl⟩ := hq
        rw [ha] at hb
        cases hb
        refine ⟨rfl, hr a.2 ?_⟩
        rw [ho]
        simp only [Op.operands, List.mem_map]
        exact ⟨a, List.mem_of_getElem? ha, rfl⟩) (.of_rfs hzr.1) hzr.2
      have hzc : z.cells.toList.toArray = z.cells := by simp
      rw [hzc] at h1
      exact ⟨.agg r.toArray, by simp [execOp, ho, hrun w ρ z r hz h1], .agg h2⟩
    split at h
    · rename_i hk
      split at h
      · rename_i cs hcs
        obtain ⟨fs, hu, hfs⟩ := hTi.struct_ hk
        refine close _ cs hcs h fun w ρ z r hz hfill => ?_
        rw [show placeF ti.fields = (fun i => ((ti.fields.map fun x => (x.1, x.2.1)).toArray)[i]?) from funext fun i => (placeF_get ti.fields i).symm] at hfill
        have hvp : (parts.map fun (p : Nat × Operand) => (p.1, ρ p.2)).toList = parts.toList.map fun p => (p.1, ρ p.2) := by simp
        simp only [Instr.build, Sem.run_bind, hz, Result.andThen_ok, run_underlying hu, run_fieldPlaces fs ti.fields hfs]
        rw [hvp, hfill]
        simp
      · exact h.elim
    · rename_i te hk hte
      split at h
      · rename_i cs hcs
        have hu := hTi.array_ hk
        refine close _ cs hcs h fun w ρ z r hz hfill => ?_
        have hvp : (parts.map fun (p : Nat × Operand) => (p.1, ρ p.2)).toList = parts.toList.map fun p => (p.1, ρ p.2) := by simp
        simp only [Instr.build, Sem.run_bind, hz, Result.andThen_ok, run_underlying hu, (hT _ te hte).run_size]
        rw [hvp]
        rw [show placeE te.size = (fun i => some (i * te.size, te.size)) from rfl] at hfill
        rw [hfill]
        simp
      · exact h.elim
    · exact h.elim
  · exact h.elim
end
end Go.Proofs.Ytioalgofaiideaa
