/- Operations over readings, the second part: fields, elements, cells. No program in sight; types are told by the table. -/
import Derived.Test.YtioalgofaiideaaAs
namespace Go.Proofs.Ytioalgofaiideaa
open Go.RowKit
set_option linter.unusedVariables false

section
variable {P : Program} {tab : Tab} {o : Oper} {ev : Ev} {os : Os} {K : Kt}

/-! ### one operand -/
def stUn (op : UnOp) (x : AV) (K : Kt) : Prop :=
  match op, x with
  | .not, .bool b => K (.bool (!b)) [] [] []
  | .neg, .int n => InR (-n) ∧ K (.int (-n)) [] [] []
  | _, _ => False
theorem st_un {op : UnOp} {t : TypeId} {x : Operand} (ho : o.op = .unOp op t x) (h : stUn op (ev x) K) : Ans P o ev os K := by
  unfold stUn at h
  split at h
  · rename_i b hx
    refine .pure (fun c w ρ hr => ⟨.bool (!b), ?_, .fz (.bool _)⟩) h
    have := hr x (by simp [ho, Op.operands])
    rw [hx] at this
    simp [execOp, ho, this.bool_, Op.unary]
  · rename_i n hx
    refine .pure (fun c w ρ hr => ⟨.int .i64 (-n), ?_, .fz (.int h.1)⟩) h.2
    have := hr x (by simp [ho, Op.operands])
    rw [hx] at this
    simp [execOp, ho, this.int_.1, Op.unary, Op.intArith, IntWalk.i64_in _ h.1]
  · exact h.elim

def stNil (x : AV) (K : Kt) : Prop :=
  match x with
  | .ptr _ _ => K x [] [] []
  | .fp _ => K x [] [] []
  | .ep _ _ _ _ => K x [] [] []
  | _ => False
theorem st_nil {x : Operand} (ho : o.op = .nilCheck x) (h : stNil (ev x) K) : Ans P o ev os K := by
  have key : (∀ (c : Ctx) (w : World) (v : Value), Rd c w v (ev x) → ∃ a, v = .pointer (some a)) → K (ev x) [] [] [] → Ans P o ev os K := fun hp hK =>
    .pure (fun c w ρ hr => by
      have h1 := hr x (by simp [ho, Op.operands])
      obtain ⟨a, ha⟩ := hp c w _ h1
      exact ⟨ρ x, by simp [execOp, ho, ha], h1⟩) hK
  unfold stNil at h
  split at h
  · rename_i hx
    exact key (fun c w v hv => by rw [hx] at hv; exact ⟨_, hv.ptr_⟩) h
  · rename_i hx
    exact key (fun c w v hv => by rw [hx] at hv; obtain ⟨b, o, us, e, _⟩ := hv.fp_; exact ⟨_, e⟩) h
  · rename_i hx
    exact key (fun c w v hv => by rw [hx] at hv; obtain ⟨g, x, m, cap, e, _⟩ := hv.ep_; exact ⟨_, e⟩) h
  · exact h.elim

def stExtract (x : AV) (i : Nat) (K : Kt) : Prop :=
  match x with
  | .tup l => match getN i 1 l with
    | some [a] => K a [] [] []
    | _ => False
  | _ => False
theorem getN_one {β : Type} {i : Nat} {l : List β} {a : β} (h : getN i 1 l = some [a]) : l[i]? = some a := by
  have := getN_at h (show 0 < 1 by omega)
  simpa using this.symm
theorem st_extract {x : Operand} {i : Nat} (ho : o.op = .extract x i) (h : stExtract (ev x) i K) : Ans P o ev os K := by
  unfold stExtract at h
  split at h
  · rename_i l hx
    split at h
    · rename_i a ha
      refine .pure (fun c w ρ hr => ?_) h
      have h1 := hr x (by simp [ho, Op.operands])
      rw [hx] at h1
      obtain ⟨us, e, h2⟩ := h1.tup_
      obtain ⟨v, hv, h3⟩ := h2.get (getN_one ha)
      exact ⟨v, by simp [execOp, ho, e, Instr.extract, hv], h3⟩
    · exact h.elim
  · exact h.elim

theorem rds_map {c : Ctx} {w : World} {ρ : Operand → Value} : ∀ {xs : List Operand}, (∀ x ∈ xs, Rd c w (ρ x) (ev x)) → Rds c w (xs.map ρ) (xs.map ev)
  | [], _ => .nil
  | x :: xs, h => .cons (h x (by simp)) (rds_map fun y hy => h y (by simp [hy]))
def stFunc (ev : Ev) (fn : Fn) (first captured : Array Operand) (K : Kt) : Prop :=
  match fn, first.toList with
  | .func f, [] => K (.fn f (captured.toList.map ev)) [] [] []
  | _, _ => False
theorem st_func {fn : Fn} {first captured : Array Operand} (ho : o.op = .makeFunc fn first captured) (h : stFunc ev fn first captured K) : Ans P o ev os K := by
  unfold stFunc at h
  split at h
  · rename_i f hf
    refine .pure (fun c w ρ hr => ⟨.func (.func f) #[] (captured.toList.map ρ).toArray, ?_, .fn (rds_map fun x hx => hr x (by simp [ho, Op.operands, hf]; simpa using hx))⟩) h
    have : first = #[] := by simpa using hf
    have hm : captured.map ρ = (captured.toList.map ρ).toArray := by apply Array.toList_inj.1; simp
    simp [execOp, ho, Instr.makeFunc, this, hm]
  · exact h.elim

/-! ### addresses -/
def dropN {β : Type} : Nat → List β → Option (List β)
  | 0, l => some l
  | n + 1, _ :: l => dropN n l
  | _ + 1, [] => none
theorem dropN_spec {β : Type} : ∀ {n : Nat} {l r : List β}, dropN n l = some r → r = l.drop n
  | 0, l, r, h => by cases h; rfl
  | n + 1, _ :: l, r, h => by simpa using dropN_spec (n := n) (l := l) h
  | n + 1, [], r, h => by cases h
def nthF : Nat → List (Nat × Nat × Bool) → Option (Nat × Nat × Bool)
  | 0, a :: _ => some a
  | n + 1, _ :: l => nthF n l
  | _, [] => none
theorem nthF_spec : ∀ {n : Nat} {l : List (Nat × Nat × Bool)} {a : Nat × Nat × Bool}, nthF n l = some a → l[n]? = some a
  | 0, a :: l, b, h => by cases h; rfl
  | n + 1, _ :: l, a, h => by simpa using nthF_spec (n := n) (l := l) h
  | 0, [], a, h => by cases h
  | n + 1, [], a, h => by cases h
/-- an address moved on by so many cells -/
def movA (x : AV) (n : Nat) : Option AV :=
  match x with
  | .ptr id off => some (.ptr id (off + n))
  | .ep id i sz off => some (.ep id i sz (off + n))
  | .fp cs => match dropN n cs with
    | some r => some (.fp r)
    | none => none
  | _ => none
theorem movA_rd {c : Ctx} {w : World} {v : Value} {x y : AV} {n : Nat} (h : Rd c w v x) (hm : movA x n = some y) : ∃ b p, v = .pointer (some ⟨b, p, none⟩) ∧ Rd c w (.pointer (some ⟨b, p + n, none⟩)) y := by
  unfold movA at hm
  split at hm
  · cases hm
    rw [h.ptr_]
    exact ⟨_, _, rfl, .ptr rfl⟩
  · cases hm
    obtain ⟨g, x, m, cap, e, hh⟩ := h.ep_
    rw [e]
    refine ⟨_, _, rfl, ?_⟩
    rw [Nat.add_assoc]
    exact .ep hh
  · rename_i cs
    split at hm
    · rename_i r hr
      cases hm
      obtain ⟨b, p, us, e, h1, h2, h3⟩ := h.fp_
      rw [e, dropN_spec hr]
      refine ⟨b, p, rfl, .fz (.fp (us := us.drop n) h1 (fun j u hj => ?_) ?_)⟩
      · rw [List.getElem?_drop] at hj
        have := h2 (n + j) u hj
        rwa [show p + n + j = p + (n + j) by omega]
      · exact Rfs.drop h3 n
    · cases hm
  · cases hm
def stFieldAddr (tab : Tab) (s : TypeId) (x : AV) (f : Nat) (K : Kt) : Prop :=
  match lk tab s with
  | some ti => match ti.kind, nthF f ti.fields with
    | 1, some (off, sz, _) => match sz, movA x off with
      | 0, _ => False
      | _ + 1, some y => K y [] [] []
      | _, none => False
    | _, _ => False
  | none => False
theorem st_fieldAddr (hT : TabOk P tab) {s : TypeId} {x : Operand} {f : Nat} (ho : o.op = .fieldAddr s x f) (h : stFieldAddr tab s (ev x) f K) : Ans P o ev os K := by
  unfold stFieldAddr at h
  split at h
  · rename_i ti hti
    split at h
    · rename_i off sz ag hk hf
      split at h
      · exact h.elim
      · rename_i s' y hsz hy
        obtain ⟨fs, hu, hfs⟩ := (hT s ti hti).struct_ hk
        obtain ⟨fd, h1, h2, ⟨i, h3, h4⟩, d, h5, h6⟩ := fieldsOk_get fs.toList ti.fields hfs f off _ ag (nthF_spec hf)
        refine .pure (fun c w ρ hr => ?_) h
        obtain ⟨b, p, e, hrd⟩ := movA_rd (hr x (by simp [ho, Op.operands])) hy
        refine ⟨_, ?_, hrd⟩
        have h1' : fs[f]? = some fd := by simpa using h1
        simp [execOp, ho, Instr.fieldAt, run_underlying hu, h1', Instr.sureAddr, e, fieldPlace, sizeOf, typeInfo, h3, h4, adr_add, h2]
      · exact h.elim
    · exact h.elim
  · exact h.elim

def loadAV (ti : TI) (cs : List AV) (off : Nat) : Option AV :=
  match ti.agg with
  | true => match getN off ti.size cs with
    | some l => some (.agg l)
    | none => none
  | false => match getN off 1 cs with
    | some [a] => some a
    | _ => none
theorem getN_ex {β : Type} {o n : Nat} {l : List β} (h : o + n ≤ l.length) : ∃ r, getN o n l = some r := by
  induction o generalizing l with
  | zero =>
    induction n generalizing l with
    | zero => exact ⟨[], by cases l <;> simp [getN]⟩
    | succ n ih =>
      cases l with
      | nil => simp at h
      | cons a l =>
        obtain ⟨r, hr⟩ := ih (l := l) (by simp at h ⊢; omega)
        exact ⟨a :: r, by simp [getN, hr]⟩
  | succ o ih =>
    cases l with
    | nil => simp at h
    | cons a l =>
      obtain ⟨r, hr⟩ := ih (l := l) (by simp at h ⊢; omega)
      exact ⟨r, by simpa [getN] using hr⟩
theorem Rds.getN {c : Ctx} {w : World} {vs : List Value} {as r : List AV} (h : Rds c w vs as) {o n : Nat} (hg : getN o n as = some r) : ∃ us, Go.Proofs.Ytioalgofaiideaa.getN o n vs = some us ∧ Rds c w us r ∧ us.length = n := by
  obtain ⟨h1, h2⟩ := getN_spec hg
  obtain ⟨us, hus⟩ := getN_ex (o := o) (n := n) (l := vs) (by rw [h.length]; exact h2)
  obtain ⟨h3, h4⟩ := getN_spec hus
  refine ⟨us, hus, ?_, ?_⟩
  · rw [h1, h3]
    exact (h.drop o).take n
  · rw [h3, List.length_take, List.length_drop]
    omega
/-- what is loaded, of a block's cells -/
theorem loadAV_run {t : TypeId} {ti : TI} (hT : TIok P t ti) {c : Ctx} {w : World} {us : List Value} {cs : List AV} {off b p : Nat} {av : AV} (hl : loadAV ti cs off = some av) (hr : Rds c w us cs)
    (hc : ∀ j u, us[j]? = some u → w.cell? ⟨b, p + j, none⟩ = some u) : ∃ v, (Instr.loadAt t (.pointer (some ⟨b, p + off, none⟩))).run P w = .ok v w ∧ Rd c w v av := by
  have cells : ∀ {n : Nat} {r : List Value}, Go.Proofs.Ytioalgofaiideaa.getN off n us = some r → ∀ j u, r[j]? = some u → w.cell? ⟨b, p + off + j, none⟩ = some u := by
    intro n r hg j u hj
    have hlt : j < n := by
      have := (List.getElem?_eq_some_iff.1 hj).1
      rw [(getN_spec hg).1, List.length_take] at this
      omega
    rw [getN_at hg hlt] at hj
    rw [Nat.add_assoc]
    exact hc _ u hj
  unfold loadAV at hl
  split at hl
  · rename_i ha
    split at hl
    · rename_i l hg
      cases hl
      obtain ⟨r, h1, h2, h3⟩ := hr.getN hg
      refine ⟨_, hT.run_load w b (p + off) r h3 (.inl ha) (cells h1), ?_⟩
      rw [ha]
      exact .agg h2
    · cases hl
  · rename_i ha
    split at hl
    · rename_i a hg
      cases hl
      obtain ⟨r, h1, h2, h3⟩ := hr.getN hg
      obtain ⟨u, rfl⟩ := List.length_eq_one_iff.1 h3
      have hz1 : ti.size = 1 := by
        obtain ⟨i, z, hi, hs, hb, hz, hzo, hza⟩ := hT.info
        have hzl := (zeroOk_spec (fun _ => False) w _ _ hzo).1.length
        rw [← hT.zl, ← hzl]
        rw [ha] at hza
        cases z <;> first | rfl | cases hza
      refine ⟨_, hT.run_load w b (p + off) [u] (by rw [hz1]; rfl) (.inr rfl) (cells h1), ?_⟩
      rw [ha]
      cases h2 with | cons h _ => exact h
    · cases hl

def stLoad (tab : Tab) (os : Os) (t : TypeId) (x : AV) (K : Kt) : Prop :=
  match lk tab t with
  | some ti => match x with
    | .fp cs => match loadAV ti cs 0 with
      | some av => K av [] [] []
      | none => False
    | .ptr id off => match lk os id with
      | some (.box cs _) => match loadAV ti cs off with
        | some av => K av [id] [] []
        | none => False
      | _ => False
    | .ep id i sz off => match lk os id with
      | some (.row sz' ls _) => match Nat.beq sz sz' with
        | true => i < ls.length ∧ ∀ cs, ls[i]? = some cs → match loadAV ti cs off with
          | some av => K av [id] [] []
          | none => False
        | false => False
      | _ => False
    | _ => False
  | none => False
theorem st_load (hT : TabOk P tab) {t : TypeId} {x : Operand} (ho : o.op = .load t x) (h : stLoad tab os t (ev x) K) : Ans P o ev os K := by
  have run : ∀ (ρ : Operand → Value) (w : World), (execOp ρ o).run P w = ((Instr.loadAt t (ρ x)).run P w).andThen fun v w' => .ok (.value v) w' := fun ρ w => by simp [execOp, ho]
  unfold stLoad at h
  split at h
  · rename_i ti hti
    have hTi := hT t ti hti
    split at h
    · rename_i cs hx
      split at h
      · rename_i av hav
        refine .pure (fun c w ρ hr => ?_) h
        have h1 := hr x (by simp [ho, Op.operands])
        rw [hx] at h1
        obtain ⟨b, p, us, e, h2, h3, h4⟩ := h1.fp_
        obtain ⟨v, h5, h6⟩ := loadAV_run hTi hav (.of_rfs h4) h3
        exact ⟨v, by rw [run, e]; simp only [Nat.add_zero] at h5; rw [h5]; rfl, h6⟩
      · exact h.elim
    · rename_i id off hx
      split at h
      · rename_i cs e hid
        split at h
        · rename_i av hav
          refine .read hid (fun c w ρ hrep hr => ?_) h
          have h1 := hr x (by simp [ho, Op.operands])
          rw [hx] at h1
          obtain ⟨us, h2, h3⟩ := hrep
          obtain ⟨v, h5, h6⟩ := loadAV_run (b := c.μ id) (p := 0) hTi hav h3 (fun j u hj => by
            unfold World.cell?
            simp only [Nat.zero_add, h2]
            simpa using hj)
          rw [Nat.zero_add] at h5
          exact ⟨v, by rw [run, h1.ptr_, h5]; rfl, h6⟩
        · exact h.elim
      · exact h.elim
    · rename_i id i sz off hx
      split at h
      · rename_i sz' ls e hid
        split at h
        · rename_i hsz
          obtain rfl := Nat.eq_of_beq_eq_true hsz
          obtain ⟨hi, h⟩ := h
          have hcs : ls[i]? = some ls[i] := List.getElem?_eq_getElem hi
          have h := h _ hcs
          split at h
          · rename_i av hav
            refine .read hid (fun c w ρ hrep hr => ?_) h
            have h1 := hr x (by simp [ho, Op.operands])
            rw [hx] at h1
            obtain ⟨g, x0, m, cap, e1, hh⟩ := h1.ep_
            obtain ⟨css, h2, h3, h4⟩ := hrep
            have hcs' : css[i]? = some (css[i]'(by omega)) := List.getElem?_eq_getElem (by omega)
            obtain ⟨g', x', cap', hv, hg, hc⟩ := h2.cells hcs'
            have e2 : g' = g ∧ x' = x0 := by rw [hh] at hv; injection hv with e _ _; injection e with e; injection e with e e' _; exact ⟨e.symm, e'.symm⟩
            obtain ⟨rfl, rfl⟩ := e2
            obtain ⟨v, h5, h6⟩ := loadAV_run (b := g') (p := x' + i * sz) hTi hav (.of_rfs (h4 i _ _ hcs' hcs)) hc
            exact ⟨v, by rw [run, e1, h5]; rfl, h6⟩
          · exact h.elim
        · exact h.elim
      · exact h.elim
    · exact h.elim
  · exact h.elim

/-- a field of a struct's value -/
def stField (tab : Tab) (s : TypeId) (x : AV) (f : Nat) (K : Kt) : Prop :=
  match lk tab s with
  | some ti => match ti.kind, nthF f ti.fields, x with
    | 1, some (off, sz, true), .agg cs => match getN off sz cs with
      | some l => K (.agg l) [] [] []
      | none => False
    | 1, some (off, _, false), .agg cs => match getN off 1 cs with
      | some [a] => K a [] [] []
      | _ => False
    | _, _, _ => False
  | none => False
theorem st_field (hT : TabOk P tab) {s : TypeId} {x : Operand} {f : Nat} (ho : o.op = .field s x f) (h : stField tab s (ev x) f K) : Ans P o ev os K := by
  unfold stField at h
  split at h
  · rename_i ti hti
    split at h
    · rename_i off sz cs hk hf hx
      split at h
      · rename_i l hl
        obtain ⟨fs, hu, hfs⟩ := (hT s ti hti).struct_ hk
        obtain ⟨fd, h1, h2, ⟨i, h3, h4⟩, d, h5, h6⟩ := fieldsOk_get fs.toList ti.fields hfs f off _ _ (nthF_spec hf)
        refine .pure (fun c w ρ hr => ?_) h
        have hx1 := hr x (by simp [ho, Op.operands])
        rw [hx] at hx1
        obtain ⟨us, e, hus⟩ := hx1.agg_
        obtain ⟨r, g1, g2, g3⟩ := hus.getN hl
        have h1' : fs[f]? = some fd := by simpa using h1
        have hp := run_part (P := P) (s := sz) w h5 (by rw [h3]; simp [h4]) us off (.inl h6) (.inl h6)
        rw [h6] at hp
        refine ⟨.agg r.toArray, ?_, .agg g2⟩
        simp [execOp, ho, Instr.field, run_underlying hu, h1', e, asAgg, h2, hp, mkV, (getN_spec g1).1]
      · exact h.elim
    · rename_i off sz cs hk hf hx
      split at h
      · rename_i a hl
        obtain ⟨fs, hu, hfs⟩ := (hT s ti hti).struct_ hk
        obtain ⟨fd, h1, h2, ⟨i, h3, h4⟩, d, h5, h6⟩ := fieldsOk_get fs.toList ti.fields hfs f off _ _ (nthF_spec hf)
        refine .pure (fun c w ρ hr => ?_) h
        have hx1 := hr x (by simp [ho, Op.operands])
        rw [hx] at hx1
        obtain ⟨us, e, hus⟩ := hx1.agg_
        obtain ⟨v, g1, g2⟩ := hus.get (getN_one hl)
        have h1' : fs[f]? = some fd := by simpa using h1
        refine ⟨v, ?_, g2⟩
        have hag : (isAgg fd.type).run P w = .ok false w := by rw [← h6]; cases d <;> simp [isAgg, run_underlying h5, aggD]
        simp [execOp, ho, Instr.field, run_underlying hu, h1', e, asAgg, part, hag, h2, g1]
      · exact h.elim
    · exact h.elim
  · exact h.elim
end
end Go.Proofs.Ytioalgofaiideaa
