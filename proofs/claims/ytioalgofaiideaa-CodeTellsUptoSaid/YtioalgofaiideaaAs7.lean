/- Operations over readings, the seventh part: append, cuts, conversions, calls. No program in sight; types are told by the table. -/
import Derived.Test.YtioalgofaiideaaAs6
namespace Go.Proofs.Ytioalgofaiideaa
open Go.RowKit
set_option linter.unusedVariables false

section
variable {P : Program} {tab : Tab} {o : Oper} {ev : Ev} {os : Os} {K : Kt}

/-! ### append -/
/-- what is appended to: its elements, and the row that goes -/
def tgtOf (os : Os) (sz e : Nat) (x : AV) : Option (List (List AV) × Os) :=
  match x with
  | .nilsl => some ([], [])
  | .own id => match lk os id with
    | some (.row sz' ls e') => match Nat.beq sz sz', Nat.beq e e' with
      | true, true => some (ls, [(id, .row sz' ls e')])
      | _, _ => none
    | _ => none
  | .osl id n => match lk os id with
    | some (.row sz' ls e') => match Nat.beq sz sz', Nat.beq e e' with
      | true, true => some (ls.take n, [(id, .row sz' ls e')])
      | _, _ => none
    | _ => none
  | _ => none
/-- what is appended: its elements, and the row that they lie in -/
def srcOf (os : Os) (sz : Nat) (x : AV) : Option (List (List AV) × Os) :=
  match x with
  | .nilsl => some ([], [])
  | .sl sz' ls => match Nat.beq sz sz' with
    | true => some (ls, [])
    | false => none
  | .own id => match lk os id with
    | some (.row sz' ls e) => match Nat.beq sz sz' with
      | true => some (ls, [(id, .row sz' ls e)])
      | false => none
    | _ => none
  | _ => none
structure TgtOk (os : Os) (sz e : Nat) (x : AV) (ls : List (List AV)) (g : Os) : Prop where
  sub : ∀ id o, lk g id = some o → lk os id = some o
  run : ∀ (c : Ctx) (w : World) (v : Value), HOk c w g → Rd c w v x → (∀ b, v.ownBlock = some b ↔ ∃ id o, lk g id = some o ∧ foot c id o b) ∧
    ∃ css, RowOk w v sz e css ∧ css.length = ls.length ∧ ∀ (i : Nat) (us : List Value) (cs : List AV), css[i]? = some us → ls[i]? = some cs → Rfs c.Φ w us cs
theorem lk_iff {id : Nat} {ob : Obj} {c : Ctx} {b : Nat} : (∃ i o, lk [(id, ob)] i = some o ∧ foot c i o b) ↔ foot c id ob b := by
  refine ⟨fun ⟨i, o, h1, h2⟩ => ?_, fun h => ⟨id, ob, lk_self _ _ _, h⟩⟩
  rw [lk_cons] at h1
  split at h1
  · rename_i e
    subst e
    cases h1
    exact h2
  · cases h1
theorem tgt_ok {sz e : Nat} {x : AV} {ls : List (List AV)} {g : Os} (h : tgtOf os sz e x = some (ls, g)) : TgtOk os sz e x ls g := by
  unfold tgtOf at h
  split at h
  · cases h
    refine ⟨fun _ _ h => (by cases h), fun c w v hok hr => ⟨fun b => ⟨fun h => ?_, fun ⟨_, _, h, _⟩ => (by cases h)⟩, [], ⟨.inl ⟨hr.nilsl_, rfl⟩, by simp, by simp⟩, rfl, fun i us cs h => by simp at h⟩⟩
    rw [hr.nilsl_] at h
    cases h
  · rename_i id
    split at h
    · rename_i sz' ls' e' hid
      split at h
      · rename_i h1 h2
        obtain rfl := Nat.eq_of_beq_eq_true h1
        obtain rfl := Nat.eq_of_beq_eq_true h2
        cases h
        refine ⟨fun i o h => lk_one h hid, fun c w v hok hr => ?_⟩
        obtain ⟨A, n, cap, e1, e2, e3, e4⟩ := hr.own_
        obtain ⟨css, q1, q2, q3⟩ := hok.rep id _ (lk_self _ _ _)
        have hv : v = c.hd id := e1.trans e2.symm
        refine ⟨fun b => by rw [lk_iff, hv]; rfl, css, by rw [hv]; exact q1, q2, q3⟩
      · cases h
    · cases h
  · rename_i id n
    split at h
    · rename_i sz' ls' e' hid
      split at h
      · rename_i h1 h2
        obtain rfl := Nat.eq_of_beq_eq_true h1
        obtain rfl := Nat.eq_of_beq_eq_true h2
        cases h
        refine ⟨fun i o h => lk_one h hid, fun c w v hok hr => ?_⟩
        obtain ⟨A, m, cap, e1, e2, e3, e4, e5⟩ := hr.osl_
        obtain ⟨css, q1, q2, q3⟩ := hok.rep id _ (lk_self _ _ _)
        rw [e2] at q1
        have hown : v.ownBlock = (c.hd id).ownBlock := by rw [e1, e2]; cases A <;> rfl
        refine ⟨fun b => by rw [lk_iff, hown]; rfl, css.take n, by rw [e1]; exact q1.take e3, by simp [q2], fun i us cs hu hc => ?_⟩
        rw [List.getElem?_take] at hu hc
        split at hu
        · rename_i hi
          rw [if_pos hi] at hc
          exact q3 i us cs hu hc
        · cases hu
      · cases h
    · cases h
  · cases h
structure SrcOk (os : Os) (sz : Nat) (x : AV) (ls : List (List AV)) (g : Os) : Prop where
  sub : ∀ id o, lk g id = some o → lk os id = some o
  run : ∀ (c : Ctx) (w : World) (v : Value), HOk c w g → Rd c w v x → Src c.Φ w sz v ls
theorem src_ok {sz : Nat} {x : AV} {ls : List (List AV)} {g : Os} (h : srcOf os sz x = some (ls, g)) : SrcOk os sz x ls g := by
  unfold srcOf at h
  split at h
  · cases h
    exact ⟨fun _ _ h => (by cases h), fun c w v hok hr => by rw [hr.nilsl_]; exact Src.nil sz⟩
  · split at h
    · rename_i h1
      obtain rfl := Nat.eq_of_beq_eq_true h1
      cases h
      exact ⟨fun _ _ h => (by cases h), fun c w v hok hr => Src.of_rf hr⟩
    · cases h
  · rename_i id
    split at h
    · rename_i sz' ls' e' hid
      split at h
      · rename_i h1
        obtain rfl := Nat.eq_of_beq_eq_true h1
        cases h
        refine ⟨fun i o h => lk_one h hid, fun c w v hok hr => ?_⟩
        obtain ⟨A, n, cap, e1, e2, e3, e4⟩ := hr.own_
        rw [e1.trans e2.symm]
        exact Src.of_row (hok.rep id _ (lk_self _ _ _))
      · cases h
    · cases h
  · cases h
def stAppend (tab : Tab) (os : Os) (d : Nat) (t t' : TypeId) (x y : AV) (K : Kt) : Prop :=
  match lk tab t, Nat.beq t t' with
  | some ti, true => match ti.kind, lk tab ti.elem with
    | 2, some te => match Nat.ble 1 te.size, Nat.ble 1 te.bytes, tgtOf os te.size ti.elem x, srcOf os te.size y with
      | true, true, some (ls, g), some (ls2, g2) => match lk g d with
        | none => (ls.length + ls2.length) * te.bytes ≤ 140737488355328 ∧ ∃ q, leLs (ls ++ ls2) q ∧ K (.own d) ((g ++ g2).map (·.1)) [d] ((d, .row te.size q ti.elem) :: goneOf g)
        | some _ => False
      | _, _, _, _ => False
    | _, _ => False
  | _, _ => False
theorem st_append (hT : TabOk P tab) (d : Nat) {t t' : TypeId} {x y : Operand} (ho : o.op = .call { callee := .builtin .append, args := #[x, y], argTypes := #[t, t'] }) (h : stAppend tab os d t t' (ev x) (ev y) K) : Ans P o ev os K := by
  unfold stAppend at h
  split at h
  · rename_i ti hti htt
    obtain rfl := Nat.eq_of_beq_eq_true htt
    split at h
    · rename_i te hk hte
      split at h
      · rename_i ls g ls2 g2 hpos hpb htg hsr
        have hpos := Nat.le_of_ble_eq_true hpos
        have hpb := Nat.le_of_ble_eq_true hpb
        split at h
        · rename_i hgd
          obtain ⟨hb, q0, hq0, h⟩ := h
          have T := tgt_ok htg
          have S := src_ok hsr
          obtain ⟨s1, s2, s3⟩ := lk_app_sub T.sub S.sub
          refine fun _ => ⟨_, g ++ g2, _, [d], fun c w ρ hok hr => ?_, s1, fun id hid => (by simp at hid; subst hid; rw [lk_self]; rfl), h⟩
          have r1 := hr x (by simp [ho, Op.operands, Go.Call.operands])
          have r2 := hr y (by simp [ho, Op.operands, Go.Call.operands])
          obtain ⟨hgb, css, q1, q2, q3⟩ := T.run c w _ (hok.sub s3) r1
          have hsrc := S.run c w _ (hok.sub s2) r2
          have hl : css.length + ls2.length ≤ maxLen := by
            have : (ls.length + ls2.length) * 1 ≤ (ls.length + ls2.length) * te.bytes := Nat.mul_le_mul_left _ hpb
            simp only [maxLen]
            omega
          obtain ⟨v', w', css2, hrun, p1, p2, p3, p4, p5⟩ := run_append_src (P := P) (hT t ti hti) hk (hT _ te hte) hpos o.type q1 hsrc (by rw [q2]; exact hb) hl
          have hpost := Post.append (d := d) (ls := ls ++ ls2) (hok.sub s3) hgb hgd p3 p4 p2 (by simp [q2, p1]) (fun i us cs hu hc => by
            by_cases hi : i < css.length
            · rw [List.getElem?_append_left hi] at hu
              rw [List.getElem?_append_left (by omega)] at hc
              exact q3 i us cs hu hc
            · rw [List.getElem?_append_right (by omega)] at hu
              rw [List.getElem?_append_right (by omega), ← q2] at hc
              exact p5 _ us cs hu hc)
          have hex : (execOp ρ o).run P w = .ok (.value v') w' := by
            simp [execOp, ho, resolve, invoke, builtin, hrun]
          rw [hex]
          refine ⟨_, (hpost.leRow hq0).widen s3, ?_⟩
          obtain ⟨A, cap, hv, c1, c2⟩ := p2.head
          rw [hv]
          exact .own (by simp [Ctx.setHd]) c1 c2
        · exact h.elim
      · exact h.elim
    · exact h.elim
  · exact h.elim
end
end Go.Proofs.Ytioalgofaiideaa
