/- Operations over readings, the third part: elements, slices, lengths, stores, boxes. No program in sight; types are told by the table. -/
import Derived.Test.YtioalgofaiideaaAs2
namespace Go.Proofs.Ytioalgofaiideaa
open Go.RowKit
set_option linter.unusedVariables false

section
variable {P : Program} {tab : Tab} {o : Oper} {ev : Ev} {os : Os} {K : Kt}

/-! ### an element's address -/
def stIndexAddr (tab : Tab) (os : Os) (t : TypeId) (x ix : AV) (K : Kt) : Prop :=
  match lk tab t, ix with
  | some ti, .int i => match ti.kind, lk tab ti.elem with
    | 2, some te => match x with
      | .sl sz ls => match Nat.beq sz te.size with
        | true => 0 ≤ i ∧ i < ls.length ∧ ∀ cs, ls[i.toNat]? = some cs → rng cs → K (.fp cs) [] [] []
        | false => False
      | .own id => match lk os id with
        | some (.row sz ls _) => match Nat.beq sz te.size with
          | true => 0 ≤ i ∧ i < ls.length ∧ K (.ep id i.toNat sz 0) [id] [] []
          | false => False
        | _ => False
      | .osl id n => match lk os id with
        | some (.row sz ls _) => match Nat.beq sz te.size with
          | true => 0 ≤ i ∧ i < n ∧ n ≤ ls.length ∧ K (.ep id i.toNat sz 0) [id] [] []
          | false => False
        | _ => False
      | _ => False
    | 3, some te => match movA x (i.toNat * te.size) with
      | some y => 0 ≤ i ∧ i < ti.len ∧ K y [] [] []
      | none => False
    | _, _ => False
  | _, _ => False
theorem run_indexAt_slice {t e : TypeId} {te : TI} (ht : P.underlying t = some (.slice e)) (hE : TIok P e te) {w : World} {b p n cap : Nat} {i : Int} (h0 : 0 ≤ i) (h1 : i < n) :
    (Instr.indexAt t (.slice (some ⟨b, p, none⟩) n cap) (.int .i64 i)).run P w = .ok (.pointer (some ⟨b, p + i.toNat * te.size, none⟩)) w := by
  simp [Instr.indexAt, asIntOf, run_underlying ht, h0, h1, hE.run_size, adr_add]
theorem st_indexAddr (hT : TabOk P tab) {t : TypeId} {x ix : Operand} (ho : o.op = .indexAddr t x ix) (h : stIndexAddr tab os t (ev x) (ev ix) K) : Ans P o ev os K := by
  have run : ∀ (ρ : Operand → Value) (w : World), (execOp ρ o).run P w = ((Instr.indexAt t (ρ x) (ρ ix)).run P w).andThen fun v w' => .ok (.value v) w' := fun ρ w => by simp [execOp, ho]
  have opx : ∀ {c : Ctx} {w : World} {ρ : Operand → Value}, (∀ z ∈ o.op.operands.toList, Rd c w (ρ z) (ev z)) → Rd c w (ρ x) (ev x) ∧ Rd c w (ρ ix) (ev ix) := fun hr => ⟨hr x (by simp [ho, Op.operands]), hr ix (by simp [ho, Op.operands])⟩
  unfold stIndexAddr at h
  split at h
  · rename_i ti i hti hi
    split at h
    · rename_i te hk hte
      have ht := (hT t ti hti).slice_ hk
      have hE := hT _ te hte
      split at h
      · rename_i sz ls hx
        split at h
        · rename_i hsz
          obtain rfl := Nat.eq_of_beq_eq_true hsz
          obtain ⟨h0, h1, h⟩ := h
          have hlt : i.toNat < ls.length := by omega
          have hcs : ls[i.toNat]? = some ls[i.toNat] := List.getElem?_eq_getElem hlt
          refine .have (p := rng ls[i.toNat]) (fun c w ρ hok hr => ?_) fun hrng => .pure (fun c w ρ hr => ?_) (h _ hcs hrng)
          · have r1 := (opx hr).1
            rw [hx] at r1
            obtain ⟨A, k, us, b, p, e, g1, g2, g3, g4, g5, g6, g7⟩ := r1.sl_
            exact (g6 _ _ hcs).rng
          obtain ⟨r1, r2⟩ := opx hr
          rw [hx] at r1
          rw [hi] at r2
          obtain ⟨A, k, us, b, p, e, g1, g2, g3, g4, g5, g6, g7⟩ := r1.sl_
          obtain ⟨rfl, hb⟩ := g3 (by omega)
          refine ⟨_, by rw [run, e, r2.int_.1, run_indexAt_slice ht hE h0 h1]; rfl, .fz (.fp hb (fun j u hj => ?_) (g6 _ _ hcs))⟩
          exact g5 _ _ hcs j u hj
        · exact h.elim
      · rename_i id hx
        split at h
        · rename_i sz ls e hid
          split at h
          · rename_i hsz
            obtain rfl := Nat.eq_of_beq_eq_true hsz
            obtain ⟨h0, h1, h⟩ := h
            refine .read hid (fun c w ρ hrep hr => ?_) h
            obtain ⟨r1, r2⟩ := opx hr
            rw [hx] at r1
            rw [hi] at r2
            obtain ⟨A, n, cap, e1, hh, _, _⟩ := r1.own_
            obtain ⟨css, q1, q2, q3⟩ := hrep
            have hlt : 0 < css.length := by omega
            obtain ⟨g, x', cap', hv, hg, _⟩ := q1.cells (List.getElem?_eq_getElem hlt)
            rw [hh] at hv
            injection hv with a1 a2 a3
            subst a1 a2 a3
            refine ⟨_, by rw [run, e1, r2.int_.1, run_indexAt_slice ht hE h0 (by omega)]; rfl, ?_⟩
            exact .ep (off := 0) hh
          · exact h.elim
        · exact h.elim
      · rename_i id n hx
        split at h
        · rename_i sz ls e hid
          split at h
          · rename_i hsz
            obtain rfl := Nat.eq_of_beq_eq_true hsz
            obtain ⟨h0, h1, h2, h⟩ := h
            refine .read hid (fun c w ρ hrep hr => ?_) h
            obtain ⟨r1, r2⟩ := opx hr
            rw [hx] at r1
            rw [hi] at r2
            obtain ⟨A, m, cap, e1, hh, _, _⟩ := r1.osl_
            obtain ⟨css, q1, q2, q3⟩ := hrep
            have hlt : 0 < css.length := by omega
            obtain ⟨g, x', cap', hv, hg, _⟩ := q1.cells (List.getElem?_eq_getElem hlt)
            rw [hh] at hv
            injection hv with a1 a2 a3
            subst a1 a2 a3
            refine ⟨_, by rw [run, e1, r2.int_.1, run_indexAt_slice ht hE h0 h1]; rfl, ?_⟩
            exact .ep (off := 0) hh
          · exact h.elim
        · exact h.elim
      · exact h.elim
    · rename_i te hk hte
      split at h
      · rename_i y hy
        obtain ⟨h0, h1, h⟩ := h
        have ht := (hT t ti hti).array_ hk
        refine .pure (fun c w ρ hr => ?_) h
        obtain ⟨r1, r2⟩ := opx hr
        rw [hi] at r2
        obtain ⟨b, p, e, hrd⟩ := movA_rd r1 hy
        refine ⟨_, ?_, hrd⟩
        rw [run, e, r2.int_.1]
        simp [Instr.indexAt, asIntOf, run_underlying ht, Instr.sureAddr, h0, h1, (hT _ te hte).run_size, adr_add]
      · exact h.elim
    · exact h.elim
  · exact h.elim

/-- a byte of a string -/
def stIndex (tab : Tab) (t : TypeId) (x ix : AV) (K : Kt) : Prop :=
  match lk tab t, x, ix with
  | some ti, .str s, .int i => match ti.kind with
    | 4 => 0 ≤ i ∧ i < s.size ∧ ∀ u, s[i.toNat]? = some u → K (.ik .u8 u.toNat) [] [] []
    | _ => False
  | _, _, _ => False
theorem st_index (hT : TabOk P tab) {t : TypeId} {x ix : Operand} (ho : o.op = .index t x ix) (h : stIndex tab t (ev x) (ev ix) K) : Ans P o ev os K := by
  unfold stIndex at h
  split at h
  · rename_i ti s i hti hx hi
    split at h
    · rename_i hk
      obtain ⟨h0, hlt, h⟩ := h
      have hlt' : i.toNat < s.size := by omega
      have hu : s[i.toNat]? = some s[i.toNat] := by simp [hlt']
      refine .pure (fun c w ρ hr => ?_) (h _ hu)
      have r1 := hr x (by simp [ho, Op.operands])
      have r2 := hr ix (by simp [ho, Op.operands])
      rw [hx] at r1
      rw [hi] at r2
      refine ⟨.int .u8 s[i.toNat].toNat, ?_, .fz (.ik _ _)⟩
      simp [execOp, ho, Instr.index, asIntOf, r1.str_.1, r2.int_.1, run_underlying ((hT t ti hti).string_ hk), h0, hu]
    · exact h.elim
  · exact h.elim

/-! ### builtins: lengths, the greater, the lesser -/
def stLen (os : Os) (x : AV) (K : Kt) : Prop :=
  match x with
  | .sl _ ls => ∀ n : Nat, n = ls.length → n ≤ maxLen → K (.int n) [] [] []
  | .nilsl => K (.int 0) [] [] []
  | .str s => s.size ≤ maxLen → K (.int s.size) [] [] []
  | .own id => match lk os id with
    | some (.row _ ls _) => ∀ n : Nat, n = ls.length → n ≤ maxLen → K (.int n) [id] [] []
    | _ => False
  | .osl _ n => n ≤ maxLen → K (.int n) [] [] []
  | _ => False
theorem inR_nat {n : Nat} (h : n ≤ maxLen) : InR n := by unfold InR; simp only [maxLen] at h; omega
theorem st_len (hT : TabOk P tab) {x : Operand} {t : TypeId} (ho : o.op = .call { callee := .builtin .len, args := #[x], argTypes := #[t] })
    (hk : match lk tab t, ev x with | some ti, .str _ => ti.kind = 4 | some ti, _ => ti.kind = 2 | _, _ => False) (h : stLen os (ev x) K) : Ans P o ev os K := by
  have opx : ∀ {c : Ctx} {w : World} {ρ : Operand → Value}, (∀ z ∈ o.op.operands.toList, Rd c w (ρ z) (ev z)) → Rd c w (ρ x) (ev x) := fun hr => hr x (by simp [ho, Op.operands, Go.Call.operands])
  have runsl : ∀ (ρ : Operand → Value) (w : World) {A : Option Addr} {n cap : Nat} {e : TypeId}, P.underlying t = some (.slice e) → ρ x = .slice A n cap → (execOp ρ o).run P w = .ok (.value (.int .i64 n)) w := fun ρ w A n cap e ht hx => by
    simp [execOp, ho, resolve, invoke, builtin, Builtin.len_, run_underlying ht, hx, goInt]
  unfold stLen at h
  cases hl : lk tab t with
  | none => rw [hl] at hk; exact hk.elim
  | some ti =>
    rw [hl] at hk
    split at h
    · rename_i sz ls hx
      rw [hx] at hk
      have ht := (hT t ti hl).slice_ hk
      refine .have (p := ls.length ≤ maxLen) (fun c w ρ hok hr => ?_) fun hm => .pure (fun c w ρ hr => ?_) (h _ rfl hm)
      · have r := opx hr
        rw [hx] at r
        obtain ⟨A, k, us, b, p, e, g1, g2, _⟩ := r.sl_
        omega
      · have r := opx hr
        rw [hx] at r
        obtain ⟨A, k, us, b, p, e, g1, g2, _⟩ := r.sl_
        exact ⟨_, runsl ρ w ht e, .fz (.int (inR_nat hm))⟩
    · rename_i hx
      rw [hx] at hk
      have ht := (hT t ti hl).slice_ hk
      refine .pure (fun c w ρ hr => ?_) h
      have r := opx hr
      rw [hx] at r
      exact ⟨_, runsl ρ w ht r.nilsl_, .fz (.int (by simp [InR]))⟩
    · rename_i s hx
      rw [hx] at hk
      have ht := (hT t ti hl).string_ hk
      refine .have (p := s.size ≤ maxLen) (fun c w ρ hok hr => ?_) fun hm => .pure (fun c w ρ hr => ?_) (h hm)
      · have r := opx hr
        rw [hx] at r
        exact r.str_.2
      · have r := opx hr
        rw [hx] at r
        exact ⟨_, by simp [execOp, ho, resolve, invoke, builtin, Builtin.len_, run_underlying ht, r.str_.1, goInt], .fz (.int (inR_nat hm))⟩
    · rename_i id hx
      rw [hx] at hk
      have ht := (hT t ti hl).slice_ hk
      split at h
      · rename_i sz ls e hid
        have len_ : ∀ (c : Ctx) (w : World) (ρ : Operand → Value), ORep c w id (.row sz ls e) → Rd c w (ρ x) (.own id) → ∃ A cap, ρ x = .slice A ls.length cap ∧ ls.length ≤ maxLen := fun c w ρ hrep r => by
          obtain ⟨A, n, cap, e1, hh, b1, b2⟩ := r.own_
          obtain ⟨css, q1, q2, q3⟩ := hrep
          obtain ⟨A', cap', hv, b3, b4⟩ := q1.head
          rw [hh] at hv
          injection hv with a1 a2 a3
          exact ⟨A, cap, by rw [e1, a2, q2], by omega⟩
        refine .have (p := ls.length ≤ maxLen) (fun c w ρ hok hr => ?_) fun hm => .read hid (fun c w ρ hrep hr => ?_) (h _ rfl hm)
        · have r := opx hr
          rw [hx] at r
          obtain ⟨A, cap, e1, hm⟩ := len_ c w ρ (hok.rep id _ hid) r
          exact hm
        · have r := opx hr
          rw [hx] at r
          obtain ⟨A, cap, e1, hm⟩ := len_ c w ρ hrep r
          exact ⟨_, runsl ρ w ht e1, .fz (.int (inR_nat hm))⟩
      · exact h.elim
    · rename_i id n hx
      rw [hx] at hk
      have ht := (hT t ti hl).slice_ hk
      refine .have (p := n ≤ maxLen) (fun c w ρ hok hr => ?_) fun hm => .pure (fun c w ρ hr => ?_) (h hm)
      · have r := opx hr
        rw [hx] at r
        obtain ⟨A, m, cap, e, _, g1, g2, g3⟩ := r.osl_
        omega
      · have r := opx hr
        rw [hx] at r
        obtain ⟨A, m, cap, e, _, g1, g2, g3⟩ := r.osl_
        exact ⟨_, runsl ρ w ht e, .fz (.int (inR_nat hm))⟩
    · exact h.elim
end
end Go.Proofs.Ytioalgofaiideaa
