/- Operations over readings, the eighth part: cuts, conversions, calls. No program in sight; types are told by the table. -/
import Derived.Test.YtioalgofaiideaaAs7
namespace Go.Proofs.Ytioalgofaiideaa
open Go.RowKit
set_option linter.unusedVariables false

section
variable {P : Program} {tab : Tab} {o : Oper} {ev : Ev} {os : Os} {K : Kt}

/-! ### x[a:b] -/
def evOpt (ev : Ev) : Option Operand → Option AV
  | none => none
  | some x => some (ev x)
def stSlice (tab : Tab) (os : Os) (d : Nat) (t : TypeId) (x : AV) (lo hi : Option AV) (K : Kt) : Prop :=
  match lk tab t with
  | some ti => match x, lo, hi with
    | .sl sz ls, none, some (.int b) => ti.kind = 2 ∧ (lk tab ti.elem).isSome = true ∧ 0 ≤ b ∧ b ≤ ls.length ∧ ∀ q, q = ls.take b.toNat → K (.sl sz q) [] [] []
    | .sl sz ls, some (.int a), none => match lk tab ti.elem with
      | some te => ti.kind = 2 ∧ te.size = sz ∧ 0 ≤ a ∧ a ≤ ls.length ∧ ∀ q, q = ls.drop a.toNat → K (.sl sz q) [] [] []
      | none => False
    | .own id, none, some (.int b) => match lk os id with
      | some (.row _ ls _) => ti.kind = 2 ∧ (lk tab ti.elem).isSome = true ∧ 0 ≤ b ∧ b ≤ ls.length ∧ K (.osl id b.toNat) [id] [] []
      | _ => False
    | .osl id n, none, some (.int b) => ti.kind = 2 ∧ (lk tab ti.elem).isSome = true ∧ 0 ≤ b ∧ b ≤ n ∧ K (.osl id b.toNat) [] [] []
    | .own id, some (.int a), none => match lk os id, lk tab ti.elem, Nat.beq id d with
      | some (.row sz ls e), some te, false => ti.kind = 2 ∧ te.size = sz ∧ 0 ≤ a ∧ a ≤ ls.length ∧ ∀ q, q = ls.drop a.toNat → K (.own d) [id] [d] [(d, .row sz q e), (id, .gone)]
      | _, _, _ => False
    | .str s, some (.int a), some (.int b) => ti.kind = 4 ∧ 0 ≤ a ∧ a ≤ b ∧ b ≤ s.size ∧ K (.str (s.extract a.toNat b.toNat)) [] [] []
    | _, _, _ => False
  | none => False
theorem map_add_zero (A : Option Addr) (k cap : Nat) : (if cap = 0 then A else A.map (·.add (0 * k))) = A := by
  split
  · rfl
  · cases A <;> simp [Addr.add]
theorem run_slice_hi {t e : TypeId} {te : TI} (ht : P.underlying t = some (.slice e)) (hE : TIok P e te) {w : World} {A : Option Addr} {n cap : Nat} {b : Int} (h0 : 0 ≤ b) (h1 : b ≤ cap) :
    (Instr.sliceAt t (.slice A n cap) none (some (.int .i64 b)) none).run P w = .ok (.slice A b.toNat cap) w := by
  have e := map_add_zero A te.size cap
  simp only [Nat.zero_mul] at e
  simp [Instr.sliceAt, run_underlying ht, Instr.slice, Instr.sliceBounds, Instr.sliceBound, asIntOf, h0, h1, hE.run_size, e]
theorem Rd.cut {c : Ctx} {w : World} {v : Value} {sz : Nat} {ls : List (List AV)} (h : Rd c w v (.sl sz ls)) {b : Nat} (hb : b ≤ ls.length) : ∃ A n cap, v = .slice A n cap ∧ ls.length ≤ cap ∧ Rd c w (.slice A b cap) (.sl sz (ls.take b)) := by
  obtain ⟨A, k, us, g, p, e, g1, g2, g3, g4, g5, g6, g7⟩ := h.sl_
  have hl : (ls.take b).length = b := by rw [List.length_take]; omega
  refine ⟨A, ls.length, k, e, g1, .fz ?_⟩
  have key : ∀ i cs, (ls.take b)[i]? = some cs → ls[i]? = some cs := fun i cs hi => by
    rw [List.getElem?_take] at hi
    split at hi
    · exact hi
    · cases hi
  have := Rf.sl (Φ := c.Φ) (w := w) (A := A) (c := k) (sz := sz) (ls := ls.take b) us g p (by rw [hl]; omega) g2 (fun hp => g3 (by omega)) (fun i cs hi => g4 i cs (key i cs hi)) (fun i cs hi => g5 i cs (key i cs hi)) (fun i cs hi => g6 i cs (key i cs hi)) (fun i cs hi => g7 i cs (key i cs hi))
  rwa [hl] at this
theorem Rd.off {c : Ctx} {w : World} {v : Value} {sz : Nat} {ls : List (List AV)} (h : Rd c w v (.sl sz ls)) {a : Nat} (ha : a ≤ ls.length) : ∃ A cap, v = .slice A ls.length cap ∧ ls.length ≤ cap ∧ Rd c w (.slice (if cap = a then A else A.map (·.add (a * sz))) (ls.length - a) (cap - a)) (.sl sz (ls.drop a)) := by
  obtain ⟨A, k, us, g, p, e, g1, g2, g3, g4, g5, g6, g7⟩ := h.sl_
  have hl : (ls.drop a).length = ls.length - a := by rw [List.length_drop]
  refine ⟨A, k, e, g1, .fz ?_⟩
  have key : ∀ i cs, (ls.drop a)[i]? = some cs → ls[a + i]? = some cs := fun i cs hi => by rwa [List.getElem?_drop] at hi
  have := Rf.sl (Φ := c.Φ) (w := w) (A := if k = a then A else A.map (·.add (a * sz))) (c := k - a) (sz := sz) (ls := ls.drop a) (fun i => us (a + i)) g (p + a * sz) (by rw [hl]; omega) (by omega) (fun hp => by
      obtain ⟨rfl, hb⟩ := g3 (by omega)
      rw [if_neg (by omega)]
      exact ⟨by simp [adr_add], hb⟩) (fun i cs hi => g4 _ cs (key i cs hi)) (fun i cs hi j u hj => by
      have := g5 _ cs (key i cs hi) j u hj
      rw [Nat.add_mul] at this
      rwa [show p + a * sz + i * sz + j = p + (a * sz + i * sz) + j by omega]) (fun i cs hi => g6 _ cs (key i cs hi)) (fun i cs hi => g7 _ cs (key i cs hi))
  rwa [hl] at this
theorem run_slice_lo {t e : TypeId} {te : TI} (ht : P.underlying t = some (.slice e)) (hE : TIok P e te) {w : World} {A : Option Addr} {n cap : Nat} {a : Int} (h0 : 0 ≤ a) (h1 : a ≤ n) :
    (Instr.sliceAt t (.slice A n cap) (some (.int .i64 a)) none none).run P w = .ok (.slice (if cap = a.toNat then A else A.map (·.add (a.toNat * te.size))) (n - a.toNat) (cap - a.toNat)) w := by
  simp [Instr.sliceAt, run_underlying ht, Instr.slice, Instr.sliceBounds, Instr.sliceBound, asIntOf, h0, h1, hE.run_size]
theorem st_slice (hT : TabOk P tab) (d : Nat) {t : TypeId} {x : Operand} {lo hi : Option Operand} (ho : o.op = .slice t x lo hi none) (h : stSlice tab os d t (ev x) (evOpt ev lo) (evOpt ev hi) K) : Ans P o ev os K := by
  have opx : ∀ {c : Ctx} {w : World} {ρ : Operand → Value}, (∀ z ∈ o.op.operands.toList, Rd c w (ρ z) (ev z)) → Rd c w (ρ x) (ev x) ∧ (∀ l, lo = some l → Rd c w (ρ l) (ev l)) ∧ (∀ l, hi = some l → Rd c w (ρ l) (ev l)) := fun hr =>
    ⟨hr x (by simp [ho, Op.operands]), fun l hl => hr l (by simp [ho, Op.operands, hl]), fun l hl => hr l (by simp [ho, Op.operands, hl])⟩
  have run : ∀ (ρ : Operand → Value) (w : World) (v : Value), (Instr.sliceAt t (ρ x) (lo.map ρ) (hi.map ρ) none).run P w = .ok v w → (execOp ρ o).run P w = .ok (.value v) w := fun ρ w v h => by simp [execOp, ho, h]
  unfold stSlice at h
  split at h
  · rename_i ti hti
    split at h
    · rename_i sz ls b hx hlo hhi
      obtain ⟨hk, hsome, h0, h1, h⟩ := h
      obtain ⟨te, hte⟩ := Option.isSome_iff_exists.1 hsome
      have ht := (hT t ti hti).slice_ hk
      obtain ⟨rfl⟩ : lo = none := by cases lo <;> simp_all [evOpt]
      cases hi with
      | none => simp [evOpt] at hhi
      | some l =>
        simp only [evOpt, Option.some.injEq] at hhi
        refine .pure (fun c w ρ hr => ?_) (h _ rfl)
        obtain ⟨r1, _, r2⟩ := opx hr
        have r2 := r2 l rfl
        rw [hx] at r1
        rw [hhi] at r2
        obtain ⟨A, n, cap, e, hc, hr'⟩ := r1.cut (b := b.toNat) (by omega)
        refine ⟨_, run ρ w _ ?_, hr'⟩
        rw [e]
        simp only [Option.map_none, Option.map_some, r2.int_.1]
        exact run_slice_hi ht (hT _ te hte) h0 (by omega)
    · rename_i sz ls a hx hlo hhi
      split at h
      · rename_i te hte
        obtain ⟨hk, rfl, h0, h1, h⟩ := h
        have ht := (hT t ti hti).slice_ hk
        obtain ⟨rfl⟩ : hi = none := by cases hi <;> simp_all [evOpt]
        cases lo with
        | none => simp [evOpt] at hlo
        | some l =>
          simp only [evOpt, Option.some.injEq] at hlo
          refine .pure (fun c w ρ hr => ?_) (h _ rfl)
          obtain ⟨r1, r2, _⟩ := opx hr
          have r2 := r2 l rfl
          rw [hx] at r1
          rw [hlo] at r2
          obtain ⟨A, cap, e, hc, hr'⟩ := r1.off (a := a.toNat) (by omega)
          refine ⟨_, run ρ w _ ?_, hr'⟩
          rw [e]
          simp only [Option.map_none, Option.map_some, r2.int_.1]
          exact run_slice_lo ht (hT _ te hte) h0 (by omega)
      · exact h.elim
    · rename_i id b hx hlo hhi
      split at h
      · rename_i sz ls e hid
        obtain ⟨hk, hsome, h0, h1, h⟩ := h
        obtain ⟨te, hte⟩ := Option.isSome_iff_exists.1 hsome
        have ht := (hT t ti hti).slice_ hk
        obtain ⟨rfl⟩ : lo = none := by cases lo <;> simp_all [evOpt]
        cases hi with
        | none => simp [evOpt] at hhi
        | some l =>
          simp only [evOpt, Option.some.injEq] at hhi
          refine .read hid (fun c w ρ hrep hr => ?_) h
          obtain ⟨r1, _, r2⟩ := opx hr
          have r2 := r2 l rfl
          rw [hx] at r1
          rw [hhi] at r2
          obtain ⟨A, n, cap, e1, e2, e3, e4⟩ := r1.own_
          obtain ⟨css, q1, q2, q3⟩ := hrep
          obtain ⟨A', cap', hv, _, _⟩ := q1.head
          rw [e2] at hv
          injection hv with a1 a2 a3
          refine ⟨.slice A b.toNat cap, run ρ w _ ?_, .osl e2 (by omega) e3 e4⟩
          rw [e1]
          simp only [Option.map_none, Option.map_some, r2.int_.1]
          exact run_slice_hi ht (hT _ te hte) h0 (by omega)
      · exact h.elim
    · rename_i id n b hx hlo hhi
      obtain ⟨hk, hsome, h0, h1, h⟩ := h
      obtain ⟨te, hte⟩ := Option.isSome_iff_exists.1 hsome
      have ht := (hT t ti hti).slice_ hk
      obtain ⟨rfl⟩ : lo = none := by cases lo <;> simp_all [evOpt]
      cases hi with
      | none => simp [evOpt] at hhi
      | some l =>
        simp only [evOpt, Option.some.injEq] at hhi
        refine .pure (fun c w ρ hr => ?_) h
        obtain ⟨r1, _, r2⟩ := opx hr
        have r2 := r2 l rfl
        rw [hx] at r1
        rw [hhi] at r2
        obtain ⟨A, m, cap, e1, e2, e3, e4, e5⟩ := r1.osl_
        refine ⟨.slice A b.toNat cap, run ρ w _ ?_, .osl e2 (by omega) e4 e5⟩
        rw [e1]
        simp only [Option.map_none, Option.map_some, r2.int_.1]
        exact run_slice_hi ht (hT _ te hte) h0 (by omega)
    · rename_i id a hx hlo hhi
      split at h
      · rename_i sz ls e te hid hte hdne
        obtain ⟨hk, rfl, h0, h1, h⟩ := h
        have hdne : id ≠ d := fun e => by subst e; simp at hdne
        have ht := (hT t ti hti).slice_ hk
        obtain ⟨rfl⟩ : hi = none := by cases hi <;> simp_all [evOpt]
        cases lo with
        | none => simp [evOpt] at hlo
        | some l =>
          simp only [evOpt, Option.some.injEq] at hlo
          refine fun _ => ⟨_, [(id, .row te.size ls e)], _, [d], fun c w ρ hok hr => ?_, fun i ob h => lk_one h hid, fun i hi => (by simp at hi; subst hi; rw [lk_self]; rfl), h _ rfl⟩
          obtain ⟨r1, r2, _⟩ := opx hr
          have r2 := r2 l rfl
          rw [hx] at r1
          rw [hlo] at r2
          obtain ⟨A, n, cap, e1, e2, e3, e4⟩ := r1.own_
          obtain ⟨css, q1, q2, q3⟩ := hok.rep id _ (lk_self _ _ _)
          rw [e2] at q1
          have hn : n = css.length := by
            obtain ⟨A', cap', hv, _, _⟩ := q1.head
            injection hv with _ a _
          have hd := q1.drop (n := a.toNat) (by omega)
          have hrun : (execOp ρ o).run P w = .ok (.value (.slice (if cap = a.toNat then A else A.map (·.add (a.toNat * te.size))) (n - a.toNat) (cap - a.toNat))) w := by
            refine run ρ w _ ?_
            rw [e1]
            simp only [Option.map_none, Option.map_some, r2.int_.1]
            rw [run_slice_lo ht (hT _ te hte) h0 (by omega)]
          have hblk : (Value.slice (if cap = a.toNat then A else A.map (·.add (a.toNat * te.size))) (n - a.toNat) (cap - a.toNat)).ownBlock = (c.hd id).ownBlock := by
            rw [e2]
            cases A <;> by_cases hc : cap = a.toNat <;> simp [Value.ownBlock, hc, Addr.add]
            split <;> rfl
          have hp := Post.append (d := d) (w' := w) (hdv := c.hd id) (ls := ls.drop a.toNat) hok (fun b => by rw [lk_iff]; rfl) (by rw [lk_ne _ _ hdne]; rfl) (World.grownBy.refl w _) (.inl hblk) hd (by simp [q2]) (fun i us cs hu hc => by
            rw [List.getElem?_drop] at hu hc
            exact q3 _ us cs hu hc)
          rw [hrun]
          exact ⟨_, hp, .own (by simp [Ctx.setHd]) (by omega) (by omega)⟩
      · exact h.elim
    · rename_i s a b hx hlo hhi
      obtain ⟨hk, h0, h1, h2, h⟩ := h
      have ht := (hT t ti hti).string_ hk
      cases lo with
      | none => simp [evOpt] at hlo
      | some l1 =>
        cases hi with
        | none => simp [evOpt] at hhi
        | some l2 =>
          simp only [evOpt, Option.some.injEq] at hlo hhi
          refine .pure (fun c w ρ hr => ?_) h
          obtain ⟨r1, r2, r3⟩ := opx hr
          have r2 := r2 l1 rfl
          have r3 := r3 l2 rfl
          rw [hx] at r1
          rw [hlo] at r2
          rw [hhi] at r3
          refine ⟨.string (s.extract a.toNat b.toNat), run ρ w _ ?_, .fz (.str ?_)⟩
          · rw [r1.str_.1]
            simp only [Option.map_some, r2.int_.1, r3.int_.1]
            have e1 : (0 : Int) ≤ b := by omega
            have e2 : a.toNat ≤ b.toNat := by omega
            simp [Instr.sliceAt, run_underlying ht, Instr.slice, Instr.sliceBounds, Instr.sliceBound, asIntOf, h0, e1, h2]
            intro hlt
            omega
          · have := r1.str_.2
            rw [ByteArray.size_extract]
            omega
    · exact h.elim
  · exact h.elim

/-! ### min, max -/
def stMin (x y : AV) (K : Kt) : Prop :=
  match x, y with
  | .int a, .int b => K (.int (min a b)) [] [] []
  | _, _ => False
def stMax (x y : AV) (K : Kt) : Prop :=
  match x, y with
  | .int a, .int b => K (.int (max a b)) [] [] []
  | _, _ => False
theorem st_min {x y : Operand} {ts : Array TypeId} (ho : o.op = .call { callee := .builtin .min, args := #[x, y], argTypes := ts }) (h : stMin (ev x) (ev y) K) : Ans P o ev os K := by
  unfold stMin at h
  split at h
  · rename_i a b hx hy
    refine .pure (fun c w ρ hr => ?_) h
    have r1 := hr x (by simp [ho, Op.operands, Go.Call.operands])
    have r2 := hr y (by simp [ho, Op.operands, Go.Call.operands])
    rw [hx] at r1
    rw [hy] at r2
    refine ⟨.int .i64 (min a b), ?_, .fz (.int ?_)⟩
    · have e : (if b < a then b else a) = min a b := by split <;> omega
      simp [execOp, ho, resolve, invoke, builtin, Builtin.min_, Builtin.min2, r1.int_.1, r2.int_.1, e]
    · have h1 := r1.int_.2
      have h2 := r2.int_.2
      unfold InR at *
      omega
  · exact h.elim
theorem st_max {x y : Operand} {ts : Array TypeId} (ho : o.op = .call { callee := .builtin .max, args := #[x, y], argTypes := ts }) (h : stMax (ev x) (ev y) K) : Ans P o ev os K := by
  unfold stMax at h
  split at h
  · rename_i a b hx hy
    refine .pure (fun c w ρ hr => ?_) h
    have r1 := hr x (by simp [ho, Op.operands, Go.Call.operands])
    have r2 := hr y (by simp [ho, Op.operands, Go.Call.operands])
    rw [hx] at r1
    rw [hy] at r2
    refine ⟨.int .i64 (max a b), ?_, .fz (.int ?_)⟩
    · have e : (if a < b then b else a) = max a b := by split <;> omega
      simp [execOp, ho, resolve, invoke, builtin, Builtin.max_, Builtin.max2, r1.int_.1, r2.int_.1, e]
    · have h1 := r1.int_.2
      have h2 := r2.int_.2
      unfold InR at *
      omega
  · exact h.elim

/-! ### conversions between numbers -/
def stConv (tab : Tab) (src dst : TypeId) (x : AV) (K : Kt) : Prop :=
  match lk tab src, lk tab dst with
  | some _, some td => match td.kind, td.ik, x with
    | 5, .i64, .int n => K (.int n) [] [] []
    | 5, .i64, .ik _ n => InR n ∧ K (.int n) [] [] []
    | 5, .u64, .int n => 0 ≤ n ∧ K (.ik .u64 n) [] [] []
    | 4, _, .str s => K (.str s) [] [] []
    | _, _, _ => False
  | _, _ => False
theorem st_conv (hT : TabOk P tab) {src dst : TypeId} {x : Operand} (ho : o.op = .convert src dst x) (h : stConv tab src dst (ev x) K) : Ans P o ev os K := by
  unfold stConv at h
  split at h
  · rename_i tsr td hs hd
    obtain ⟨ds, hds, _⟩ := (hT src _ hs).und
    split at h
    · rename_i n hk hik hx
      have hu := (hT dst _ hd).int_ hk
      rw [hik] at hu
      refine .pure (fun c w ρ hr => ?_) h
      have r1 := hr x (by simp [ho, Op.operands])
      rw [hx] at r1
      exact ⟨_, by simp [execOp, ho, convert, run_underlying hds, run_underlying hu, r1.int_.1, Conv.intToInt, IntWalk.i64_in _ r1.int_.2], .fz (.int r1.int_.2)⟩
    · rename_i k n hk hik hx
      have hu := (hT dst _ hd).int_ hk
      rw [hik] at hu
      refine .pure (fun c w ρ hr => ?_) h.2
      have r1 := hr x (by simp [ho, Op.operands])
      rw [hx] at r1
      exact ⟨_, by simp [execOp, ho, convert, run_underlying hds, run_underlying hu, r1.ik_, Conv.intToInt, IntWalk.i64_in _ h.1], .fz (.int h.1)⟩
    · rename_i n hk hik hx
      have hu := (hT dst _ hd).int_ hk
      rw [hik] at hu
      refine .pure (fun c w ρ hr => ?_) h.2
      have r1 := hr x (by simp [ho, Op.operands])
      rw [hx] at r1
      have h2 := r1.int_.2
      have hw : IntKind.u64.wrap n = n := by
        unfold InR at h2
        have h0 := h.1
        simp [IntKind.wrap, IntKind.bits, IntKind.signed]
        omega
      exact ⟨_, by simp [execOp, ho, convert, run_underlying hds, run_underlying hu, r1.int_.1, Conv.intToInt, hw], .fz (.ik _ _)⟩
    · rename_i s hk hx
      have hu := (hT dst _ hd).string_ hk
      refine .pure (fun c w ρ hr => ?_) h
      have r1 := hr x (by simp [ho, Op.operands])
      rw [hx] at r1
      exact ⟨.string s, by simp [execOp, ho, convert, run_underlying hds, run_underlying hu, r1.str_.1], .fz (.str r1.str_.2)⟩
    · exact h.elim
  · exact h.elim

/-! ### calls -/
def callable (P : Program) (f : Nat) : Bool :=
  match P.funcs[f]? with
  | some fn => fn.body.isSome && !(fn.name == "runtime.NumGoroutine")
  | none => false
/-- A CONTRACT: called with whatever reads so, with such objects at hand, it returns what reads as 'av', and leaves 'upd' in those objects' place and beside them. -/
def Spec (P : Program) (f : Nat) (need : Os) (ins : List AV) (av : AV) (upd : Os) (news : List Nat) : Prop :=
  callable P f = true ∧ (∀ id ∈ news, (lk upd id).isSome = true) ∧ ∀ (c : Ctx) (w : World) (args : Array Value), HOk c w need → Rds c w args.toList ins →
    Calls P f args w fun e w' => ∃ v c', e = .returned v ∧ Post c w c' w' need upd news ∧ Rd c' w' v av

/-- rows among arguments, and in structs' values among them, frozen -/
def fzC (os : Os) : List AV → List AV × Os
  | [] => ([], [])
  | .own id :: l => match lk os id with
    | some (.row sz ls e) => (.sl sz ls :: (fzC os l).1, (id, .row sz ls e) :: (fzC os l).2)
    | _ => (.own id :: (fzC os l).1, (fzC os l).2)
  | .nst id :: l => match lk os id with
    | some (.nest sz e isz ie z) => (.sl sz (nFlat isz z) :: (fzC os l).1, (id, .nest sz e isz ie z) :: (fzC os l).2)
    | _ => (.nst id :: (fzC os l).1, (fzC os l).2)
  | a :: l => (a :: (fzC os l).1, (fzC os l).2)
def fzArgs (os : Os) : List AV → List AV × Os
  | [] => ([], [])
  | .own id :: l => match lk os id with
    | some (.row sz ls e) => (.sl sz ls :: (fzArgs os l).1, (id, .row sz ls e) :: (fzArgs os l).2)
    | _ => (.own id :: (fzArgs os l).1, (fzArgs os l).2)
  | .nst id :: l => match lk os id with
    | some (.nest sz e isz ie z) => (.sl sz (nFlat isz z) :: (fzArgs os l).1, (id, .nest sz e isz ie z) :: (fzArgs os l).2)
    | _ => (.nst id :: (fzArgs os l).1, (fzArgs os l).2)
  | .agg cs :: l => (.agg (fzC os cs).1 :: (fzArgs os l).1, (fzC os cs).2 ++ (fzArgs os l).2)
  | a :: l => (a :: (fzArgs os l).1, (fzArgs os l).2)
structure FzcOk (os : Os) (as r : List AV) (g : Os) : Prop where
  sub : ∀ id o, lk g id = some o → lk os id = some o
  ids : ∀ id o, lk g id = some o → o.ids = []
  run : ∀ (c : Ctx) (w : World) (us : List Value), HOk c w g → Rds c w us as → Rds (c.fz g) w us r
theorem Rd.fzmono {c : Ctx} {w : World} {g g' : Os} (h : ∀ id o, lk g id = some o → lk g' id = some o) {v : Value} {a : AV} (hr : Rd (c.fz g) w v a) : Rd (c.fz g') w v a :=
  Rd.mono (c := c.fz g) (c' := c.fz g') (fun _ _ => rfl) (fzΦ_mono (c := c) h) (fun _ _ => ⟨rfl, rfl⟩) hr
theorem Rds.fzmono {c : Ctx} {w : World} {g g' : Os} (h : ∀ id o, lk g id = some o → lk g' id = some o) {v : List Value} {a : List AV} (hr : Rds (c.fz g) w v a) : Rds (c.fz g') w v a :=
  Rds.mono (c := c.fz g) (c' := c.fz g') (fun _ _ => rfl) (fzΦ_mono (c := c) h) (fun _ _ => ⟨rfl, rfl⟩) hr
theorem Rd.fz0 {c : Ctx} {w : World} (g : Os) {v : Value} {a : AV} (hr : Rd c w v a) : Rd (c.fz g) w v a :=
  Rd.mono (c := c) (c' := c.fz g) (fun _ _ => rfl) (fun _ h => Or.inl h) (fun _ _ => ⟨rfl, rfl⟩) hr
theorem own_fz {c : Ctx} {w : World} {g : Os} {id sz e : Nat} {ls : List (List AV)} {v : Value} (hok : HOk c w g) (hg : lk g id = some (.row sz ls e)) (hr : Rd c w v (.own id)) : Rd (c.fz g) w v (.sl sz ls) := by
  obtain ⟨css, q1, q2, q3⟩ := hok.rep id _ hg
  obtain ⟨A, n, cap, e1, e2, _⟩ := hr.own_
  refine .fz ?_
  rw [e1, ← e2]
  exact q1.rf q2 q3 (fun b hb => .inl hb) fun b hb => .inr ⟨id, _, hg, hb⟩
theorem FzcOk.cons' {id : Nat} {a b : AV} {o : Obj} {l r : List AV} {g : Os} (hid : lk os id = some o) (ho : o.ids = []) (hrun : ∀ (c : Ctx) (w : World) (v : Value) (g : Os), HOk c w g → lk g id = some o → Rd c w v a → Rd (c.fz g) w v b) (H : FzcOk os l r g) : FzcOk os (a :: l) (b :: r) ((id, o) :: g) := by
  have hs : ∀ i x, lk ((id, o) :: g) i = some x → lk os i = some x := fun i x h => by
    rw [lk_cons] at h
    split at h
    · rename_i e1; subst e1; cases h; exact hid
    · exact H.sub i x h
  refine ⟨hs, fun i x h => ?_, fun c w us hok h => ?_⟩
  · rw [lk_cons] at h
    split at h
    · cases h; exact ho
    · exact H.ids i x h
  · cases h with | cons h t =>
      have hsub : ∀ i x, lk g i = some x → lk ((id, o) :: g) i = some x := fun i x hi => by
        rw [lk_cons]
        split
        · rename_i e1
          subst e1
          rw [← hid, H.sub _ _ hi]
        · exact hi
      exact .cons (hrun c w _ _ hok (lk_self _ _ _) h) ((H.run c w _ (hok.sub hsub) t).fzmono hsub)
theorem FzcOk.cons {id sz e : Nat} {ls : List (List AV)} {l r : List AV} {g : Os} (hid : lk os id = some (.row sz ls e)) (H : FzcOk os l r g) : FzcOk os (.own id :: l) (.sl sz ls :: r) ((id, .row sz ls e) :: g) :=
  .cons' hid rfl (fun c w v g hok hg h => own_fz hok hg h) H
theorem RowRep.rf {Φ Φ' : Nat → Prop} {w : World} {hdv : Value} {sz e : Nat} {ls : List (List AV)} (h : RowRep Φ w hdv sz ls e) (hΦ : ∀ b, Φ b → Φ' b) (hb : ∀ b, hdv.ownBlock = some b → Φ' b) : Rf Φ' w hdv (.sl sz ls) := by
  obtain ⟨css, q1, q2, q3⟩ := h
  exact q1.rf q2 q3 hΦ hb
theorem Rfs.unsnoc {Φ : Nat → Prop} {w : World} : ∀ {us : List Value} {as : List AV} {a : AV}, Rfs Φ w us (as ++ [a]) → ∃ us' v, us = us' ++ [v] ∧ Rfs Φ w us' as ∧ Rf Φ w v a
  | _, [], _, .cons h .nil => ⟨[], _, rfl, .nil, h⟩
  | _, _ :: as, a, .cons h t => by
    obtain ⟨us', v, e1, h1, h2⟩ := Rfs.unsnoc (as := as) (a := a) t
    exact ⟨_ :: us', v, by rw [e1]; rfl, .cons h h1, h2⟩
theorem nst_fz {c : Ctx} {w : World} {g : Os} {id sz e isz ie : Nat} {l : List (List AV × List (List AV))} {v : Value} (hok : HOk c w g) (hg : lk g id = some (.nest sz e isz ie l)) (hr : Rd c w v (.nst id)) : Rd (c.fz g) w v (.sl sz (nFlat isz l)) := by
  obtain ⟨h, z, e0, e1, ⟨css, q1, q2, q3⟩, r3, r4⟩ := hok.rep id _ hg
  obtain ⟨A, n, cap, vs, e2, e3, _⟩ := hr.nst_
  have hev : v = h.v := by
    rw [e0] at e3
    have : h.v :: z.map (·.1.v) = Value.slice A n cap :: vs := by simpa using e3
    rw [e2]
    exact (List.cons.inj this).1.symm
  have hin : ∀ x ∈ hdsOf (c.hd id), ∀ b, x.ownBlock = some b → fzΦ c g b := fun x hx b hb => .inr ⟨id, _, hg, x, hx, hb⟩
  rw [e0] at hin
  subst e1
  refine .fz ?_
  rw [hev]
  refine q1.rf (Φ := fzΦ c g) (by simpa [nOut, nFlat] using q2) (fun i us cs hu hc => ?_) (fun _ h => h) fun b hb => hin h.v (by simp [hdsOf]) b hb
  simp only [nFlat, List.map_map, List.getElem?_map, Option.map_eq_some_iff] at hc
  obtain ⟨p, hp, rfl⟩ := hc
  have := q3 i us (p.2.1 ++ [.con p.1.v]) hu (by simp [nOut, hp])
  obtain ⟨us', v', rfl, k1, k2⟩ := this.unsnoc
  have hv' : v' = p.1.v := by cases k2; rfl
  subst hv'
  have hpm := List.mem_of_getElem? hp
  exact (Rfs.mono (fun _ _ => rfl) (fun b hb => .inl hb) k1).append (.cons ((r3.1 (p.1, p.2.2) (List.mem_map.2 ⟨p, hpm, rfl⟩)).rf (fun b hb => .inl hb) fun b hb => hin p.1.v (by show _ ∈ (h.v :: z.map (·.1.v)).toArray.toList; exact List.mem_cons_of_mem _ (List.mem_map.2 ⟨p, hpm, rfl⟩)) b hb) .nil)
theorem FzcOk.skip {a : AV} {l r : List AV} {g : Os} (H : FzcOk os l r g) : FzcOk os (a :: l) (a :: r) g :=
  ⟨H.sub, H.ids, fun c w us hok h => by cases h with | cons h t => exact .cons (h.fz0 g) (H.run c w _ hok t)⟩
theorem fzC_ok : ∀ as : List AV, FzcOk os as (fzC os as).1 (fzC os as).2 := by
  intro as
  fun_induction fzC os as with
  | case1 => exact ⟨fun _ _ h => (by cases h), fun _ _ h => (by cases h), fun c w us _ h => by cases h; exact .nil⟩
  | case2 id l sz ls e hid ih => exact .cons hid ih
  | case3 id l hid ih => exact .skip ih
  | case4 id l sz e isz ie z hid ih => exact .cons' hid rfl (fun c w v g hok hg h => nst_fz hok hg h) ih
  | case5 id l hid ih => exact .skip ih
  | case6 a l hne hne2 ih => exact .skip ih
theorem fzArgs_ok : ∀ as : List AV, FzcOk os as (fzArgs os as).1 (fzArgs os as).2 := by
  intro as
  fun_induction fzArgs os as with
  | case1 => exact ⟨fun _ _ h => (by cases h), fun _ _ h => (by cases h), fun c w us _ h => by cases h; exact .nil⟩
  | case2 id l sz ls e hid ih => exact .cons hid ih
  | case3 id l hid ih => exact .skip ih
  | case4 id l sz e isz ie z hid ih => exact .cons' hid rfl (fun c w v g hok hg h => nst_fz hok hg h) ih
  | case5 id l hid ih => exact .skip ih
  | case6 cs l ih =>
    have C := fzC_ok (os := os) cs
    obtain ⟨s1, s2, s3⟩ := lk_app_sub C.sub ih.sub
    refine ⟨s1, fun id o h => ?_, fun c w us hok h => ?_⟩
    · rw [lk_append] at h
      cases hg : lk (fzC os cs).2 id with
      | some x => rw [hg] at h; simp at h; subst h; exact C.ids id x hg
      | none => rw [hg] at h; simp at h; exact ih.ids id o h
    · cases h with | cons h t =>
        obtain ⟨vs, rfl, hv⟩ := h.agg_
        exact .cons (.agg ((C.run c w _ (hok.sub s3) hv).fzmono s3)) ((ih.run c w _ (hok.sub s2) t).fzmono s2)
  | case7 a l h1 h2 h3 ih => exact .skip ih

/-- one reading tells no more than another -/
def leB : AV → AV → Prop
  | .agg cs, .agg ds => leCs cs ds
  | a, b => leC a b
def leTs : List AV → List AV → Prop
  | [], [] => True
  | a :: as, b :: bs => leB a b ∧ leTs as bs
  | _, _ => False
def leA : AV → AV → Prop
  | .agg cs, .agg ds => leCs cs ds
  | .tup cs, .tup ds => leTs cs ds
  | a, b => leC a b
def leAs : List AV → List AV → Prop
  | [], [] => True
  | a :: as, b :: bs => leA a b ∧ leAs as bs
  | _, _ => False
theorem leC_rd {c : Ctx} {w : World} {v : Value} {a b : AV} (h : leC a b) (hr : Rd c w v a) : Rd c w v b := by
  unfold leC at h
  split at h
  · exact Rd.any_ v
  · rename_i sz ls
    subst h
    rw [hr.nilsl_]
    exact .fz (.sl (ls := []) (fun _ => []) 0 0 (Nat.le_refl _) (by simp [maxLen]) (fun h => absurd h (by simp)) (fun i cs h => by simp at h) (fun i cs h => by simp at h) (fun i cs h => by simp at h) (fun i cs h => by simp at h))
  · exact h ▸ hr
theorem leCs_rds {c : Ctx} {w : World} : ∀ {us : List Value} {as bs : List AV}, leCs as bs → Rds c w us as → Rds c w us bs
  | _, [], [], _, .nil => .nil
  | _, _ :: _, _ :: _, h, .cons x t => .cons (leC_rd h.1 x) (leCs_rds h.2 t)
theorem leB_rd {c : Ctx} {w : World} {v : Value} {a b : AV} (h : leB a b) (hr : Rd c w v a) : Rd c w v b := by
  unfold leB at h
  split at h
  · obtain ⟨us, rfl, hu⟩ := hr.agg_
    exact .agg (leCs_rds h hu)
  · exact leC_rd h hr
theorem leTs_rds {c : Ctx} {w : World} : ∀ {us : List Value} {xs bs : List AV}, leTs xs bs → Rds c w us xs → Rds c w us bs
  | _, [], [], _, .nil => .nil
  | _, _ :: _, _ :: _, h, .cons x t => .cons (leB_rd h.1 x) (leTs_rds h.2 t)
theorem leA_rd {c : Ctx} {w : World} {v : Value} {a b : AV} (h : leA a b) (hr : Rd c w v a) : Rd c w v b := by
  unfold leA at h
  split at h
  · obtain ⟨us, rfl, hu⟩ := hr.agg_
    exact .agg (leCs_rds h hu)
  · obtain ⟨us, rfl, hu⟩ := hr.tup_
    exact .tup (leTs_rds h hu)
  · exact leC_rd h hr
theorem leAs_rds {c : Ctx} {w : World} : ∀ {us : List Value} {as bs : List AV}, leAs as bs → Rds c w us as → Rds c w us bs
  | _, [], [], _, .nil => .nil
  | _, _ :: _, _ :: _, h, .cons x t => .cons (leA_rd h.1 x) (leAs_rds h.2 t)
end
end Go.Proofs.Ytioalgofaiideaa
