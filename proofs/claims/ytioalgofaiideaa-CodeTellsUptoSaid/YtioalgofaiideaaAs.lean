/- Operations over readings, one by one: what must hold, and what they then answer. No program in sight; types are told by the table. -/
import Derived.Test.YtioalgofaiideaaAa
import Derived.IntWalk
import Derived.Laws.Cover3
namespace Go.Proofs.Ytioalgofaiideaa
open Go.RowKit
set_option linter.unusedVariables false

def cAV : Value → AV
  | .int .i64 n => bif Nat.blt n.natAbs 4611686018427387904 then .int n else .any
  | .int k n => .ik k n
  | .bool b => .bool b
  | .string s => bif Nat.ble s.size 4294967296 then .str s else .any
  | .slice none 0 0 => .nilsl
  | .pointer none => .nilp
  | .nilFunc => .nilf
  | v => .con v
theorem cAV_rd (c : Ctx) (w : World) (v : Value) : Rd c w v (cAV v) := by
  unfold cAV
  split
  · rename_i n
    cases h : Nat.blt n.natAbs 4611686018427387904
    · exact .fz (.any _)
    · refine .fz (.int ?_)
      have := Nat.le_of_ble_eq_true h
      unfold InR
      omega
  · exact .fz (.ik _ _)
  · exact .fz (.bool _)
  · rename_i s
    cases h : Nat.ble s.size 4294967296
    · exact .fz (.any _)
    · refine .fz (.str ?_)
      have := Nat.le_of_ble_eq_true h
      simp only [maxLen]
      omega
  · exact .fz .nilsl
  · exact .fz .nilp
  · exact .fz .nilf
  · exact .fz (.con _)

def evO (ts : Ts) : Ev
  | .tmp t => match lk ts t with
    | some a => a
    | none => .any
  | .const v => cAV v
  | .global _ => .any
  | .func f => .fn f []
theorem evO_rd {c : Ctx} {w : World} {ts : Ts} {a : Act} (h : TsOk c w ts a) (x : Operand) : Rd c w (a.eval x) (evO ts x) := by
  cases x with
  | tmp t =>
    unfold evO Act.eval
    simp only
    cases hl : lk ts t with
    | none => exact Rd.any_ _
    | some av =>
      obtain ⟨v, h1, h2⟩ := h t av hl
      simp only [Array.getD_eq_getD_getElem?, h1, Option.getD_some]
      exact h2
  | const v => exact cAV_rd c w v
  | global g => exact Rd.any_ _
  | func f =>
    have := Rd.fn (c := c) (w := w) (f := f) .nil
    exact this

def AV.cells? : AV → Option (List AV)
  | .agg cs => match cs.all oneA with
    | true => some cs
    | false => none
  | .any => none
  | .tup _ => none
  | .con v => match v.oneCell' with
    | true => some [.con v]
    | false => none
  | a => some [a]
theorem cells?_rd {c : Ctx} {w : World} {v : Value} {a : AV} {cs : List AV} (h : Rd c w v a) (hc : a.cells? = some cs) : Rds c w v.cells.toList cs ∧ ∀ u ∈ v.cells.toList, u.oneCell' = true := by
  have single : oneA a = true → cs = [a] → Rds c w v.cells.toList cs ∧ ∀ u ∈ v.cells.toList, u.oneCell' = true := fun h1 h2 => by
    have hv := h.one h1
    have e : v.cells = #[v] := by cases v <;> first | rfl | cases hv
    rw [e, h2]
    exact ⟨.cons h .nil, by simpa using hv⟩
  cases a <;> simp only [AV.cells?, Option.some.injEq] at hc <;> first | (exact single rfl hc.symm) | cases hc | skip
  split at hc
  · rename_i h1
    cases hc
    obtain ⟨us, rfl, hr⟩ := h.agg_
    exact ⟨by simpa [Value.cells] using hr, by simpa [Value.cells] using hr.one h1⟩
  · cases hc
  · split at hc
    · rename_i h1
      exact single h1 (by injection hc with e; exact e.symm)
    · cases hc

section
variable {P : Program} {tab : Tab} {o : Oper} {ev : Ev} {os : Os} {K : Kt}

theorem ops1 {op : Op} {x : Operand} (h : op.operands = #[x]) {c : Ctx} {w : World} {ρ : Operand → Value} (hr : ∀ y ∈ op.operands.toList, Rd c w (ρ y) (ev y)) : Rd c w (ρ x) (ev x) := hr x (by rw [h]; simp)

/-! ### moves -/
theorem st_move {x : Operand} (ho : o.op = .move x ∨ o.op = .assign x) (h : K (ev x) [] [] []) : Ans P o ev os K :=
  .pure (fun c w ρ hr => ⟨ρ x, by rcases ho with ho | ho <;> simp [execOp, ho], hr x (by rcases ho with ho | ho <;> simp [ho, Op.operands])⟩) h

def pickAV : Bool → AV → AV → AV
  | true, a, _ => a
  | false, _, b => b
def bsel : Bool → Prop → Prop → Prop
  | true, X, _ => X
  | false, _, Y => Y
def stPick (ev : Ev) (c a b : Operand) (K : Kt) : Prop :=
  match ev c with
  | .bool y => bsel y (K (ev a) [] [] []) (K (ev b) [] [] [])
  | _ => False
theorem st_pick {x a b : Operand} (ho : o.op = .pick x a b) (h : stPick ev x a b K) : Ans P o ev os K := by
  unfold stPick at h
  split at h
  · rename_i y hy
    cases y
    · refine .pure (av := ev b) (fun c w ρ hr => ?_) h
      have h1 := hr x (by simp [ho, Op.operands])
      rw [hy] at h1
      exact ⟨ρ b, by simp [execOp, ho, h1.bool_, asBool], hr b (by simp [ho, Op.operands])⟩
    · refine .pure (av := ev a) (fun c w ρ hr => ?_) h
      have h1 := hr x (by simp [ho, Op.operands])
      rw [hy] at h1
      exact ⟨ρ a, by simp [execOp, ho, h1.bool_, asBool], hr a (by simp [ho, Op.operands])⟩
  · exact h.elim

/-! ### numbers, words, conditions -/
def stInt (op : BinOp) (a b : Int) (K : AV → Prop) : Prop :=
  match op with
  | .add => (InR (a + b) ∧ K (.int (a + b))) ∨ K (.int (IntKind.i64.wrap (a + b)))
  | .sub => (InR (a - b) ∧ K (.int (a - b))) ∨ K (.int (IntKind.i64.wrap (a - b)))
  | .mul => (InR (a * b) ∧ K (.int (a * b))) ∨ K (.int (IntKind.i64.wrap (a * b)))
  | .quo => b ≠ 0 ∧ InR (a.tdiv b) ∧ K (.int (a.tdiv b))
  | .rem => b ≠ 0 ∧ InR (a.tmod b) ∧ K (.int (a.tmod b))
  | .eql => K (.bool (decide (a = b)))
  | .neq => K (.bool (!decide (a = b)))
  | .lss => K (.bool (decide (a < b)))
  | .leq => K (.bool (decide (a ≤ b)))
  | .gtr => K (.bool (decide (b < a)))
  | .geq => K (.bool (decide (b ≤ a)))
  | _ => False
def stIk (op : BinOp) (k : IntKind) (a b : Int) (K : AV → Prop) : Prop :=
  match op with
  | .eql => K (.bool (decide (a = b)))
  | .neq => K (.bool (!decide (a = b)))
  | .lss => K (.bool (decide (a < b)))
  | .leq => K (.bool (decide (a ≤ b)))
  | .gtr => K (.bool (decide (b < a)))
  | .geq => K (.bool (decide (b ≤ a)))
  | .shr => b = 1 ∧ K (.ik k (a / 2))
  | _ => False
def ltS (a b : ByteArray) : Bool := Op.bytesLess a.toList b.toList
def stStr (op : BinOp) (a b : ByteArray) (K : AV → Prop) : Prop :=
  match op with
  | .add => a.size + b.size ≤ 4611686018427387904 ∧ K (.str (a ++ b))
  | .eql => K (.bool (decide (a = b)))
  | .neq => K (.bool (!decide (a = b)))
  | .lss => K (.bool (ltS a b))
  | .leq => K (.bool (ltS a b || decide (a = b)))
  | .gtr => K (.bool (!(ltS a b || decide (a = b))))
  | .geq => K (.bool (!ltS a b))
  | _ => False
def stEqB (op : BinOp) (r : Bool) (K : AV → Prop) : Prop :=
  match op with
  | .eql => K (.bool r)
  | .neq => K (.bool (!r))
  | _ => False
def stBin (tab : Tab) (et : EqTab) (op : BinOp) (t : TypeId) (x y : AV) (K : AV → Prop) : Prop :=
  match x, y with
  | .int a, .int b => stInt op a b K
  | .ik k a, .ik k' b => k = k' ∧ stIk op k a b K
  | .str a, .str b => stStr op a b K
  | .bool a, .bool b => match lk tab t with
    | some ti => match ti.kind with
      | 6 => stEqB op (decide (a = b)) K
      | _ => False
    | none => False
  | .agg xs, .agg ys => match lk et t with
    | some ks => match fitA ks xs && fitA ks ys with
      | true => stEqB op (eqAs xs ys) K
      | false => False
    | none => False
  | .ik k a, .int b => match op with
    | .shr => b = 1 ∧ K (.ik k (a / 2))
    | _ => False
  | .slb b, .nilsl => match lk tab t with
    | some ti => match ti.kind with
      | 2 => stEqB op b K
      | _ => False
    | none => False
  | .nilsl, .nilsl => match lk tab t with
    | some ti => match ti.kind with
      | 2 => stEqB op true K
      | _ => False
    | none => False
  | .fp _, .nilp => match lk tab t with
    | some ti => match ti.kind with
      | 7 => stEqB op false K
      | _ => False
    | none => False
  | .nilp, .nilp => match lk tab t with
    | some ti => match ti.kind with
      | 7 => stEqB op true K
      | _ => False
    | none => False
  | _, _ => False
theorem run_equalIn_ptr_nil (w : World) (d : Nat) (t e : TypeId) (a : Option Addr) (h : P.underlying t = some (.pointer e)) : (Op.equalIn (d + 1) t (.pointer a) (.pointer none)).run P w = .ok a.isNone w := by
  cases a <;> simp [Op.equalIn, run_underlying h]
theorem run_equal_ptr_nil (w : World) (t e : TypeId) (a : Option Addr) (h : P.underlying t = some (.pointer e)) : (Op.equal t (.pointer a) (.pointer none)).run P w = .ok a.isNone w := run_equalIn_ptr_nil w 9999 t e a h
theorem wrap_in (n : Int) : InR (IntKind.i64.wrap n) := by
  have hb : IntKind.i64.bits = 64 := rfl
  have hs : IntKind.i64.signed = true := rfl
  unfold InR IntKind.wrap
  rw [hb, hs]
  simp only [Bool.true_and, decide_eq_true_eq]
  split <;> omega
theorem stInt_ok {op : BinOp} {t : TypeId} {x y : Operand} {a b : Int} {K : AV → Prop} (h : stInt op a b K) :
    ∃ v av, K av ∧ ∀ (w : World) (Φ : Nat → Prop), (do eqGuard op t x y (.int .i64 a) (.int .i64 b); binOp op t (.int .i64 a) (.int .i64 b) : Sem Value).run P w = .ok v w ∧ Rf Φ w v av := by
  have wr : ∀ n, InR n → IntKind.i64.wrap n = n := fun n hn => IntWalk.i64_in n hn
  cases op <;> simp only [stInt] at h
  case add =>
    rcases h with h | h
    · exact ⟨.int .i64 (a + b), _, h.2, fun w Φ => ⟨by simp [eqGuard, binOp, Op.intArith, wr _ h.1], .int h.1⟩⟩
    · exact ⟨.int .i64 (IntKind.i64.wrap (a + b)), _, h, fun w Φ => ⟨by simp [eqGuard, binOp, Op.intArith], .int (wrap_in _)⟩⟩
  case sub =>
    rcases h with h | h
    · exact ⟨.int .i64 (a - b), _, h.2, fun w Φ => ⟨by simp [eqGuard, binOp, Op.intArith, wr _ h.1], .int h.1⟩⟩
    · exact ⟨.int .i64 (IntKind.i64.wrap (a - b)), _, h, fun w Φ => ⟨by simp [eqGuard, binOp, Op.intArith], .int (wrap_in _)⟩⟩
  case mul =>
    rcases h with h | h
    · exact ⟨.int .i64 (a * b), _, h.2, fun w Φ => ⟨by simp [eqGuard, binOp, Op.intArith, wr _ h.1], .int h.1⟩⟩
    · exact ⟨.int .i64 (IntKind.i64.wrap (a * b)), _, h, fun w Φ => ⟨by simp [eqGuard, binOp, Op.intArith], .int (wrap_in _)⟩⟩
  case quo => exact ⟨.int .i64 (a.tdiv b), _, h.2.2, fun w Φ => ⟨by simp [eqGuard, binOp, Op.intDiv, h.1, wr _ h.2.1], .int h.2.1⟩⟩
  case rem => exact ⟨.int .i64 (a.tmod b), _, h.2.2, fun w Φ => ⟨by simp [eqGuard, binOp, Op.intDiv, h.1], .int h.2.1⟩⟩
  case eql => exact ⟨.bool (decide (a = b)), _, h, fun w Φ => ⟨by simp [eqGuard, binOp, Op.intCmp, Bool.beq_eq_decide_eq], .bool _⟩⟩
  case neq => exact ⟨.bool (!decide (a = b)), _, h, fun w Φ => ⟨by simp [eqGuard, binOp, Op.intCmp, bne, Bool.beq_eq_decide_eq], .bool _⟩⟩
  case lss => exact ⟨.bool (decide (a < b)), _, h, fun w Φ => ⟨by simp [eqGuard, binOp, Op.intCmp], .bool _⟩⟩
  case leq => exact ⟨.bool (decide (a ≤ b)), _, h, fun w Φ => ⟨by simp [eqGuard, binOp, Op.intCmp], .bool _⟩⟩
  case gtr => exact ⟨.bool (decide (b < a)), _, h, fun w Φ => ⟨by simp [eqGuard, binOp, Op.intCmp], .bool _⟩⟩
  case geq => exact ⟨.bool (decide (b ≤ a)), _, h, fun w Φ => ⟨by simp [eqGuard, binOp, Op.intCmp], .bool _⟩⟩
theorem stIk_shr_ {w : World} {P : Program} {t : TypeId} {x y : Operand} {k : IntKind} {a : Int} : (do eqGuard .shr t x y (.int k a) (.int k 1); binOp .shr t (.int k a) (.int k 1) : Sem Value).run P w = .ok (.int k (a / 2)) w := by
  have hb : min (1 : Int).toNat k.bits = 1 := by cases k <;> rfl
  simp only [eqGuard, binOp, Op.shift, hb]
  simp [Int.fdiv_eq_ediv_of_nonneg]
theorem stIk_ok {op : BinOp} {t : TypeId} {x y : Operand} {k : IntKind} {a b : Int} {K : AV → Prop} (h : stIk op k a b K) :
    ∃ v av, K av ∧ ∀ (w : World) (Φ : Nat → Prop), (do eqGuard op t x y (.int k a) (.int k b); binOp op t (.int k a) (.int k b) : Sem Value).run P w = .ok v w ∧ Rf Φ w v av := by
  cases op <;> simp only [stIk] at h
  case shr => obtain ⟨rfl, h⟩ := h; exact ⟨.int k (a / 2), _, h, fun w Φ => ⟨stIk_shr_, .ik _ _⟩⟩
  case eql => exact ⟨.bool (decide (a = b)), _, h, fun w Φ => ⟨by simp [eqGuard, binOp, Op.intCmp, Bool.beq_eq_decide_eq], .bool _⟩⟩
  case neq => exact ⟨.bool (!decide (a = b)), _, h, fun w Φ => ⟨by simp [eqGuard, binOp, Op.intCmp, bne, Bool.beq_eq_decide_eq], .bool _⟩⟩
  case lss => exact ⟨.bool (decide (a < b)), _, h, fun w Φ => ⟨by simp [eqGuard, binOp, Op.intCmp], .bool _⟩⟩
  case leq => exact ⟨.bool (decide (a ≤ b)), _, h, fun w Φ => ⟨by simp [eqGuard, binOp, Op.intCmp], .bool _⟩⟩
  case gtr => exact ⟨.bool (decide (b < a)), _, h, fun w Φ => ⟨by simp [eqGuard, binOp, Op.intCmp], .bool _⟩⟩
  case geq => exact ⟨.bool (decide (b ≤ a)), _, h, fun w Φ => ⟨by simp [eqGuard, binOp, Op.intCmp], .bool _⟩⟩
theorem stStr_ok {op : BinOp} {t : TypeId} {x y : Operand} {a b : ByteArray} {K : AV → Prop} (h : stStr op a b K) :
    ∃ v av, K av ∧ ∀ (w : World) (Φ : Nat → Prop), (do eqGuard op t x y (.string a) (.string b); binOp op t (.string a) (.string b) : Sem Value).run P w = .ok v w ∧ Rf Φ w v av := by
  cases op <;> simp only [stStr] at h
  case add =>
    have hn : ¬ (((a.size + b.size : Nat) : Int) > IntKind.i64.max) := by
      have : IntKind.i64.max = 9223372036854775807 := by decide
      rw [this]; omega
    exact ⟨.string (a ++ b), _, h.2, fun w Φ => ⟨by simp only [eqGuard, binOp, Op.stringOp]; rw [if_neg hn]; simp, .str (by rw [ByteArray.size_append]; simp only [maxLen]; omega)⟩⟩
  case eql => exact ⟨.bool (decide (a = b)), _, h, fun w Φ => ⟨by simp [eqGuard, binOp, Op.stringOp, bytes_dec], .bool _⟩⟩
  case neq => exact ⟨.bool (!decide (a = b)), _, h, fun w Φ => ⟨by simp [eqGuard, binOp, Op.stringOp, bytes_dec], .bool _⟩⟩
  case lss => exact ⟨.bool (ltS a b), _, h, fun w Φ => ⟨by simp [eqGuard, binOp, Op.stringOp, ltS], .bool _⟩⟩
  case leq => exact ⟨.bool (ltS a b || decide (a = b)), _, h, fun w Φ => ⟨by simp [eqGuard, binOp, Op.stringOp, ltS, bytes_dec], .bool _⟩⟩
  case gtr => exact ⟨.bool (!(ltS a b || decide (a = b))), _, h, fun w Φ => ⟨by simp [eqGuard, binOp, Op.stringOp, ltS, bytes_dec], .bool _⟩⟩
  case geq => exact ⟨.bool (!ltS a b), _, h, fun w Φ => ⟨by simp [eqGuard, binOp, Op.stringOp, ltS], .bool _⟩⟩
theorem stEqB_ok {op : BinOp} {r : Bool} {K : AV → Prop} (h : stEqB op r K) : ∃ b, (op = .eql ∧ b = r ∨ op = .neq ∧ b = !r) ∧ K (.bool b) := by
  cases op <;> simp only [stEqB] at h
  · exact ⟨r, .inl ⟨rfl, rfl⟩, h⟩
  · exact ⟨!r, .inr ⟨rfl, rfl⟩, h⟩
theorem st_bin {et : EqTab} (hT : TabOk P tab) (hE : EqTabOk P et) {op : BinOp} {t ty : TypeId} {x y : Operand} (ho : o.op = .binOp op t x y ty) (h : stBin tab et op t (ev x) (ev y) (fun av => K av [] [] [])) : Ans P o ev os K := by
  have opx : ∀ {c : Ctx} {w : World} {ρ : Operand → Value}, (∀ z ∈ o.op.operands.toList, Rd c w (ρ z) (ev z)) → Rd c w (ρ x) (ev x) ∧ Rd c w (ρ y) (ev y) := fun hr => ⟨hr x (by simp [ho, Op.operands]), hr y (by simp [ho, Op.operands])⟩
  have run : ∀ (ρ : Operand → Value) (w : World), (execOp ρ o).run P w = ((do eqGuard op t x y (ρ x) (ρ y); binOp op t (ρ x) (ρ y) : Sem Value).run P w).andThen fun v w' => .ok (.value v) w' := fun ρ w => by
    simp only [execOp, ho, Sem.run_bind]
    simp
  -- what is the same in every world
  have close : ∀ av : AV, K av [] [] [] → (∀ (c : Ctx) (w : World) (ρ : Operand → Value), Rd c w (ρ x) (ev x) → Rd c w (ρ y) (ev y) → ∃ v, (do eqGuard op t x y (ρ x) (ρ y); binOp op t (ρ x) (ρ y) : Sem Value).run P w = .ok v w ∧ Rd c w v av) → Ans P o ev os K := fun av hK hh =>
    .pure (fun c w ρ hr => by
      obtain ⟨v, h1, h2⟩ := hh c w ρ (opx hr).1 (opx hr).2
      exact ⟨v, by rw [run, h1]; rfl, h2⟩) hK
  unfold stBin at h
  split at h
  · rename_i a b hx hy
    obtain ⟨v, av, h1, h2⟩ := stInt_ok (P := P) (t := t) (x := x) (y := y) h
    refine close av h1 fun c w ρ r1 r2 => ?_
    rw [hx] at r1
    rw [hy] at r2
    rw [r1.int_.1, r2.int_.1]
    exact ⟨v, (h2 w c.Φ).1, .fz (h2 w c.Φ).2⟩
  · rename_i k a k' b hx hy
    obtain ⟨rfl, h⟩ := h
    obtain ⟨v, av, h1, h2⟩ := stIk_ok (P := P) (t := t) (x := x) (y := y) h
    refine close av h1 fun c w ρ r1 r2 => ?_
    rw [hx] at r1
    rw [hy] at r2
    rw [r1.ik_, r2.ik_]
    exact ⟨v, (h2 w c.Φ).1, .fz (h2 w c.Φ).2⟩
  · rename_i a b hx hy
    obtain ⟨v, av, h1, h2⟩ := stStr_ok (P := P) (t := t) (x := x) (y := y) h
    refine close av h1 fun c w ρ r1 r2 => ?_
    rw [hx] at r1
    rw [hy] at r2
    rw [r1.str_.1, r2.str_.1]
    exact ⟨v, (h2 w c.Φ).1, .fz (h2 w c.Φ).2⟩
  · rename_i a b hx hy
    split at h
    · rename_i ti hti
      split at h
      · rename_i hk
        obtain ⟨d, hd, hdk⟩ := (hT t ti hti).und
        have hd' : P.underlying t = some .bool := by
          cases d <;> simp only [dOk, hk, Bool.and_eq_true, decide_eq_true_eq] at hdk <;> first | omega | exact hd
        obtain ⟨r, hr, h1⟩ := stEqB_ok h
        refine close _ h1 fun c w ρ r1 r2 => ?_
        rw [hx] at r1
        rw [hy] at r2
        rw [r1.bool_, r2.bool_]
        have e := run_equalIn_bool' (P := P) w 9999 t a b hd'
        refine ⟨.bool r, ?_, .fz (.bool _)⟩
        rcases hr with ⟨rfl, rfl⟩ | ⟨rfl, rfl⟩
        · simp [eqGuard, binOp, Op.equal, Op.maxDepth, e, Bool.beq_eq_decide_eq]
        · simp [eqGuard, binOp, Op.equal, Op.maxDepth, e, Bool.beq_eq_decide_eq]
      · exact h.elim
    · exact h.elim
  · rename_i xs ys hx hy
    split at h
    · rename_i ks hks
      split at h
      · rename_i hf
        simp only [Bool.and_eq_true] at hf
        obtain ⟨r, hr, h1⟩ := stEqB_ok h
        refine close _ h1 fun c w ρ r1 r2 => ?_
        rw [hx] at r1
        rw [hy] at r2
        obtain ⟨us, e1, q1⟩ := r1.agg_
        obtain ⟨vs, e2, q2⟩ := r2.agg_
        have f1 := fitA_run hf.1 hf.2 q1 q2
        have f2 := fitA_run hf.2 hf.1 q2 q1
        have e := (hE t ks hks).run w f1.1 f2.1
        have g := run_eqGuard_agg (P := P) w op t x y us.toArray vs.toArray (hE t ks hks).guard
        refine ⟨.bool r, ?_, .fz (.bool _)⟩
        rw [e1, e2]
        rcases hr with ⟨rfl, rfl⟩ | ⟨rfl, rfl⟩
        · simp [g, run_eql_struct, e, f1.2]
        · simp [g, run_neq_struct, e, f1.2]
      · exact h.elim
    · exact h.elim
  · rename_i k a b hx hy
    split at h
    · obtain ⟨rfl, h⟩ := h
      refine close _ h fun c w ρ r1 r2 => ?_
      rw [hx] at r1
      rw [hy] at r2
      rw [r1.ik_, r2.int_.1]
      refine ⟨.int k (a / 2), ?_, .fz (.ik _ _)⟩
      have hb : min (1 : Int).toNat k.bits = 1 := by cases k <;> rfl
      simp only [eqGuard, binOp, Op.shift, hb]
      simp [Int.fdiv_eq_ediv_of_nonneg]
    · exact h.elim
  · rename_i b hx hy
    split at h
    · rename_i ti hti
      split at h
      · rename_i hk
        have hu := (hT t ti hti).slice_ hk
        obtain ⟨r, hr, h1⟩ := stEqB_ok h
        refine close _ h1 fun c w ρ r1 r2 => ?_
        rw [hx] at r1
        rw [hy] at r2
        obtain ⟨A, n, k, e1, e2⟩ : ∃ A n k, ρ x = .slice A n k ∧ b = A.isNone := r1.slb_
        rw [e1, r2.nilsl_]
        have e := run_equal_slice_nil (P := P) w t ti.elem A n k hu
        refine ⟨.bool r, ?_, .fz (.bool _)⟩
        rw [e2] at hr
        rcases hr with ⟨rfl, rfl⟩ | ⟨rfl, rfl⟩
        · simp [eqGuard, binOp, e]
        · simp [eqGuard, binOp, e]
      · exact h.elim
    · exact h.elim
  · rename_i hx hy
    split at h
    · rename_i ti hti
      split at h
      · rename_i hk
        have hu := (hT t ti hti).slice_ hk
        obtain ⟨r, hr, h1⟩ := stEqB_ok h
        refine close _ h1 fun c w ρ r1 r2 => ?_
        rw [hx] at r1
        rw [hy] at r2
        obtain ⟨A, n, k, e1, e2⟩ : ∃ A n k, ρ x = .slice A n k ∧ true = A.isNone := ⟨none, 0, 0, r1.nilsl_, rfl⟩
        rw [e1, r2.nilsl_]
        have e := run_equal_slice_nil (P := P) w t ti.elem A n k hu
        refine ⟨.bool r, ?_, .fz (.bool _)⟩
        rw [e2] at hr
        rcases hr with ⟨rfl, rfl⟩ | ⟨rfl, rfl⟩
        · simp [eqGuard, binOp, e]
        · simp [eqGuard, binOp, e]
      · exact h.elim
    · exact h.elim
  · rename_i cs hx hy
    split at h
    · rename_i ti hti
      split at h
      · rename_i hk
        obtain ⟨el, hu⟩ := (hT t ti hti).ptr_ hk
        obtain ⟨r, hr, h1⟩ := stEqB_ok h
        refine close _ h1 fun c w ρ r1 r2 => ?_
        rw [hx] at r1
        rw [hy] at r2
        obtain ⟨b0, o0, us0, e1, -, -, -⟩ := r1.fp_
        rw [e1, r2.nilp_]
        have e := run_equal_ptr_nil (P := P) w t el (some ⟨b0, o0, none⟩) hu
        refine ⟨.bool r, ?_, .fz (.bool _)⟩
        rcases hr with ⟨rfl, rfl⟩ | ⟨rfl, rfl⟩
        · simp [eqGuard, binOp, e]
        · simp [eqGuard, binOp, e]
      · exact h.elim
    · exact h.elim
  · rename_i hx hy
    split at h
    · rename_i ti hti
      split at h
      · rename_i hk
        obtain ⟨el, hu⟩ := (hT t ti hti).ptr_ hk
        obtain ⟨r, hr, h1⟩ := stEqB_ok h
        refine close _ h1 fun c w ρ r1 r2 => ?_
        rw [hx] at r1
        rw [hy] at r2
        rw [r1.nilp_, r2.nilp_]
        have e := run_equal_ptr_nil (P := P) w t el none hu
        refine ⟨.bool r, ?_, .fz (.bool _)⟩
        rcases hr with ⟨rfl, rfl⟩ | ⟨rfl, rfl⟩
        · simp [eqGuard, binOp, e]
        · simp [eqGuard, binOp, e]
      · exact h.elim
    · exact h.elim
  · exact h.elim
end
end Go.Proofs.Ytioalgofaiideaa
