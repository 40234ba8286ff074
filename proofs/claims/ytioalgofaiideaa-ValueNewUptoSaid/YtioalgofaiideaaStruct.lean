/- Structs held one against another: what '==' and '!=' answer. -/
import Derived.Test.YtioalgofaiideaaValue
import Derived.Test.YtioalgofaiideaaApp
import Derived.Test.YtioalgofaiideaaProg
import Derived.Laws.StructEq
namespace Go.Proofs.Ytioalgofaiideaa
open Go.RowKit
set_option linter.unusedVariables false

theorem bytes_beq (a b : ByteArray) : (a.toList == b.toList) = decide (a = b) := by
  rw [← beq_toListBytes]
  by_cases h : a = b
  · subst h
    rw [beq_toListBytes]
    simp
  · rw [decide_eq_false h]
    have : (a == b) ≠ true := by
      intro hh
      apply h
      have h2 : a.data = b.data := by
        obtain ⟨⟨x⟩⟩ := a
        obtain ⟨⟨y⟩⟩ := b
        have : ((⟨x⟩ : Array UInt8) == ⟨y⟩) = true := hh
        simpa using this
      obtain ⟨x⟩ := a
      obtain ⟨y⟩ := b
      simp at h2
      rw [h2]
    simpa using this

/-- two structs of two numbers -/
def b2 (a b c d : Int) : Bool := decide (a = c ∧ b = d)
theorem b2_iff {a b c d : Int} : b2 a b c d = true ↔ a = c ∧ b = d := by simp [b2]
/-- two sites -/
def b3 (a : Int) (s : ByteArray) (b : Int) (c : Int) (t : ByteArray) (d : Int) : Bool := decide (a = c ∧ s = t ∧ b = d)
theorem b3_iff {a b c d : Int} {s t : ByteArray} : b3 a s b c t d = true ↔ a = c ∧ s = t ∧ b = d := by simp [b3]
/-- two instructions -/
def b5 (a b c d : Int) (s : ByteArray) (a' b' c' d' : Int) (t : ByteArray) : Bool := decide (a = a' ∧ b = b' ∧ c = c' ∧ d = d' ∧ s = t)
theorem b5_iff {a b c d a' b' c' d' : Int} {s t : ByteArray} : b5 a b c d s a' b' c' d' t = true ↔ a = a' ∧ b = b' ∧ c = c' ∧ d = d' ∧ s = t := by simp [b5]

section
variable {P : Program} (w : World)
/-- the fields one by one -/
theorem eqFields_cons (d : Nat) (xs ys : Array Value) (f : Field) (fs : List Field) (x y : Value) (c : Bool) (hn : f.name ≠ "_") (hx : (part f.type xs f.offset).run P w = .ok x w) (hy : (part f.type ys f.offset).run P w = .ok y w)
    (hc : (Op.equalIn d f.type x y).run P w = .ok c w) : (Op.eqFields d xs ys (f :: fs)).run P w = if c = true then (Op.eqFields d xs ys fs).run P w else .ok false w := by
  simp only [Op.eqFields, if_pos hn, Sem.run_bind, hx, hy, hc, Result.andThen_ok]
  cases c <;> simp
end
theorem eql_Line (a b c d : Int) (w : World) : (binOp .eql 29 (.agg #[.int .i64 a, .int .i64 b]) (.agg #[.int .i64 c, .int .i64 d])).run Try.prog w = .ok (.bool (b2 a b c d)) w := by
  by_cases h1 : a = c <;> by_cases h2 : b = d <;> simp [go_sem, b2, h1, h2, Try.underlying29, Try.underlying3]
theorem neq_Line (a b c d : Int) (w : World) : (binOp .neq 29 (.agg #[.int .i64 a, .int .i64 b]) (.agg #[.int .i64 c, .int .i64 d])).run Try.prog w = .ok (.bool (!b2 a b c d)) w := by
  by_cases h1 : a = c <;> by_cases h2 : b = d <;> simp [go_sem, b2, h1, h2, Try.underlying29, Try.underlying3]
theorem eql_Value (a b c d : Int) (w : World) : (binOp .eql 45 (.agg #[.int .i64 a, .int .i64 b]) (.agg #[.int .i64 c, .int .i64 d])).run Try.prog w = .ok (.bool (b2 a b c d)) w := by
  by_cases h1 : a = c <;> by_cases h2 : b = d <;> simp [go_sem, b2, h1, h2, Try.underlying45, Try.underlying3]
theorem neq_Value (a b c d : Int) (w : World) : (binOp .neq 45 (.agg #[.int .i64 a, .int .i64 b]) (.agg #[.int .i64 c, .int .i64 d])).run Try.prog w = .ok (.bool (!b2 a b c d)) w := by
  by_cases h1 : a = c <;> by_cases h2 : b = d <;> simp [go_sem, b2, h1, h2, Try.underlying45, Try.underlying3]
theorem eql_Fault (a b c d : Int) (w : World) : (binOp .eql 85 (.agg #[.int .i64 a, .int .i64 b]) (.agg #[.int .i64 c, .int .i64 d])).run Try.prog w = .ok (.bool (b2 a b c d)) w := by
  by_cases h1 : a = c <;> by_cases h2 : b = d <;> simp [go_sem, b2, h1, h2, Try.underlying85, Try.underlying3, Try.underlying46]
theorem neq_Fault (a b c d : Int) (w : World) : (binOp .neq 85 (.agg #[.int .i64 a, .int .i64 b]) (.agg #[.int .i64 c, .int .i64 d])).run Try.prog w = .ok (.bool (!b2 a b c d)) w := by
  by_cases h1 : a = c <;> by_cases h2 : b = d <;> simp [go_sem, b2, h1, h2, Try.underlying85, Try.underlying3, Try.underlying46]
theorem eql_Site (a b c d : Int) (s t : ByteArray) (w : World) : (binOp .eql 24 (.agg #[.int .i64 a, .string s, .int .i64 b]) (.agg #[.int .i64 c, .string t, .int .i64 d])).run Try.prog w = .ok (.bool (b3 a s b c t d)) w := by
  by_cases h1 : a = c <;> by_cases h2 : s = t <;> by_cases h3 : b = d <;> simp [go_sem, b3, h1, h2, h3, bytes_beq, Try.underlying24, Try.underlying3, Try.underlying9]
theorem neq_Site (a b c d : Int) (s t : ByteArray) (w : World) : (binOp .neq 24 (.agg #[.int .i64 a, .string s, .int .i64 b]) (.agg #[.int .i64 c, .string t, .int .i64 d])).run Try.prog w = .ok (.bool (!b3 a s b c t d)) w := by
  by_cases h1 : a = c <;> by_cases h2 : s = t <;> by_cases h3 : b = d <;> simp [go_sem, b3, h1, h2, h3, bytes_beq, Try.underlying24, Try.underlying3, Try.underlying9]
theorem neq_Instr (a b c d a' b' c' d' : Int) (s t : ByteArray) (w : World) : (binOp .neq 81 (.agg #[.int .i64 a, .int .i64 b, .int .i64 c, .int .i64 d, .string s]) (.agg #[.int .i64 a', .int .i64 b', .int .i64 c', .int .i64 d', .string t])).run Try.prog w = .ok (.bool (!b5 a b c d s a' b' c' d' t)) w := by
  by_cases h1 : a = a' <;> by_cases h2 : b = b' <;> by_cases h3 : c = c' <;> by_cases h4 : d = d' <;> by_cases h5 : s = t <;> simp [go_sem, b5, h1, h2, h3, h4, h5, bytes_beq, Try.underlying81, Try.underlying3, Try.underlying9]

theorem Ln.ext_ {x y : Ln} (h : x.cls = y.cls ∧ x.found = y.found) : x = y := by cases x; cases y; simp_all
theorem V.ext_ {x y : V} (h : x.k = y.k ∧ x.n = y.n) : x = y := by cases x; cases y; simp_all
theorem St.ext_ {x y : St} (h : x.cls = y.cls ∧ x.name = y.name ∧ x.pos = y.pos) : x = y := by cases x; cases y; simp_all
theorem Ins.ext_ {x y : Ins} (h : x.op = y.op ∧ x.a = y.a ∧ x.b = y.b ∧ x.c = y.c ∧ x.name = y.name) : x = y := by cases x; cases y; simp_all

/-- a call that tells whether something is so -/
def RetIff (p : Prop) (w : World) : Ending → World → Prop := fun e w' => ∃ b, e = .returned (.bool b) ∧ (b = true ↔ p) ∧ Below w.heap.size w w'
theorem RetIff.yes {p : Prop} {w w' : World} (h : p) (hb : Below w.heap.size w w') : RetIff p w (.returned (.bool true)) w' := ⟨true, rfl, by simp [h], hb⟩
theorem RetIff.no {p : Prop} {w w' : World} (h : ¬ p) (hb : Below w.heap.size w w') : RetIff p w (.returned (.bool false)) w' := ⟨false, rfl, by simp [h], hb⟩
theorem Calls_yes {P : Program} {f : FuncId} {args : Array Value} {w : World} {p : Prop} (h : Calls P f args w (RetIff p w)) (hp : p) : Calls P f args w (Ret (.bool true) w) :=
  h.mono fun e w' ⟨b, he, hb, hbl⟩ => ⟨by rw [he, hb.2 hp], hbl⟩
theorem Calls_no {P : Program} {f : FuncId} {args : Array Value} {w : World} {p : Prop} (h : Calls P f args w (RetIff p w)) (hp : ¬ p) : Calls P f args w (Ret (.bool false) w) :=
  h.mono fun e w' ⟨b, he, hb, hbl⟩ => ⟨by rw [he, Bool.eq_false_iff.2 fun h => hp (hb.1 h)], hbl⟩

/-! ### In which way two classes, methods, objects part -/
theorem name_no {a b : ByteArray} (h : a ≠ b) : (a.toList == b.toList) = false := by rw [bytes_beq]; simpa using h
theorem name_yes {a b : ByteArray} (h : a = b) : (a.toList == b.toList) = true := by rw [bytes_beq]; simpa using h
theorem cl_ways (x y : Cl) :
    ((x.name.toList == y.name.toList) = false ∧ x ≠ y) ∨ ((x.name.toList == y.name.toList) = true ∧ (x.super != y.super) = true ∧ x ≠ y) ∨
    ((x.name.toList == y.name.toList) = true ∧ (x.super != y.super) = false ∧ (x.slots != y.slots) = true ∧ x ≠ y) ∨
    ((x.name.toList == y.name.toList) = true ∧ (x.super != y.super) = false ∧ (x.slots != y.slots) = false ∧ ((x.methods.length : Int) != y.methods.length) = true ∧ x ≠ y) ∨
    ((x.name.toList == y.name.toList) = true ∧ (x.super != y.super) = false ∧ (x.slots != y.slots) = false ∧ ((x.methods.length : Int) != y.methods.length) = false ∧ x.methods.length = y.methods.length ∧ (x.methods = y.methods ↔ x = y)) := by
  by_cases h1 : x.name = y.name
  · by_cases h2 : x.super = y.super
    · by_cases h3 : x.slots = y.slots
      · by_cases h4 : x.methods.length = y.methods.length
        · refine .inr (.inr (.inr (.inr ⟨name_yes h1, by simp [h2], by simp [h3], by simp [h4], h4, fun h => ?_, fun h => by rw [h]⟩)))
          cases x; cases y; simp_all
        · exact .inr (.inr (.inr (.inl ⟨name_yes h1, by simp [h2], by simp [h3], by simp; omega, fun e => h4 (by rw [e])⟩)))
      · exact .inr (.inr (.inl ⟨name_yes h1, by simp [h2], by simp [h3], fun e => h3 (by rw [e])⟩))
    · exact .inr (.inl ⟨name_yes h1, by simp [h2], fun e => h2 (by rw [e])⟩)
  · exact .inl ⟨name_no h1, fun e => h1 (by rw [e])⟩
theorem me_ways (x y : Me) :
    ((x.name.toList == y.name.toList) = false ∧ x ≠ y) ∨ ((x.name.toList == y.name.toList) = true ∧ (x.args != y.args) = true ∧ x ≠ y) ∨
    ((x.name.toList == y.name.toList) = true ∧ (x.args != y.args) = false ∧ (x.temps != y.temps) = true ∧ x ≠ y) ∨
    ((x.name.toList == y.name.toList) = true ∧ (x.args != y.args) = false ∧ (x.temps != y.temps) = false ∧ (x.prim != y.prim) = true ∧ x ≠ y) ∨
    ((x.name.toList == y.name.toList) = true ∧ (x.args != y.args) = false ∧ (x.temps != y.temps) = false ∧ (x.prim != y.prim) = false ∧ (x.code = y.code ↔ x = y)) := by
  by_cases h1 : x.name = y.name
  · by_cases h2 : x.args = y.args
    · by_cases h3 : x.temps = y.temps
      · by_cases h4 : x.prim = y.prim
        · refine .inr (.inr (.inr (.inr ⟨name_yes h1, by simp [h2], by simp [h3], by simp [h4], fun h => ?_, fun h => by rw [h]⟩)))
          cases x; cases y; simp_all
        · exact .inr (.inr (.inr (.inl ⟨name_yes h1, by simp [h2], by simp [h3], by simp [h4], fun e => h4 (by rw [e])⟩)))
      · exact .inr (.inr (.inl ⟨name_yes h1, by simp [h2], by simp [h3], fun e => h3 (by rw [e])⟩))
    · exact .inr (.inl ⟨name_yes h1, by simp [h2], fun e => h2 (by rw [e])⟩)
  · exact .inl ⟨name_no h1, fun e => h1 (by rw [e])⟩
theorem ob_ways (x y : Ob) :
    ((x.cls != y.cls) = true ∧ x ≠ y) ∨ ((x.cls != y.cls) = false ∧ ((x.slots.length : Int) != y.slots.length) = true ∧ x ≠ y) ∨
    ((x.cls != y.cls) = false ∧ ((x.slots.length : Int) != y.slots.length) = false ∧ x.slots.length = y.slots.length ∧ (x.slots = y.slots ↔ x = y)) := by
  by_cases h1 : x.cls = y.cls
  · by_cases h2 : x.slots.length = y.slots.length
    · refine .inr (.inr ⟨by simp [h1], by simp [h2], h2, fun h => ?_, fun h => by rw [h]⟩)
      cases x; cases y; simp_all
    · exact .inr (.inl ⟨by simp [h1], by simp; omega, fun e => h2 (by rw [e])⟩)
  · exact .inl ⟨by simp [h1], fun e => h1 (by rw [e])⟩
theorem wd_ways (x y : Wd) :
    ((x.epoch != y.epoch) = true ∧ x ≠ y) ∨ ((x.epoch != y.epoch) = false ∧ ((x.classes.length : Int) != y.classes.length) = true ∧ x ≠ y) ∨
    ((x.epoch != y.epoch) = false ∧ ((x.classes.length : Int) != y.classes.length) = false ∧ ((x.heap.length : Int) != y.heap.length) = true ∧ x ≠ y) ∨
    ((x.epoch != y.epoch) = false ∧ ((x.classes.length : Int) != y.classes.length) = false ∧ ((x.heap.length : Int) != y.heap.length) = false ∧ x.classes.length = y.classes.length ∧ x.heap.length = y.heap.length ∧ (x.classes = y.classes ∧ x.heap = y.heap ↔ x = y)) := by
  by_cases h1 : x.epoch = y.epoch
  · by_cases h2 : x.classes.length = y.classes.length
    · by_cases h3 : x.heap.length = y.heap.length
      · refine .inr (.inr (.inr ⟨by simp [h1], by simp [h2], by simp [h3], h2, h3, fun h => ?_, fun h => by rw [h]; simp⟩))
        cases x; cases y; simp_all
      · exact .inr (.inr (.inl ⟨by simp [h1], by simp [h2], by simp; omega, fun e => h3 (by rw [e])⟩))
    · exact .inr (.inl ⟨by simp [h1], by simp; omega, fun e => h2 (by rw [e])⟩)
  · exact .inl ⟨by simp [h1], fun e => h1 (by rw [e])⟩
end Go.Proofs.Ytioalgofaiideaa
