/- The walks through the reference's comparisons of lists. -/
import Derived.Test.YtioalgofaiideaaStruct
import Derived.Test.YtioalgofaiideaaValue
import Derived.Lib.Hide
import Derived.BigQuiet
import Derived.Deep.QuietTactic
namespace Go.Proofs.Ytioalgofaiideaa
open Go.RowKit
set_option linter.unusedVariables false

set_option maxHeartbeats 400000 in
set_option maxRecDepth 100000 in
theorem ref_SameLines {S : Sup} (x y : List Ln) (vx vy : Value) (w : World) (hx : SL rLn w S vx x) (hy : SL rLn w S vy y) (hS : ∀ b, S b → b < w.heap.size) :
    Calls Try.prog 54 #[vx, vy] w (RetIff (x = y) w) := by
  have hmax := hx.small
  have hx' := hx
  have hy' := hy
  obtain ⟨A1, c1, rfl, -⟩ := hx'
  obtain ⟨A2, c2, rfl, -⟩ := hy'
  by_cases hl : x.length = y.length
  · have hne := neq_Line
    rw [← hl] at hy ⊢
    have Hl := Lib.hid hl
    clear hl
    go_enter Try.func54, Try.ntmps54
    go_wp2
    go_loopw [13] (fun v wr => ∃ k : Nat, k ≤ x.length ∧ v = .int .i64 k ∧ Below w.heap.size w wr ∧ ∀ j (h1 : j < x.length) (h2 : j < y.length), j < k → x[j] = y[j]) (fun v _ => x.length - (intOf v).toNat)
    case atStart => exact ⟨0, by omega, rfl, Below.refl _ _, fun j _ _ h => absurd h (by omega)⟩
    case round =>
      obtain ⟨k, hk, rfl, hb, hs⟩ := hrel
      by_cases hlt : k < x.length
      · have hlt2 : k < y.length := by have := Hl.out; omega
        obtain ⟨b, o, c, he, hsb, g1, g2⟩ := (hx.below hb hS).atLn hlt
        obtain ⟨b', o', c', he', hsb', f1, f2⟩ := (hy.below hb hS).atLn hlt2
        injection he with he1 he2 he3
        subst he1 he3
        injection he' with he1 he2 he3
        subst he1 he3
        clear he2
        have hbl : b < wr.heap.size := Nat.lt_of_lt_of_le (hS b hsb) hb.size
        have hbl' : b' < wr.heap.size := Nat.lt_of_lt_of_le (hS b' hsb') hb.size
        have hlt3 : (k : Int) < x.length := by omega
        by_cases heq : x[k] = y[k]
        · have hq := (b2_iff (a := x[k].cls) (b := x[k].found) (c := y[k].cls) (d := y[k].found)).2 (by rw [heq]; simp)
          have Heq := Lib.hid heq
          clear heq
          go_wp2
          go_quiet (fail)
          go_wp2
          go_roundw
          case rel => exact ⟨k + 1, by omega, by go_num, below_drewN hb _, fun j h1 h2 h3 => by rcases Nat.lt_or_eq_of_le (Nat.le_of_lt_succ h3) with h | h; exact hs j h1 h2 h; subst h; exact Heq.out⟩
          case measure => simp [intOf]; omega
        · have hq := Bool.eq_false_iff.2 fun h => heq (Ln.ext_ ((b2_iff (a := x[k].cls) (b := x[k].found) (c := y[k].cls) (d := y[k].found)).1 h))
          go_wp2
          go_quiet (fail)
          go_wp2
          go_ret
          exact RetIff.no (fun e => heq (by simp only [e])) (below_drewN hb _)
      · have e := Lib.hid (show x = y from List.ext_getElem Hl.out fun j h1 h2 => hs j h1 h2 (by omega))
        go_wp2
        go_ret
        exact RetIff.yes e.out hb
  · have hl' : ((x.length : Int) != y.length) = true := by simp; omega
    go_enter Try.func54, Try.ntmps54
    go_wp2
    go_ret
    exact RetIff.no (fun e => hl (by rw [e])) (Below.refl _ _)
set_option maxHeartbeats 400000 in
set_option maxRecDepth 100000 in
theorem ref_SameCode {S : Sup} (x y : List Ins) (vx vy : Value) (w : World) (hx : SL rIns w S vx x) (hy : SL rIns w S vy y) (hS : ∀ b, S b → b < w.heap.size) :
    Calls Try.prog 60 #[vx, vy] w (RetIff (x = y) w) := by
  have hmax := hx.small
  have hx' := hx
  have hy' := hy
  obtain ⟨A1, c1, rfl, -⟩ := hx'
  obtain ⟨A2, c2, rfl, -⟩ := hy'
  by_cases hl : x.length = y.length
  · have hne := neq_Instr
    rw [← hl] at hy ⊢
    have Hl := Lib.hid hl
    clear hl
    go_enter Try.func60, Try.ntmps60
    go_wp2
    go_loopw [13] (fun v wr => ∃ k : Nat, k ≤ x.length ∧ v = .int .i64 k ∧ Below w.heap.size w wr ∧ ∀ j (h1 : j < x.length) (h2 : j < y.length), j < k → x[j] = y[j]) (fun v _ => x.length - (intOf v).toNat)
    case atStart => exact ⟨0, by omega, rfl, Below.refl _ _, fun j _ _ h => absurd h (by omega)⟩
    case round =>
      obtain ⟨k, hk, rfl, hb, hs⟩ := hrel
      by_cases hlt : k < x.length
      · have hlt2 : k < y.length := by have := Hl.out; omega
        obtain ⟨b, o, c, he, hsb, g1, g2, g3, g4, g5⟩ := (hx.below hb hS).atIns hlt
        obtain ⟨b', o', c', he', hsb', f1, f2, f3, f4, f5⟩ := (hy.below hb hS).atIns hlt2
        injection he with he1 he2 he3
        subst he1 he3
        injection he' with he1 he2 he3
        subst he1 he3
        clear he2
        have hbl : b < wr.heap.size := Nat.lt_of_lt_of_le (hS b hsb) hb.size
        have hbl' : b' < wr.heap.size := Nat.lt_of_lt_of_le (hS b' hsb') hb.size
        have hlt3 : (k : Int) < x.length := by omega
        by_cases heq : x[k] = y[k]
        · have hq := (b5_iff (a := x[k].op) (b := x[k].a) (c := x[k].b) (d := x[k].c) (s := x[k].name) (a' := y[k].op) (b' := y[k].a) (c' := y[k].b) (d' := y[k].c) (t := y[k].name)).2 (by rw [heq]; simp)
          have Heq := Lib.hid heq
          clear heq
          go_wp2
          go_quiet (fail)
          go_wp2
          go_roundw
          case rel => exact ⟨k + 1, by omega, by go_num, below_drewN hb _, fun j h1 h2 h3 => by rcases Nat.lt_or_eq_of_le (Nat.le_of_lt_succ h3) with h | h; exact hs j h1 h2 h; subst h; exact Heq.out⟩
          case measure => simp [intOf]; omega
        · have hq := Bool.eq_false_iff.2 fun h => heq (Ins.ext_ ((b5_iff (a := x[k].op) (b := x[k].a) (c := x[k].b) (d := x[k].c) (s := x[k].name) (a' := y[k].op) (b' := y[k].a) (c' := y[k].b) (d' := y[k].c) (t := y[k].name)).1 h))
          go_wp2
          go_quiet (fail)
          go_wp2
          go_ret
          exact RetIff.no (fun e => heq (by simp only [e])) (below_drewN hb _)
      · have e := Lib.hid (show x = y from List.ext_getElem Hl.out fun j h1 h2 => hs j h1 h2 (by omega))
        go_wp2
        go_ret
        exact RetIff.yes e.out hb
  · have hl' : ((x.length : Int) != y.length) = true := by simp; omega
    go_enter Try.func60, Try.ntmps60
    go_wp2
    go_ret
    exact RetIff.no (fun e => hl (by rw [e])) (Below.refl _ _)
end Go.Proofs.Ytioalgofaiideaa
