/- The walk through the reference's comparison of worlds. -/
import Derived.Test.YtioalgofaiideaaWsame
namespace Go.Proofs.Ytioalgofaiideaa
open Go.RowKit
set_option linter.unusedVariables false

/-- the two boxes that the call has laid for its arguments -/
def Boxes (w wr : World) (cx hx cy hy : Value) : Prop :=
  wr.cell? ⟨w.heap.size, 0, none⟩ = some cx ∧ wr.cell? ⟨w.heap.size, 1, none⟩ = some hx ∧ wr.cell? ⟨w.heap.size + 1, 0, none⟩ = some cy ∧ wr.cell? ⟨w.heap.size + 1, 1, none⟩ = some hy ∧
    w.heap.size + 2 ≤ wr.heap.size ∧ Below w.heap.size w wr
theorem Boxes.mono {w wr wr' : World} {cx hx cy hy : Value} (h : Boxes w wr cx hx cy hy) (hb : Below wr.heap.size wr wr') : Boxes w wr' cx hx cy hy := by
  obtain ⟨h1, h2, h3, h4, h5, h6⟩ := h
  have hs := hb.size
  refine ⟨?_, ?_, ?_, ?_, by omega, h6.trans (hb.mono (by omega))⟩
  all_goals (rw [hb.cell (show (_ : Nat) < _ by simp only; omega)]; assumption)

set_option maxHeartbeats 2000000 in
set_option maxRecDepth 100000 in
theorem ref_SameWorld {S : Sup} (x y : Wd) (cx hx cy hy : Value) (w : World) (rx : RW w S cx hx x) (ry : RW w S cy hy y) (hS : ∀ b, S b → b < w.heap.size) :
    Calls Try.prog 30 #[.agg #[cx, hx, .int .i64 x.epoch], .agg #[cy, hy, .int .i64 y.epoch]] w (RetIff (x = y) w) := by
  obtain ⟨rxc, rxh⟩ := rx
  obtain ⟨ryc, ryh⟩ := ry
  have m1 := rxc.small
  have m2 := rxh.small
  have e1 := rxc
  have e2 := rxh
  have e3 := ryc
  have e4 := ryh
  obtain ⟨A1, c1, rfl, -⟩ := e1
  obtain ⟨A2, c2, rfl, -⟩ := e2
  obtain ⟨A3, c3, rfl, -⟩ := e3
  obtain ⟨A4, c4, rfl, -⟩ := e4
  rcases wd_ways x y with ⟨q1, hne⟩ | ⟨q1, q2, hne⟩ | ⟨q1, q2, q3, hne⟩ | ⟨q1, q2, q3, hlc, hlh, hiff⟩
  · go_enter Try.func30, Try.ntmps30
    go_wp2
    go_ret
    exact RetIff.no hne (by repeat (first | exact Below.refl _ _ | (refine Below.setCell ?_ (by first | omega | (simp <;> omega)) _) | (refine Below.alloc ?_ (by first | omega | (simp <;> omega)) _) | (refine below_drewN ?_ _) | (refine Below.drew ?_) | (refine Below.trans ?_ (Below.mono hb (by first | omega | (simp <;> omega)))) | (refine Below.trans ?_ (Below.mono hb1 (by first | omega | (simp <;> omega)))) | (refine Below.trans ?_ (Below.mono hb2 (by first | omega | (simp <;> omega)))) | (refine Below.trans ?_ (Below.mono hb3 (by first | omega | (simp <;> omega)))) | (refine Below.trans ?_ (Below.mono hb4 (by first | omega | (simp <;> omega)))) | (refine Below.trans ?_ (Below.mono hb5 (by first | omega | (simp <;> omega)))) | (refine Below.trans ?_ (Below.mono hb16 (by first | omega | (simp <;> omega)))) | (refine Below.trans ?_ (Below.mono hb15 (by first | omega | (simp <;> omega)))) | (refine Below.trans ?_ (Below.mono hb14 (by first | omega | (simp <;> omega)))) | (refine Below.trans ?_ (Below.mono hb13 (by first | omega | (simp <;> omega)))) | (refine Below.trans ?_ (Below.mono hb12 (by first | omega | (simp <;> omega)))) | (refine Below.trans ?_ (Below.mono hb11 (by first | omega | (simp <;> omega)))) | (refine Below.trans ?_ (Below.mono hb10 (by first | omega | (simp <;> omega)))) | (refine Below.trans ?_ (Below.mono hb9 (by first | omega | (simp <;> omega)))) | (refine Below.trans ?_ (Below.mono hb8 (by first | omega | (simp <;> omega)))) | (refine Below.trans ?_ (Below.mono hb7 (by first | omega | (simp <;> omega)))) | (refine Below.trans ?_ (Below.mono hb6 (by first | omega | (simp <;> omega))))))
  · go_enter Try.func30, Try.ntmps30
    go_wp2
    go_ret
    exact RetIff.no hne (by repeat (first | exact Below.refl _ _ | (refine Below.setCell ?_ (by first | omega | (simp <;> omega)) _) | (refine Below.alloc ?_ (by first | omega | (simp <;> omega)) _) | (refine below_drewN ?_ _) | (refine Below.drew ?_) | (refine Below.trans ?_ (Below.mono hb (by first | omega | (simp <;> omega)))) | (refine Below.trans ?_ (Below.mono hb1 (by first | omega | (simp <;> omega)))) | (refine Below.trans ?_ (Below.mono hb2 (by first | omega | (simp <;> omega)))) | (refine Below.trans ?_ (Below.mono hb3 (by first | omega | (simp <;> omega)))) | (refine Below.trans ?_ (Below.mono hb4 (by first | omega | (simp <;> omega)))) | (refine Below.trans ?_ (Below.mono hb5 (by first | omega | (simp <;> omega)))) | (refine Below.trans ?_ (Below.mono hb16 (by first | omega | (simp <;> omega)))) | (refine Below.trans ?_ (Below.mono hb15 (by first | omega | (simp <;> omega)))) | (refine Below.trans ?_ (Below.mono hb14 (by first | omega | (simp <;> omega)))) | (refine Below.trans ?_ (Below.mono hb13 (by first | omega | (simp <;> omega)))) | (refine Below.trans ?_ (Below.mono hb12 (by first | omega | (simp <;> omega)))) | (refine Below.trans ?_ (Below.mono hb11 (by first | omega | (simp <;> omega)))) | (refine Below.trans ?_ (Below.mono hb10 (by first | omega | (simp <;> omega)))) | (refine Below.trans ?_ (Below.mono hb9 (by first | omega | (simp <;> omega)))) | (refine Below.trans ?_ (Below.mono hb8 (by first | omega | (simp <;> omega)))) | (refine Below.trans ?_ (Below.mono hb7 (by first | omega | (simp <;> omega)))) | (refine Below.trans ?_ (Below.mono hb6 (by first | omega | (simp <;> omega))))))
  · go_enter Try.func30, Try.ntmps30
    go_wp2
    go_ret
    exact RetIff.no hne (by repeat (first | exact Below.refl _ _ | (refine Below.setCell ?_ (by first | omega | (simp <;> omega)) _) | (refine Below.alloc ?_ (by first | omega | (simp <;> omega)) _) | (refine below_drewN ?_ _) | (refine Below.drew ?_) | (refine Below.trans ?_ (Below.mono hb (by first | omega | (simp <;> omega)))) | (refine Below.trans ?_ (Below.mono hb1 (by first | omega | (simp <;> omega)))) | (refine Below.trans ?_ (Below.mono hb2 (by first | omega | (simp <;> omega)))) | (refine Below.trans ?_ (Below.mono hb3 (by first | omega | (simp <;> omega)))) | (refine Below.trans ?_ (Below.mono hb4 (by first | omega | (simp <;> omega)))) | (refine Below.trans ?_ (Below.mono hb5 (by first | omega | (simp <;> omega)))) | (refine Below.trans ?_ (Below.mono hb16 (by first | omega | (simp <;> omega)))) | (refine Below.trans ?_ (Below.mono hb15 (by first | omega | (simp <;> omega)))) | (refine Below.trans ?_ (Below.mono hb14 (by first | omega | (simp <;> omega)))) | (refine Below.trans ?_ (Below.mono hb13 (by first | omega | (simp <;> omega)))) | (refine Below.trans ?_ (Below.mono hb12 (by first | omega | (simp <;> omega)))) | (refine Below.trans ?_ (Below.mono hb11 (by first | omega | (simp <;> omega)))) | (refine Below.trans ?_ (Below.mono hb10 (by first | omega | (simp <;> omega)))) | (refine Below.trans ?_ (Below.mono hb9 (by first | omega | (simp <;> omega)))) | (refine Below.trans ?_ (Below.mono hb8 (by first | omega | (simp <;> omega)))) | (refine Below.trans ?_ (Below.mono hb7 (by first | omega | (simp <;> omega)))) | (refine Below.trans ?_ (Below.mono hb6 (by first | omega | (simp <;> omega))))))
  · have Hlc := Lib.hid hlc
    have Hlh := Lib.hid hlh
    have Hiff := Lib.hid hiff
    clear hlc hlh hiff
    go_enter Try.func30, Try.ntmps30
    go_wp2
    go_loopw [40] (fun v wr => ∃ k : Nat, k ≤ x.classes.length ∧ v = .int .i64 k ∧ Boxes w wr (.slice A1 x.classes.length c1) (.slice A2 x.heap.length c2) (.slice A3 y.classes.length c3) (.slice A4 y.heap.length c4) ∧
      ∀ j (h1 : j < x.classes.length) (h2 : j < y.classes.length), j < k → x.classes[j] = y.classes[j]) (fun v _ => x.classes.length - (intOf v).toNat)
    case atStart =>
      exact ⟨0, by omega, rfl, ⟨by simp [go_sem], by simp [go_sem], by simp [go_sem], by simp [go_sem], by simp, (by repeat (first | exact Below.refl _ _ | (refine Below.setCell ?_ (by first | omega | (simp <;> omega)) _) | (refine Below.alloc ?_ (by first | omega | (simp <;> omega)) _) | (refine below_drewN ?_ _) | (refine Below.drew ?_) | (refine Below.trans ?_ (Below.mono hb (by first | omega | (simp <;> omega)))) | (refine Below.trans ?_ (Below.mono hb1 (by first | omega | (simp <;> omega)))) | (refine Below.trans ?_ (Below.mono hb2 (by first | omega | (simp <;> omega)))) | (refine Below.trans ?_ (Below.mono hb3 (by first | omega | (simp <;> omega)))) | (refine Below.trans ?_ (Below.mono hb4 (by first | omega | (simp <;> omega)))) | (refine Below.trans ?_ (Below.mono hb5 (by first | omega | (simp <;> omega)))) | (refine Below.trans ?_ (Below.mono hb16 (by first | omega | (simp <;> omega)))) | (refine Below.trans ?_ (Below.mono hb15 (by first | omega | (simp <;> omega)))) | (refine Below.trans ?_ (Below.mono hb14 (by first | omega | (simp <;> omega)))) | (refine Below.trans ?_ (Below.mono hb13 (by first | omega | (simp <;> omega)))) | (refine Below.trans ?_ (Below.mono hb12 (by first | omega | (simp <;> omega)))) | (refine Below.trans ?_ (Below.mono hb11 (by first | omega | (simp <;> omega)))) | (refine Below.trans ?_ (Below.mono hb10 (by first | omega | (simp <;> omega)))) | (refine Below.trans ?_ (Below.mono hb9 (by first | omega | (simp <;> omega)))) | (refine Below.trans ?_ (Below.mono hb8 (by first | omega | (simp <;> omega)))) | (refine Below.trans ?_ (Below.mono hb7 (by first | omega | (simp <;> omega)))) | (refine Below.trans ?_ (Below.mono hb6 (by first | omega | (simp <;> omega))))))⟩, fun j _ _ h => absurd h (by omega)⟩
    case round =>
      obtain ⟨k, hk, rfl, hbx, hs⟩ := hrel
      have hbx' := hbx
      obtain ⟨b1, b2, b3, b4, hsz, hb⟩ := hbx'
      by_cases hlt : k < x.classes.length
      · have hlt2 : k < y.classes.length := by have := Hlc.out; omega
        obtain ⟨b, o, c, vmx, he, hsb, f1, f2, f3, f4, f5⟩ := (rxc.below hb hS).atCl hlt
        obtain ⟨b', o', c', vmy, he', hsb', g1, g2, g3, g4, g5⟩ := (ryc.below hb hS).atCl hlt2
        injection he with he1 he2 he3
        subst he1 he3
        injection he' with he1 he2 he3
        subst he1 he3
        clear he2
        have hbl : b < wr.heap.size := Nat.lt_of_lt_of_le (hS b hsb) hb.size
        have hbl' : b' < wr.heap.size := Nat.lt_of_lt_of_le (hS b' hsb') hb.size
        have hlt3 : (k : Int) < x.classes.length := by omega
        have hlt4 : (k : Int) < y.classes.length := by omega
        have e5 := f5
        have e6 := g5
        obtain ⟨A5, c5, rfl, -⟩ := e5
        obtain ⟨A6, c6, rfl, -⟩ := e6
        have Hone := Lib.hid (show x.classes[k] ≠ y.classes[k] → ¬ x = y from fun hn e => hn (by simp only [e]))
        have hl1 : w.heap.size < wr.heap.size := by omega
        have hl2 : w.heap.size + 1 < wr.heap.size := by omega
        rcases cl_ways x.classes[k] y.classes[k] with ⟨p1, hne⟩ | ⟨p1, p2, hne⟩ | ⟨p1, p2, p3, hne⟩ | ⟨p1, p2, p3, p4, hne⟩ | ⟨p1, p2, p3, p4, hml, hif⟩
        · have Hne := Lib.hid hne
          clear hne
          go_wp2
          go_ret
          exact RetIff.no (Hone.out Hne.out) (by repeat (first | exact Below.refl _ _ | (refine Below.setCell ?_ (by first | omega | (simp <;> omega)) _) | (refine Below.alloc ?_ (by first | omega | (simp <;> omega)) _) | (refine below_drewN ?_ _) | (refine Below.drew ?_) | (refine Below.trans ?_ (Below.mono hb (by first | omega | (simp <;> omega)))) | (refine Below.trans ?_ (Below.mono hb1 (by first | omega | (simp <;> omega)))) | (refine Below.trans ?_ (Below.mono hb2 (by first | omega | (simp <;> omega)))) | (refine Below.trans ?_ (Below.mono hb3 (by first | omega | (simp <;> omega)))) | (refine Below.trans ?_ (Below.mono hb4 (by first | omega | (simp <;> omega)))) | (refine Below.trans ?_ (Below.mono hb5 (by first | omega | (simp <;> omega)))) | (refine Below.trans ?_ (Below.mono hb16 (by first | omega | (simp <;> omega)))) | (refine Below.trans ?_ (Below.mono hb15 (by first | omega | (simp <;> omega)))) | (refine Below.trans ?_ (Below.mono hb14 (by first | omega | (simp <;> omega)))) | (refine Below.trans ?_ (Below.mono hb13 (by first | omega | (simp <;> omega)))) | (refine Below.trans ?_ (Below.mono hb12 (by first | omega | (simp <;> omega)))) | (refine Below.trans ?_ (Below.mono hb11 (by first | omega | (simp <;> omega)))) | (refine Below.trans ?_ (Below.mono hb10 (by first | omega | (simp <;> omega)))) | (refine Below.trans ?_ (Below.mono hb9 (by first | omega | (simp <;> omega)))) | (refine Below.trans ?_ (Below.mono hb8 (by first | omega | (simp <;> omega)))) | (refine Below.trans ?_ (Below.mono hb7 (by first | omega | (simp <;> omega)))) | (refine Below.trans ?_ (Below.mono hb6 (by first | omega | (simp <;> omega))))))
        · have Hne := Lib.hid hne
          clear hne
          go_wp2
          go_ret
          exact RetIff.no (Hone.out Hne.out) (by repeat (first | exact Below.refl _ _ | (refine Below.setCell ?_ (by first | omega | (simp <;> omega)) _) | (refine Below.alloc ?_ (by first | omega | (simp <;> omega)) _) | (refine below_drewN ?_ _) | (refine Below.drew ?_) | (refine Below.trans ?_ (Below.mono hb (by first | omega | (simp <;> omega)))) | (refine Below.trans ?_ (Below.mono hb1 (by first | omega | (simp <;> omega)))) | (refine Below.trans ?_ (Below.mono hb2 (by first | omega | (simp <;> omega)))) | (refine Below.trans ?_ (Below.mono hb3 (by first | omega | (simp <;> omega)))) | (refine Below.trans ?_ (Below.mono hb4 (by first | omega | (simp <;> omega)))) | (refine Below.trans ?_ (Below.mono hb5 (by first | omega | (simp <;> omega)))) | (refine Below.trans ?_ (Below.mono hb16 (by first | omega | (simp <;> omega)))) | (refine Below.trans ?_ (Below.mono hb15 (by first | omega | (simp <;> omega)))) | (refine Below.trans ?_ (Below.mono hb14 (by first | omega | (simp <;> omega)))) | (refine Below.trans ?_ (Below.mono hb13 (by first | omega | (simp <;> omega)))) | (refine Below.trans ?_ (Below.mono hb12 (by first | omega | (simp <;> omega)))) | (refine Below.trans ?_ (Below.mono hb11 (by first | omega | (simp <;> omega)))) | (refine Below.trans ?_ (Below.mono hb10 (by first | omega | (simp <;> omega)))) | (refine Below.trans ?_ (Below.mono hb9 (by first | omega | (simp <;> omega)))) | (refine Below.trans ?_ (Below.mono hb8 (by first | omega | (simp <;> omega)))) | (refine Below.trans ?_ (Below.mono hb7 (by first | omega | (simp <;> omega)))) | (refine Below.trans ?_ (Below.mono hb6 (by first | omega | (simp <;> omega))))))
        · have Hne := Lib.hid hne
          clear hne
          go_wp2
          go_ret
          exact RetIff.no (Hone.out Hne.out) (by repeat (first | exact Below.refl _ _ | (refine Below.setCell ?_ (by first | omega | (simp <;> omega)) _) | (refine Below.alloc ?_ (by first | omega | (simp <;> omega)) _) | (refine below_drewN ?_ _) | (refine Below.drew ?_) | (refine Below.trans ?_ (Below.mono hb (by first | omega | (simp <;> omega)))) | (refine Below.trans ?_ (Below.mono hb1 (by first | omega | (simp <;> omega)))) | (refine Below.trans ?_ (Below.mono hb2 (by first | omega | (simp <;> omega)))) | (refine Below.trans ?_ (Below.mono hb3 (by first | omega | (simp <;> omega)))) | (refine Below.trans ?_ (Below.mono hb4 (by first | omega | (simp <;> omega)))) | (refine Below.trans ?_ (Below.mono hb5 (by first | omega | (simp <;> omega)))) | (refine Below.trans ?_ (Below.mono hb16 (by first | omega | (simp <;> omega)))) | (refine Below.trans ?_ (Below.mono hb15 (by first | omega | (simp <;> omega)))) | (refine Below.trans ?_ (Below.mono hb14 (by first | omega | (simp <;> omega)))) | (refine Below.trans ?_ (Below.mono hb13 (by first | omega | (simp <;> omega)))) | (refine Below.trans ?_ (Below.mono hb12 (by first | omega | (simp <;> omega)))) | (refine Below.trans ?_ (Below.mono hb11 (by first | omega | (simp <;> omega)))) | (refine Below.trans ?_ (Below.mono hb10 (by first | omega | (simp <;> omega)))) | (refine Below.trans ?_ (Below.mono hb9 (by first | omega | (simp <;> omega)))) | (refine Below.trans ?_ (Below.mono hb8 (by first | omega | (simp <;> omega)))) | (refine Below.trans ?_ (Below.mono hb7 (by first | omega | (simp <;> omega)))) | (refine Below.trans ?_ (Below.mono hb6 (by first | omega | (simp <;> omega))))))
        · have Hne := Lib.hid hne
          clear hne
          go_wp2
          go_ret
          exact RetIff.no (Hone.out Hne.out) (by repeat (first | exact Below.refl _ _ | (refine Below.setCell ?_ (by first | omega | (simp <;> omega)) _) | (refine Below.alloc ?_ (by first | omega | (simp <;> omega)) _) | (refine below_drewN ?_ _) | (refine Below.drew ?_) | (refine Below.trans ?_ (Below.mono hb (by first | omega | (simp <;> omega)))) | (refine Below.trans ?_ (Below.mono hb1 (by first | omega | (simp <;> omega)))) | (refine Below.trans ?_ (Below.mono hb2 (by first | omega | (simp <;> omega)))) | (refine Below.trans ?_ (Below.mono hb3 (by first | omega | (simp <;> omega)))) | (refine Below.trans ?_ (Below.mono hb4 (by first | omega | (simp <;> omega)))) | (refine Below.trans ?_ (Below.mono hb5 (by first | omega | (simp <;> omega)))) | (refine Below.trans ?_ (Below.mono hb16 (by first | omega | (simp <;> omega)))) | (refine Below.trans ?_ (Below.mono hb15 (by first | omega | (simp <;> omega)))) | (refine Below.trans ?_ (Below.mono hb14 (by first | omega | (simp <;> omega)))) | (refine Below.trans ?_ (Below.mono hb13 (by first | omega | (simp <;> omega)))) | (refine Below.trans ?_ (Below.mono hb12 (by first | omega | (simp <;> omega)))) | (refine Below.trans ?_ (Below.mono hb11 (by first | omega | (simp <;> omega)))) | (refine Below.trans ?_ (Below.mono hb10 (by first | omega | (simp <;> omega)))) | (refine Below.trans ?_ (Below.mono hb9 (by first | omega | (simp <;> omega)))) | (refine Below.trans ?_ (Below.mono hb8 (by first | omega | (simp <;> omega)))) | (refine Below.trans ?_ (Below.mono hb7 (by first | omega | (simp <;> omega)))) | (refine Below.trans ?_ (Below.mono hb6 (by first | omega | (simp <;> omega))))))
        · have Hml := Lib.hid hml
          have Hif := Lib.hid hif
          clear hml hif
          have m5 := f5.small
          go_wp2
          obtain ⟨wo, rfl⟩ : ∃ wo : World, wo = wr := ⟨_, rfl⟩
          go_loopw [81] (fun v wr => ∃ m : Nat, m ≤ x.classes[k].methods.length ∧ v = .int .i64 m ∧ Boxes w wr (.slice (some ⟨b, o, none⟩) x.classes.length c1) (.slice A2 x.heap.length c2) (.slice (some ⟨b', o', none⟩) y.classes.length c3) (.slice A4 y.heap.length c4) ∧
            wr.cell? ⟨wo.heap.size + 1, 3, none⟩ = some (.slice A6 y.classes[k].methods.length c6) ∧ wo.heap.size + 2 ≤ wr.heap.size ∧ Below wo.heap.size wo wr ∧
            ∀ j (h1 : j < x.classes[k].methods.length) (h2 : j < y.classes[k].methods.length), j < m → x.classes[k].methods[j] = y.classes[k].methods[j]) (fun v _ => x.classes[k].methods.length - (intOf v).toNat)
          case atStart =>
            exact ⟨0, by omega, rfl, hbx.mono (by repeat (first | exact Below.refl _ _ | (refine Below.setCell ?_ (by first | omega | (simp <;> omega)) _) | (refine Below.alloc ?_ (by first | omega | (simp <;> omega)) _) | (refine below_drewN ?_ _) | (refine Below.drew ?_) | (refine Below.trans ?_ (Below.mono hb (by first | omega | (simp <;> omega)))) | (refine Below.trans ?_ (Below.mono hb1 (by first | omega | (simp <;> omega)))) | (refine Below.trans ?_ (Below.mono hb2 (by first | omega | (simp <;> omega)))) | (refine Below.trans ?_ (Below.mono hb3 (by first | omega | (simp <;> omega)))) | (refine Below.trans ?_ (Below.mono hb4 (by first | omega | (simp <;> omega)))) | (refine Below.trans ?_ (Below.mono hb5 (by first | omega | (simp <;> omega)))) | (refine Below.trans ?_ (Below.mono hb16 (by first | omega | (simp <;> omega)))) | (refine Below.trans ?_ (Below.mono hb15 (by first | omega | (simp <;> omega)))) | (refine Below.trans ?_ (Below.mono hb14 (by first | omega | (simp <;> omega)))) | (refine Below.trans ?_ (Below.mono hb13 (by first | omega | (simp <;> omega)))) | (refine Below.trans ?_ (Below.mono hb12 (by first | omega | (simp <;> omega)))) | (refine Below.trans ?_ (Below.mono hb11 (by first | omega | (simp <;> omega)))) | (refine Below.trans ?_ (Below.mono hb10 (by first | omega | (simp <;> omega)))) | (refine Below.trans ?_ (Below.mono hb9 (by first | omega | (simp <;> omega)))) | (refine Below.trans ?_ (Below.mono hb8 (by first | omega | (simp <;> omega)))) | (refine Below.trans ?_ (Below.mono hb7 (by first | omega | (simp <;> omega)))) | (refine Below.trans ?_ (Below.mono hb6 (by first | omega | (simp <;> omega)))))), by simp [go_sem], by simp, (by repeat (first | exact Below.refl _ _ | (refine Below.setCell ?_ (by first | omega | (simp <;> omega)) _) | (refine Below.alloc ?_ (by first | omega | (simp <;> omega)) _) | (refine below_drewN ?_ _) | (refine Below.drew ?_) | (refine Below.trans ?_ (Below.mono hb (by first | omega | (simp <;> omega)))) | (refine Below.trans ?_ (Below.mono hb1 (by first | omega | (simp <;> omega)))) | (refine Below.trans ?_ (Below.mono hb2 (by first | omega | (simp <;> omega)))) | (refine Below.trans ?_ (Below.mono hb3 (by first | omega | (simp <;> omega)))) | (refine Below.trans ?_ (Below.mono hb4 (by first | omega | (simp <;> omega)))) | (refine Below.trans ?_ (Below.mono hb5 (by first | omega | (simp <;> omega)))) | (refine Below.trans ?_ (Below.mono hb16 (by first | omega | (simp <;> omega)))) | (refine Below.trans ?_ (Below.mono hb15 (by first | omega | (simp <;> omega)))) | (refine Below.trans ?_ (Below.mono hb14 (by first | omega | (simp <;> omega)))) | (refine Below.trans ?_ (Below.mono hb13 (by first | omega | (simp <;> omega)))) | (refine Below.trans ?_ (Below.mono hb12 (by first | omega | (simp <;> omega)))) | (refine Below.trans ?_ (Below.mono hb11 (by first | omega | (simp <;> omega)))) | (refine Below.trans ?_ (Below.mono hb10 (by first | omega | (simp <;> omega)))) | (refine Below.trans ?_ (Below.mono hb9 (by first | omega | (simp <;> omega)))) | (refine Below.trans ?_ (Below.mono hb8 (by first | omega | (simp <;> omega)))) | (refine Below.trans ?_ (Below.mono hb7 (by first | omega | (simp <;> omega)))) | (refine Below.trans ?_ (Below.mono hb6 (by first | omega | (simp <;> omega)))))), fun j _ _ h => absurd h (by omega)⟩
          case round =>
            obtain ⟨m, hm, rfl, hbx2, b5, hsz2, hb2, hs2⟩ := hrel
            have hSo : ∀ b, S b → b < wo.heap.size := fun b hb' => Nat.lt_of_lt_of_le (hS b hb') hb.size
            by_cases hlm : m < x.classes[k].methods.length
            · have hlm2 : m < y.classes[k].methods.length := by have := Hml.out; omega
              obtain ⟨bm, om, cm, vcx, he, hsbm, i1, i2, i3, i4, i5, i6⟩ := (f5.below hb2 hSo).atMe hlm
              obtain ⟨bm', om', cm', vcy, he', hsbm', j1, j2, j3, j4, j5, j6⟩ := (g5.below hb2 hSo).atMe hlm2
              injection he with he1 he2 he3
              subst he1 he3
              injection he' with he1 he2 he3
              subst he1 he3
              clear he2
              have hbl2 : bm < wr.heap.size := by have := hSo bm hsbm; omega
              have hbl2' : bm' < wr.heap.size := by have := hSo bm' hsbm'; omega
              have hlm3 : (m : Int) < x.classes[k].methods.length := by omega
              have hlm4 : (m : Int) < y.classes[k].methods.length := by omega
              have e5 := i6
              have e6 := j6
              obtain ⟨A7, c7, rfl, -⟩ := e5
              obtain ⟨A8, c8, rfl, -⟩ := e6
              have Hone2 := Lib.hid (show x.classes[k].methods[m] ≠ y.classes[k].methods[m] → ¬ x = y from fun hn e => hn (by simp only [e]))
              have hl3 : wo.heap.size + 1 < wr.heap.size := by omega
              have hbi : Below w.heap.size w wr := hbx2.2.2.2.2.2
              rcases me_ways x.classes[k].methods[m] y.classes[k].methods[m] with ⟨p1, hne⟩ | ⟨p1, p2, hne⟩ | ⟨p1, p2, p3, hne⟩ | ⟨p1, p2, p3, p4, hne⟩ | ⟨p1, p2, p3, p4, hif2⟩
              · have Hne := Lib.hid hne
                clear hne
                go_wp2
                go_ret
                exact RetIff.no (Hone2.out Hne.out) (by repeat (first | exact hbi | exact Below.refl _ _ | (refine Below.setCell ?_ (by first | omega | (simp <;> omega)) _) | (refine Below.alloc ?_ (by first | omega | (simp <;> omega)) _) | (refine below_drewN ?_ _) | (refine Below.drew ?_) | (refine Below.trans ?_ (Below.mono hb (by first | omega | (simp <;> omega)))) | (refine Below.trans ?_ (Below.mono hb1 (by first | omega | (simp <;> omega)))) | (refine Below.trans ?_ (Below.mono hb2 (by first | omega | (simp <;> omega)))) | (refine Below.trans ?_ (Below.mono hb3 (by first | omega | (simp <;> omega)))) | (refine Below.trans ?_ (Below.mono hb4 (by first | omega | (simp <;> omega)))) | (refine Below.trans ?_ (Below.mono hb5 (by first | omega | (simp <;> omega))))))
              · have Hne := Lib.hid hne
                clear hne
                go_wp2
                go_ret
                exact RetIff.no (Hone2.out Hne.out) (by repeat (first | exact hbi | exact Below.refl _ _ | (refine Below.setCell ?_ (by first | omega | (simp <;> omega)) _) | (refine Below.alloc ?_ (by first | omega | (simp <;> omega)) _) | (refine below_drewN ?_ _) | (refine Below.drew ?_) | (refine Below.trans ?_ (Below.mono hb (by first | omega | (simp <;> omega)))) | (refine Below.trans ?_ (Below.mono hb1 (by first | omega | (simp <;> omega)))) | (refine Below.trans ?_ (Below.mono hb2 (by first | omega | (simp <;> omega)))) | (refine Below.trans ?_ (Below.mono hb3 (by first | omega | (simp <;> omega)))) | (refine Below.trans ?_ (Below.mono hb4 (by first | omega | (simp <;> omega)))) | (refine Below.trans ?_ (Below.mono hb5 (by first | omega | (simp <;> omega))))))
              · have Hne := Lib.hid hne
                clear hne
                go_wp2
                go_ret
                exact RetIff.no (Hone2.out Hne.out) (by repeat (first | exact hbi | exact Below.refl _ _ | (refine Below.setCell ?_ (by first | omega | (simp <;> omega)) _) | (refine Below.alloc ?_ (by first | omega | (simp <;> omega)) _) | (refine below_drewN ?_ _) | (refine Below.drew ?_) | (refine Below.trans ?_ (Below.mono hb (by first | omega | (simp <;> omega)))) | (refine Below.trans ?_ (Below.mono hb1 (by first | omega | (simp <;> omega)))) | (refine Below.trans ?_ (Below.mono hb2 (by first | omega | (simp <;> omega)))) | (refine Below.trans ?_ (Below.mono hb3 (by first | omega | (simp <;> omega)))) | (refine Below.trans ?_ (Below.mono hb4 (by first | omega | (simp <;> omega)))) | (refine Below.trans ?_ (Below.mono hb5 (by first | omega | (simp <;> omega))))))
              · have Hne := Lib.hid hne
                clear hne
                go_wp2
                go_ret
                exact RetIff.no (Hone2.out Hne.out) (by repeat (first | exact hbi | exact Below.refl _ _ | (refine Below.setCell ?_ (by first | omega | (simp <;> omega)) _) | (refine Below.alloc ?_ (by first | omega | (simp <;> omega)) _) | (refine below_drewN ?_ _) | (refine Below.drew ?_) | (refine Below.trans ?_ (Below.mono hb (by first | omega | (simp <;> omega)))) | (refine Below.trans ?_ (Below.mono hb1 (by first | omega | (simp <;> omega)))) | (refine Below.trans ?_ (Below.mono hb2 (by first | omega | (simp <;> omega)))) | (refine Below.trans ?_ (Below.mono hb3 (by first | omega | (simp <;> omega)))) | (refine Below.trans ?_ (Below.mono hb4 (by first | omega | (simp <;> omega)))) | (refine Below.trans ?_ (Below.mono hb5 (by first | omega | (simp <;> omega))))))
              · have Hif2 := Lib.hid hif2
                clear hif2
                have hx6 : ∀ o1 o2, SL rIns ((wr.alloc o1).alloc o2) S (.slice A7 x.classes[k].methods[m].code.length c7) x.classes[k].methods[m].code := fun o1 o2 => i6.below (((Below.refl _ _).alloc (Nat.le_refl _) _).alloc (by simp) _) fun b hb' => by have := hSo b hb'; omega
                have hy6 : ∀ o1 o2, SL rIns ((wr.alloc o1).alloc o2) S (.slice A8 y.classes[k].methods[m].code.length c8) y.classes[k].methods[m].code := fun o1 o2 => j6.below (((Below.refl _ _).alloc (Nat.le_refl _) _).alloc (by simp) _) fun b hb' => by have := hSo b hb'; omega
                have hS6 : ∀ (o1 o2 : Obj) b, S b → b < ((wr.alloc o1).alloc o2).heap.size := fun o1 o2 b hb' => by have := hSo b hb'; simp; omega
                by_cases hcode : x.classes[k].methods[m].code = y.classes[k].methods[m].code
                · have Hcode := Lib.hid hcode
                  clear hcode
                  go_wp2_with (go_at_call 60; refine (Calls_yes (ref_SameCode _ _ _ _ _ (hx6 _ _) (hy6 _ _) (hS6 _ _)) Hcode.out).mono ?_; rintro e w1 ⟨rfl, hb1⟩; obtain ⟨hc1, hf1, hz1⟩ := bcell hb1)
                  have hK : Below wr.heap.size wr w1 := (by repeat (first | exact Below.refl _ _ | (refine Below.setCell ?_ (by first | omega | (simp <;> omega)) _) | (refine Below.alloc ?_ (by first | omega | (simp <;> omega)) _) | (refine below_drewN ?_ _) | (refine Below.drew ?_)  | (refine Below.trans ?_ (Below.mono hb1 (by first | omega | (simp <;> omega)))) | (refine Below.trans ?_ (Below.mono hb2 (by first | omega | (simp <;> omega)))) | (refine Below.trans ?_ (Below.mono hb3 (by first | omega | (simp <;> omega)))) | (refine Below.trans ?_ (Below.mono hb4 (by first | omega | (simp <;> omega)))) | (refine Below.trans ?_ (Below.mono hb5 (by first | omega | (simp <;> omega))))))
                  go_roundw
                  case rel =>
                    refine ⟨m + 1, by omega, by go_num, hbx2.mono hK, (hK.cell (show (_ : Nat) < _ by simp only; omega)).trans b5, by have := hK.size; omega, hb2.trans (hK.mono (by omega)), fun j h1 h2 h3 => ?_⟩
                    rcases Nat.lt_or_eq_of_le (Nat.le_of_lt_succ h3) with h | h
                    · exact hs2 j h1 h2 h
                    · subst h; exact Hif2.out.1 Hcode.out
                  case measure => simp [intOf]; omega
                · have Hcode := Lib.hid hcode
                  clear hcode
                  go_wp2_with (go_at_call 60; refine (Calls_no (ref_SameCode _ _ _ _ _ (hx6 _ _) (hy6 _ _) (hS6 _ _)) Hcode.out).mono ?_; rintro e w1 ⟨rfl, hb1⟩; obtain ⟨hc1, hf1, hz1⟩ := bcell hb1)
                  have hK : Below wr.heap.size wr w1 := (by repeat (first | exact Below.refl _ _ | (refine Below.setCell ?_ (by first | omega | (simp <;> omega)) _) | (refine Below.alloc ?_ (by first | omega | (simp <;> omega)) _) | (refine below_drewN ?_ _) | (refine Below.drew ?_)  | (refine Below.trans ?_ (Below.mono hb1 (by first | omega | (simp <;> omega)))) | (refine Below.trans ?_ (Below.mono hb2 (by first | omega | (simp <;> omega)))) | (refine Below.trans ?_ (Below.mono hb3 (by first | omega | (simp <;> omega)))) | (refine Below.trans ?_ (Below.mono hb4 (by first | omega | (simp <;> omega)))) | (refine Below.trans ?_ (Below.mono hb5 (by first | omega | (simp <;> omega))))))
                  go_ret
                  exact RetIff.no (Hone2.out fun e => Hcode.out (by rw [e])) (hbi.trans (hK.mono hbi.size))
            · have Hk := Lib.hid (show x.classes[k] = y.classes[k] from Hif.out.1 (List.ext_getElem Hml.out fun j h1 h2 => hs2 j h1 h2 (by omega)))
              go_wp2
              go_roundw
              case rel =>
                refine ⟨k + 1, by omega, by go_num, hbx2, fun j h1 h2 h3 => ?_⟩
                rcases Nat.lt_or_eq_of_le (Nat.le_of_lt_succ h3) with h | h
                · exact hs j h1 h2 h
                · subst h; exact Hk.out
              case measure => simp [intOf]; omega
      · have Hcls := Lib.hid (show x.classes = y.classes from List.ext_getElem Hlc.out fun j h1 h2 => hs j h1 h2 (by omega))
        have hl1 : w.heap.size < wr.heap.size := by omega
        have hl2 : w.heap.size + 1 < wr.heap.size := by omega
        clear hs
        go_wp2
        obtain ⟨wp, rfl⟩ : ∃ wp : World, wp = wr := ⟨_, rfl⟩
        go_loopw [130] (fun v wr => ∃ k : Nat, k ≤ x.heap.length ∧ v = .int .i64 k ∧ Boxes w wr (.slice A1 x.classes.length c1) (.slice A2 x.heap.length c2) (.slice A3 y.classes.length c3) (.slice A4 y.heap.length c4) ∧
          ∀ j (h1 : j < x.heap.length) (h2 : j < y.heap.length), j < k → x.heap[j] = y.heap[j]) (fun v _ => x.heap.length - (intOf v).toNat)
        case atStart => exact ⟨0, by omega, rfl, hbx, fun j _ _ h => absurd h (by omega)⟩
        case round =>
          clear hl1 hl2 b1 b2 b3 b4 hbx hsz hb hlt hk
          obtain ⟨k, hk, rfl, hbx, hs⟩ := hrel
          have hbx' := hbx
          obtain ⟨b1, b2, b3, b4, hsz, hb⟩ := hbx'
          have hl1 : w.heap.size < wr.heap.size := by omega
          have hl2 : w.heap.size + 1 < wr.heap.size := by omega
          by_cases hlt : k < x.heap.length
          · have hlt2 : k < y.heap.length := by have := Hlh.out; omega
            obtain ⟨b, o, c, vmx, he, hsb, f1, f2, f3⟩ := (rxh.below hb hS).atOb hlt
            obtain ⟨b', o', c', vmy, he', hsb', g1, g2, g3⟩ := (ryh.below hb hS).atOb hlt2
            injection he with he1 he2 he3
            subst he1 he3
            injection he' with he1 he2 he3
            subst he1 he3
            clear he2
            have hbl : b < wr.heap.size := Nat.lt_of_lt_of_le (hS b hsb) hb.size
            have hbl' : b' < wr.heap.size := Nat.lt_of_lt_of_le (hS b' hsb') hb.size
            have hlt3 : (k : Int) < x.heap.length := by omega
            have hlt4 : (k : Int) < y.heap.length := by omega
            have e5 := f3
            have e6 := g3
            obtain ⟨A5, c5, rfl, -⟩ := e5
            obtain ⟨A6, c6, rfl, -⟩ := e6
            have Hone := Lib.hid (show x.heap[k] ≠ y.heap[k] → ¬ x = y from fun hn e => hn (by simp only [e]))
            rcases ob_ways x.heap[k] y.heap[k] with ⟨p1, hne⟩ | ⟨p1, p2, hne⟩ | ⟨p1, p2, hml, hif⟩
            · have Hne := Lib.hid hne
              clear hne
              go_wp2
              go_quiet (fail)
              go_wp2
              go_ret
              exact RetIff.no (Hone.out Hne.out) (by repeat (first | exact Below.refl _ _ | (refine Below.setCell ?_ (by first | omega | (simp <;> omega)) _) | (refine Below.alloc ?_ (by first | omega | (simp <;> omega)) _) | (refine below_drewN ?_ _) | (refine Below.drew ?_) | (refine Below.trans ?_ (Below.mono hb (by first | omega | (simp <;> omega)))) | (refine Below.trans ?_ (Below.mono hb1 (by first | omega | (simp <;> omega)))) | (refine Below.trans ?_ (Below.mono hb2 (by first | omega | (simp <;> omega)))) | (refine Below.trans ?_ (Below.mono hb3 (by first | omega | (simp <;> omega)))) | (refine Below.trans ?_ (Below.mono hb4 (by first | omega | (simp <;> omega)))) | (refine Below.trans ?_ (Below.mono hb5 (by first | omega | (simp <;> omega)))) | (refine Below.trans ?_ (Below.mono hb16 (by first | omega | (simp <;> omega)))) | (refine Below.trans ?_ (Below.mono hb15 (by first | omega | (simp <;> omega)))) | (refine Below.trans ?_ (Below.mono hb14 (by first | omega | (simp <;> omega)))) | (refine Below.trans ?_ (Below.mono hb13 (by first | omega | (simp <;> omega)))) | (refine Below.trans ?_ (Below.mono hb12 (by first | omega | (simp <;> omega)))) | (refine Below.trans ?_ (Below.mono hb11 (by first | omega | (simp <;> omega)))) | (refine Below.trans ?_ (Below.mono hb10 (by first | omega | (simp <;> omega)))) | (refine Below.trans ?_ (Below.mono hb9 (by first | omega | (simp <;> omega)))) | (refine Below.trans ?_ (Below.mono hb8 (by first | omega | (simp <;> omega)))) | (refine Below.trans ?_ (Below.mono hb7 (by first | omega | (simp <;> omega)))) | (refine Below.trans ?_ (Below.mono hb6 (by first | omega | (simp <;> omega))))))
            · have Hne := Lib.hid hne
              clear hne
              go_wp2
              go_quiet (fail)
              go_wp2
              go_ret
              exact RetIff.no (Hone.out Hne.out) (by repeat (first | exact Below.refl _ _ | (refine Below.setCell ?_ (by first | omega | (simp <;> omega)) _) | (refine Below.alloc ?_ (by first | omega | (simp <;> omega)) _) | (refine below_drewN ?_ _) | (refine Below.drew ?_) | (refine Below.trans ?_ (Below.mono hb (by first | omega | (simp <;> omega)))) | (refine Below.trans ?_ (Below.mono hb1 (by first | omega | (simp <;> omega)))) | (refine Below.trans ?_ (Below.mono hb2 (by first | omega | (simp <;> omega)))) | (refine Below.trans ?_ (Below.mono hb3 (by first | omega | (simp <;> omega)))) | (refine Below.trans ?_ (Below.mono hb4 (by first | omega | (simp <;> omega)))) | (refine Below.trans ?_ (Below.mono hb5 (by first | omega | (simp <;> omega)))) | (refine Below.trans ?_ (Below.mono hb16 (by first | omega | (simp <;> omega)))) | (refine Below.trans ?_ (Below.mono hb15 (by first | omega | (simp <;> omega)))) | (refine Below.trans ?_ (Below.mono hb14 (by first | omega | (simp <;> omega)))) | (refine Below.trans ?_ (Below.mono hb13 (by first | omega | (simp <;> omega)))) | (refine Below.trans ?_ (Below.mono hb12 (by first | omega | (simp <;> omega)))) | (refine Below.trans ?_ (Below.mono hb11 (by first | omega | (simp <;> omega)))) | (refine Below.trans ?_ (Below.mono hb10 (by first | omega | (simp <;> omega)))) | (refine Below.trans ?_ (Below.mono hb9 (by first | omega | (simp <;> omega)))) | (refine Below.trans ?_ (Below.mono hb8 (by first | omega | (simp <;> omega)))) | (refine Below.trans ?_ (Below.mono hb7 (by first | omega | (simp <;> omega)))) | (refine Below.trans ?_ (Below.mono hb6 (by first | omega | (simp <;> omega))))))
            · have Hml := Lib.hid hml
              have Hif := Lib.hid hif
              clear hml hif
              have m5 := f3.small
              have hne := neq_Value
              go_wp2
              go_quiet (fail)
              go_wp2
              obtain ⟨wo, rfl⟩ : ∃ wo : World, wo = wr := ⟨_, rfl⟩
              go_loopw [160] (fun v wr => ∃ m : Nat, m ≤ x.heap[k].slots.length ∧ v = .int .i64 m ∧ Boxes w wr (.slice A1 x.classes.length c1) (.slice (some ⟨b, o, none⟩) x.heap.length c2) (.slice A3 y.classes.length c3) (.slice (some ⟨b', o', none⟩) y.heap.length c4) ∧
                wr.cell? ⟨wo.heap.size, 1, none⟩ = some (.slice A5 x.heap[k].slots.length c5) ∧ wo.heap.size + 1 ≤ wr.heap.size ∧ Below wo.heap.size wo wr ∧
                ∀ j (h1 : j < x.heap[k].slots.length) (h2 : j < y.heap[k].slots.length), j < m → x.heap[k].slots[j] = y.heap[k].slots[j]) (fun v _ => x.heap[k].slots.length - (intOf v).toNat)
              case atStart =>
                exact ⟨0, by omega, rfl, hbx.mono (by repeat (first | exact Below.refl _ _ | (refine Below.setCell ?_ (by first | omega | (simp <;> omega)) _) | (refine Below.alloc ?_ (by first | omega | (simp <;> omega)) _) | (refine below_drewN ?_ _) | (refine Below.drew ?_) | (refine Below.trans ?_ (Below.mono hb (by first | omega | (simp <;> omega)))) | (refine Below.trans ?_ (Below.mono hb1 (by first | omega | (simp <;> omega)))) | (refine Below.trans ?_ (Below.mono hb2 (by first | omega | (simp <;> omega)))) | (refine Below.trans ?_ (Below.mono hb3 (by first | omega | (simp <;> omega)))) | (refine Below.trans ?_ (Below.mono hb4 (by first | omega | (simp <;> omega)))) | (refine Below.trans ?_ (Below.mono hb5 (by first | omega | (simp <;> omega)))) | (refine Below.trans ?_ (Below.mono hb16 (by first | omega | (simp <;> omega)))) | (refine Below.trans ?_ (Below.mono hb15 (by first | omega | (simp <;> omega)))) | (refine Below.trans ?_ (Below.mono hb14 (by first | omega | (simp <;> omega)))) | (refine Below.trans ?_ (Below.mono hb13 (by first | omega | (simp <;> omega)))) | (refine Below.trans ?_ (Below.mono hb12 (by first | omega | (simp <;> omega)))) | (refine Below.trans ?_ (Below.mono hb11 (by first | omega | (simp <;> omega)))) | (refine Below.trans ?_ (Below.mono hb10 (by first | omega | (simp <;> omega)))) | (refine Below.trans ?_ (Below.mono hb9 (by first | omega | (simp <;> omega)))) | (refine Below.trans ?_ (Below.mono hb8 (by first | omega | (simp <;> omega)))) | (refine Below.trans ?_ (Below.mono hb7 (by first | omega | (simp <;> omega)))) | (refine Below.trans ?_ (Below.mono hb6 (by first | omega | (simp <;> omega)))))), by simp [go_sem], by simp, (by repeat (first | exact Below.refl _ _ | (refine Below.setCell ?_ (by first | omega | (simp <;> omega)) _) | (refine Below.alloc ?_ (by first | omega | (simp <;> omega)) _) | (refine below_drewN ?_ _) | (refine Below.drew ?_) | (refine Below.trans ?_ (Below.mono hb (by first | omega | (simp <;> omega)))) | (refine Below.trans ?_ (Below.mono hb1 (by first | omega | (simp <;> omega)))) | (refine Below.trans ?_ (Below.mono hb2 (by first | omega | (simp <;> omega)))) | (refine Below.trans ?_ (Below.mono hb3 (by first | omega | (simp <;> omega)))) | (refine Below.trans ?_ (Below.mono hb4 (by first | omega | (simp <;> omega)))) | (refine Below.trans ?_ (Below.mono hb5 (by first | omega | (simp <;> omega)))) | (refine Below.trans ?_ (Below.mono hb16 (by first | omega | (simp <;> omega)))) | (refine Below.trans ?_ (Below.mono hb15 (by first | omega | (simp <;> omega)))) | (refine Below.trans ?_ (Below.mono hb14 (by first | omega | (simp <;> omega)))) | (refine Below.trans ?_ (Below.mono hb13 (by first | omega | (simp <;> omega)))) | (refine Below.trans ?_ (Below.mono hb12 (by first | omega | (simp <;> omega)))) | (refine Below.trans ?_ (Below.mono hb11 (by first | omega | (simp <;> omega)))) | (refine Below.trans ?_ (Below.mono hb10 (by first | omega | (simp <;> omega)))) | (refine Below.trans ?_ (Below.mono hb9 (by first | omega | (simp <;> omega)))) | (refine Below.trans ?_ (Below.mono hb8 (by first | omega | (simp <;> omega)))) | (refine Below.trans ?_ (Below.mono hb7 (by first | omega | (simp <;> omega)))) | (refine Below.trans ?_ (Below.mono hb6 (by first | omega | (simp <;> omega)))))), fun j _ _ h => absurd h (by omega)⟩
              case round =>
                obtain ⟨m, hm, rfl, hbx2, b5, hsz2, hb2, hs2⟩ := hrel
                have hbx3 := hbx2
                obtain ⟨d1, d2, d3, d4, hsz3, hb3⟩ := hbx3
                have hSo : ∀ b, S b → b < wo.heap.size := fun b hb' => Nat.lt_of_lt_of_le (hS b hb') hb.size
                by_cases hlm : m < x.heap[k].slots.length
                · have hlm2 : m < y.heap[k].slots.length := by have := Hml.out; omega
                  have g2' := (hb2.cell (p := ⟨b', o' + k * 2 + 1, none⟩) hbl').trans g2
                  obtain ⟨bm, om, cm, he, hsbm, i1, i2⟩ := (f3.below hb2 hSo).atV hlm
                  obtain ⟨bm', om', cm', he', hsbm', j1, j2⟩ := (g3.below hb2 hSo).atV hlm2
                  injection he with he1 he2 he3
                  subst he1 he3
                  injection he' with he1 he2 he3
                  subst he1 he3
                  clear he2
                  have hbl2 : bm < wr.heap.size := by have := hSo bm hsbm; omega
                  have hbl2' : bm' < wr.heap.size := by have := hSo bm' hsbm'; omega
                  have hlm3 : (m : Int) < x.heap[k].slots.length := by omega
                  have hlm4 : (m : Int) < y.heap[k].slots.length := by omega
                  have Hone2 := Lib.hid (show x.heap[k].slots[m] ≠ y.heap[k].slots[m] → ¬ x = y from fun hn e => hn (by simp only [e]))
                  by_cases heq : x.heap[k].slots[m] = y.heap[k].slots[m]
                  · have hq := (b2_iff (a := x.heap[k].slots[m].k) (b := x.heap[k].slots[m].n) (c := y.heap[k].slots[m].k) (d := y.heap[k].slots[m].n)).2 (by rw [heq]; simp)
                    have Heq := Lib.hid heq
                    clear heq
                    go_wp2
                    go_quiet (fail)
                    go_wp2
                    go_roundw
                    case rel =>
                      refine ⟨m + 1, by omega, by go_num, hbx2.mono (below_drewN (Below.refl _ _) _), b5, hsz2, below_drewN hb2 _, fun j h1 h2 h3 => ?_⟩
                      rcases Nat.lt_or_eq_of_le (Nat.le_of_lt_succ h3) with h | h
                      · exact hs2 j h1 h2 h
                      · subst h; exact Heq.out
                    case measure => simp [intOf]; omega
                  · have hq := Bool.eq_false_iff.2 fun h => heq (V.ext_ ((b2_iff (a := x.heap[k].slots[m].k) (b := x.heap[k].slots[m].n) (c := y.heap[k].slots[m].k) (d := y.heap[k].slots[m].n)).1 h))
                    have Hne := Lib.hid heq
                    clear heq
                    go_wp2
                    go_quiet (fail)
                    go_wp2
                    go_ret
                    exact RetIff.no (Hone2.out Hne.out) (below_drewN hb3 _)
                · have Hk := Lib.hid (show x.heap[k] = y.heap[k] from Hif.out.1 (List.ext_getElem Hml.out fun j h1 h2 => hs2 j h1 h2 (by omega)))
                  go_wp2
                  go_roundw
                  case rel =>
                    refine ⟨k + 1, by omega, by go_num, hbx2, fun j h1 h2 h3 => ?_⟩
                    rcases Nat.lt_or_eq_of_le (Nat.le_of_lt_succ h3) with h | h
                    · exact hs j h1 h2 h
                    · subst h; exact Hk.out
                  case measure => simp [intOf]; omega
          · have Hall := Lib.hid (show x = y from Hiff.out.1 ⟨Hcls.out, List.ext_getElem Hlh.out fun j h1 h2 => hs j h1 h2 (by omega)⟩)
            go_wp2
            go_ret
            exact RetIff.yes Hall.out hb
end Go.Proofs.Ytioalgofaiideaa
