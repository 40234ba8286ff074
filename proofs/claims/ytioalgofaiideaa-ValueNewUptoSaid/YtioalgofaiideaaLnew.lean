/- The walk through qclaw1.ValueNew. -/
import Derived.Test.YtioalgofaiideaaWalive1
import Derived.Test.YtioalgofaiideaaWsamew
namespace Go.Proofs.Ytioalgofaiideaa
open Go.RowKit
set_option linter.unusedVariables false

theorem class_at {S : Sup} {l : List Ob} {hv : Value} {k n x : Int} (e : classV l ⟨k, n⟩ = x) {w : World} (hh : SL rOb w S hv l) (hS : ∀ b, S b → b < w.heap.size) :
    Calls Try.prog 24 #[hv, .agg #[.int .i64 k, .int .i64 n]] w (Ret (.int .i64 x) w) := e ▸ value_Class l hv k n w hh hS
theorem slot_at {S : Sup} {l : List Ob} {hv : Value} {k n i a b : Int} (e : slotV l ⟨k, n⟩ i = ⟨a, b⟩) {w : World} (hh : SL rOb w S hv l) (hS : ∀ b, S b → b < w.heap.size) :
    Calls Try.prog 26 #[hv, .agg #[.int .i64 k, .int .i64 n], .int .i64 i] w (Ret (.agg #[.int .i64 a, .int .i64 b]) w) := by
  have := value_Slot l hv k n i w hh hS
  rw [e] at this
  exact this

set_option maxHeartbeats 4000000 in
set_option maxRecDepth 100000 in
theorem law_ValueNew {S : Sup} (l : List Ob) (hv : Value) (cls s : Int) (w : World) (hh : SL rOb w S hv l) (hS : ∀ b, S b → b < w.heap.size) (hin : ∀ o ∈ l, Fits (o.slots.length * 16)) (hmax : l.length ≤ 140737488355328) :
    Calls Try.prog 6 #[hv, .int .i64 cls, .int .i64 s] w (Ret (.bool true) w) := by
  have hh2 : ∀ W, Below w.heap.size w W → SL rOb W S hv l := fun W hb => hh.below hb hS
  have hS2 : ∀ W, Below w.heap.size w W → ∀ b, S b → b < W.heap.size := fun W hb b hb' => Nat.lt_of_lt_of_le (hS b hb') hb.size
  have e0 := hh
  obtain ⟨A, c, rfl, -⟩ := e0
  by_cases h1 : s < 0
  · go_enter Try.func6, Try.ntmps6
    go_wp2_with fail; go_at_call 35; refine (law_alive1 _).mono ?_; rintro e w1 ⟨rfl, hb1⟩; obtain ⟨hc1, hf1, hz1⟩ := bcell hb1
    go_wp2
    go_ret
    exact Ret.mk rfl (by repeat (first | exact Below.refl _ _ | (refine Below.setCell ?_ (by first | omega | (simp <;> omega)) _) | (refine Below.alloc ?_ (by first | omega | (simp <;> omega)) _) | (refine below_drewN ?_ _) | (refine Below.drew ?_) | (refine Below.trans ?_ (Below.mono hb (by first | omega | (simp <;> omega)))) | (refine Below.trans ?_ (Below.mono hb1 (by first | omega | (simp <;> omega)))) | (refine Below.trans ?_ (Below.mono hb2 (by first | omega | (simp <;> omega)))) | (refine Below.trans ?_ (Below.mono hb3 (by first | omega | (simp <;> omega)))) | (refine Below.trans ?_ (Below.mono hb4 (by first | omega | (simp <;> omega)))) | (refine Below.trans ?_ (Below.mono hb5 (by first | omega | (simp <;> omega)))) | (refine Below.trans ?_ (Below.mono hb16 (by first | omega | (simp <;> omega)))) | (refine Below.trans ?_ (Below.mono hb15 (by first | omega | (simp <;> omega)))) | (refine Below.trans ?_ (Below.mono hb14 (by first | omega | (simp <;> omega)))) | (refine Below.trans ?_ (Below.mono hb13 (by first | omega | (simp <;> omega)))) | (refine Below.trans ?_ (Below.mono hb12 (by first | omega | (simp <;> omega)))) | (refine Below.trans ?_ (Below.mono hb11 (by first | omega | (simp <;> omega)))) | (refine Below.trans ?_ (Below.mono hb10 (by first | omega | (simp <;> omega)))) | (refine Below.trans ?_ (Below.mono hb9 (by first | omega | (simp <;> omega)))) | (refine Below.trans ?_ (Below.mono hb8 (by first | omega | (simp <;> omega)))) | (refine Below.trans ?_ (Below.mono hb7 (by first | omega | (simp <;> omega)))) | (refine Below.trans ?_ (Below.mono hb6 (by first | omega | (simp <;> omega))))))
  by_cases h2 : 100 < s
  · go_enter Try.func6, Try.ntmps6
    go_wp2_with fail; go_at_call 35; refine (law_alive1 _).mono ?_; rintro e w1 ⟨rfl, hb1⟩; obtain ⟨hc1, hf1, hz1⟩ := bcell hb1
    go_wp2
    go_ret
    exact Ret.mk rfl (by repeat (first | exact Below.refl _ _ | (refine Below.setCell ?_ (by first | omega | (simp <;> omega)) _) | (refine Below.alloc ?_ (by first | omega | (simp <;> omega)) _) | (refine below_drewN ?_ _) | (refine Below.drew ?_) | (refine Below.trans ?_ (Below.mono hb (by first | omega | (simp <;> omega)))) | (refine Below.trans ?_ (Below.mono hb1 (by first | omega | (simp <;> omega)))) | (refine Below.trans ?_ (Below.mono hb2 (by first | omega | (simp <;> omega)))) | (refine Below.trans ?_ (Below.mono hb3 (by first | omega | (simp <;> omega)))) | (refine Below.trans ?_ (Below.mono hb4 (by first | omega | (simp <;> omega)))) | (refine Below.trans ?_ (Below.mono hb5 (by first | omega | (simp <;> omega)))) | (refine Below.trans ?_ (Below.mono hb16 (by first | omega | (simp <;> omega)))) | (refine Below.trans ?_ (Below.mono hb15 (by first | omega | (simp <;> omega)))) | (refine Below.trans ?_ (Below.mono hb14 (by first | omega | (simp <;> omega)))) | (refine Below.trans ?_ (Below.mono hb13 (by first | omega | (simp <;> omega)))) | (refine Below.trans ?_ (Below.mono hb12 (by first | omega | (simp <;> omega)))) | (refine Below.trans ?_ (Below.mono hb11 (by first | omega | (simp <;> omega)))) | (refine Below.trans ?_ (Below.mono hb10 (by first | omega | (simp <;> omega)))) | (refine Below.trans ?_ (Below.mono hb9 (by first | omega | (simp <;> omega)))) | (refine Below.trans ?_ (Below.mono hb8 (by first | omega | (simp <;> omega)))) | (refine Below.trans ?_ (Below.mono hb7 (by first | omega | (simp <;> omega)))) | (refine Below.trans ?_ (Below.mono hb6 (by first | omega | (simp <;> omega))))))
  by_cases h3 : l.length < 60
  · have hneV := neq_Value
    have hs0 : ((s.toNat : Int) != s) = false := by simp; omega
    have ecls : classV (l ++ [⟨cls, List.replicate s.toNat ⟨0, 0⟩⟩]) ⟨4, l.length⟩ = cls := by
      unfold classV
      rw [if_neg (by simp), if_neg (by simp), if_neg (by simp), if_pos ⟨rfl, Int.natCast_nonneg _, by simp; omega⟩]
      simp
    have eslot : ∀ n : Nat, (n : Int) < s → slotV (l ++ [⟨cls, List.replicate s.toNat ⟨0, 0⟩⟩]) ⟨4, l.length⟩ n = ⟨0, 0⟩ := by
      intro n hn
      have : n < s.toNat := by omega
      unfold slotV
      simp [this]
    have hq : b2 4 (l.length : Int) 4 (l.length : Int) = true := b2_iff.2 ⟨rfl, rfl⟩
    have Hcls := Lib.hid ecls
    have Hslot := Lib.hid eslot
    clear ecls eslot
    go_enter Try.func6, Try.ntmps6
    go_wp2_with fail; go_at_call 35; refine (law_alive1 _).mono ?_; rintro e w1 ⟨rfl, hb1⟩; obtain ⟨hc1, hf1, hz1⟩ := bcell hb1
    go_wp2_with fail
    go_at_call 32
    refine (value_New_ok l _ cls s _ (hh2 _ (by repeat (first | exact Below.refl _ _ | (refine Below.setCell ?_ (by first | omega | (simp <;> omega)) _) | (refine Below.alloc ?_ (by first | omega | (simp <;> omega)) _) | (refine below_drewN ?_ _) | (refine Below.drew ?_) | (refine Below.trans ?_ (Below.mono hb (by first | omega | (simp <;> omega)))) | (refine Below.trans ?_ (Below.mono hb1 (by first | omega | (simp <;> omega)))) | (refine Below.trans ?_ (Below.mono hb2 (by first | omega | (simp <;> omega)))) | (refine Below.trans ?_ (Below.mono hb3 (by first | omega | (simp <;> omega)))) | (refine Below.trans ?_ (Below.mono hb4 (by first | omega | (simp <;> omega)))) | (refine Below.trans ?_ (Below.mono hb5 (by first | omega | (simp <;> omega)))) | (refine Below.trans ?_ (Below.mono hb16 (by first | omega | (simp <;> omega)))) | (refine Below.trans ?_ (Below.mono hb15 (by first | omega | (simp <;> omega)))) | (refine Below.trans ?_ (Below.mono hb14 (by first | omega | (simp <;> omega)))) | (refine Below.trans ?_ (Below.mono hb13 (by first | omega | (simp <;> omega)))) | (refine Below.trans ?_ (Below.mono hb12 (by first | omega | (simp <;> omega)))) | (refine Below.trans ?_ (Below.mono hb11 (by first | omega | (simp <;> omega)))) | (refine Below.trans ?_ (Below.mono hb10 (by first | omega | (simp <;> omega)))) | (refine Below.trans ?_ (Below.mono hb9 (by first | omega | (simp <;> omega)))) | (refine Below.trans ?_ (Below.mono hb8 (by first | omega | (simp <;> omega)))) | (refine Below.trans ?_ (Below.mono hb7 (by first | omega | (simp <;> omega)))) | (refine Below.trans ?_ (Below.mono hb6 (by first | omega | (simp <;> omega))))))) (hS2 _ (by repeat (first | exact Below.refl _ _ | (refine Below.setCell ?_ (by first | omega | (simp <;> omega)) _) | (refine Below.alloc ?_ (by first | omega | (simp <;> omega)) _) | (refine below_drewN ?_ _) | (refine Below.drew ?_) | (refine Below.trans ?_ (Below.mono hb (by first | omega | (simp <;> omega)))) | (refine Below.trans ?_ (Below.mono hb1 (by first | omega | (simp <;> omega)))) | (refine Below.trans ?_ (Below.mono hb2 (by first | omega | (simp <;> omega)))) | (refine Below.trans ?_ (Below.mono hb3 (by first | omega | (simp <;> omega)))) | (refine Below.trans ?_ (Below.mono hb4 (by first | omega | (simp <;> omega)))) | (refine Below.trans ?_ (Below.mono hb5 (by first | omega | (simp <;> omega)))) | (refine Below.trans ?_ (Below.mono hb16 (by first | omega | (simp <;> omega)))) | (refine Below.trans ?_ (Below.mono hb15 (by first | omega | (simp <;> omega)))) | (refine Below.trans ?_ (Below.mono hb14 (by first | omega | (simp <;> omega)))) | (refine Below.trans ?_ (Below.mono hb13 (by first | omega | (simp <;> omega)))) | (refine Below.trans ?_ (Below.mono hb12 (by first | omega | (simp <;> omega)))) | (refine Below.trans ?_ (Below.mono hb11 (by first | omega | (simp <;> omega)))) | (refine Below.trans ?_ (Below.mono hb10 (by first | omega | (simp <;> omega)))) | (refine Below.trans ?_ (Below.mono hb9 (by first | omega | (simp <;> omega)))) | (refine Below.trans ?_ (Below.mono hb8 (by first | omega | (simp <;> omega)))) | (refine Below.trans ?_ (Below.mono hb7 (by first | omega | (simp <;> omega)))) | (refine Below.trans ?_ (Below.mono hb6 (by first | omega | (simp <;> omega))))))) h3 hin (by omega) (by omega)).mono ?_
    rintro e w2 ⟨A2, c2, rfl, hdo, hb2⟩
    obtain ⟨hc2, hf2, hz2⟩ := bcell hb2
    have hsl := hdo.toSL
    have hcap : l.length + 1 ≤ c2 := by
      obtain ⟨_, _, hv, h8, _⟩ := hsl
      injection hv with _ _ e9
      subst e9
      simpa using h8
    have hcap1 : l.length ≤ c2 := by omega
    have hcap2 : (l.length : Int) ≤ c2 := by omega
    have hcap3 : ¬ c2 = 0 := by omega
    have hsl2 : ∀ W, Below w2.heap.size w2 W → SL rOb W (upto w2.heap.size) (.slice A2 (l.length + 1) c2) (l ++ [⟨cls, List.replicate s.toNat ⟨0, 0⟩⟩]) := fun W hb => hsl.upto_below hb
    have hS3 : ∀ W, Below w2.heap.size w2 W → ∀ b, upto w2.heap.size b → b < W.heap.size := fun W hb b hb' => Nat.lt_of_lt_of_le hb' hb.size
    have hlast : l.length < (l ++ [(⟨cls, List.replicate s.toNat ⟨0, 0⟩⟩ : Ob)]).length := by simp
    obtain ⟨b, o, c', x, he, hsb, f1, f2, f3⟩ := hsl.atOb hlast
    rw [List.length_append, List.length_singleton] at he
    injection he with he1 he2 he3
    subst he1 he3
    rw [List.getElem_append_right (Nat.le_refl _)] at f1 f3
    simp only [Nat.sub_self, List.getElem_cons_zero] at f1 f3
    obtain ⟨A5, c5, rfl, -⟩ := f3
    rw [List.length_replicate] at f2
    have hbl : b < w2.heap.size := hsb
    clear he2
    have hlt0 : (l.length : Int) < 60 := by omega
    go_wp2_with fail
    go_at_call 24
    refine (class_at Hcls.out (hsl2 _ (by repeat (first | exact Below.refl _ _ | (refine Below.alloc ?_ (by first | omega | (simp <;> omega)) _) | (refine Below.trans ?_ (Below.mono hb3 (by first | omega | (simp <;> omega))))))) (hS3 _ (by repeat (first | exact Below.refl _ _ | (refine Below.alloc ?_ (by first | omega | (simp <;> omega)) _) | (refine Below.trans ?_ (Below.mono hb3 (by first | omega | (simp <;> omega)))))))).mono ?_
    rintro e w3 ⟨rfl, hb3⟩
    obtain ⟨hc3, hf3, hz3⟩ := bcell hb3
    have hl3 : w2.heap.size < w3.heap.size := by simp at hz3; omega
    have k0 : w3.cell? ⟨w2.heap.size, 0, none⟩ = some (.int .i64 4) := by rw [hc3 _ _ (by simp)]; simp [go_sem]
    have k1 : w3.cell? ⟨w2.heap.size, 1, none⟩ = some (.int .i64 l.length) := by rw [hc3 _ _ (by simp)]; simp [go_sem]
    have k2 : w3.cell? ⟨b, o + l.length * 2 + 1, none⟩ = some (.slice A5 s.toNat c5) := by
      rw [hc3 _ _ (by simp; omega), World.cell?_alloc_past _ _ _ hbl]; exact f2
    have hB2 : Below w2.heap.size w2 w3 := (by repeat (first | exact Below.refl _ _ | (refine Below.alloc ?_ (by first | omega | (simp <;> omega)) _) | (refine Below.trans ?_ (Below.mono hb3 (by first | omega | (simp <;> omega))))))
    have hB : Below w.heap.size w w2 := hb1.trans (hb2.mono hb1.size)
    clear hc3 hf3 hc1 hf1 hc2 hf2 hb3 hz3 f1 f2
    have hq0 : b2 0 0 0 0 = true := rfl
    have hs1 : (max s 0 != s) = false := by simp; omega
    go_wp2
    go_loopw [73] (fun v wr => ∃ n : Nat, (n : Int) ≤ s ∧ v = .int .i64 n ∧ wr.cell? ⟨w2.heap.size, 0, none⟩ = some (.int .i64 4) ∧ wr.cell? ⟨w2.heap.size, 1, none⟩ = some (.int .i64 l.length) ∧
      w2.heap.size < wr.heap.size ∧ Below w2.heap.size w2 wr) (fun v _ => s.toNat - (intOf v).toNat)
    case atStart => exact ⟨0, by omega, rfl, k0, k1, hl3, hB2⟩
    case round =>
      clear k0 k1 k2 hl3 hB2
      obtain ⟨n, hn, rfl, k0, k1, hl3, hB2⟩ := hrel
      have hBr : Below w.heap.size w wr := hB.trans (hB2.mono hB.size)
      by_cases hlt : (n : Int) < s
      · go_wp2_with fail
        go_at_call 26
        refine (slot_at (Hslot.out n hlt) (hsl2 _ hB2) (hS3 _ hB2)).mono ?_
        rintro e w4 ⟨rfl, hb4⟩
        obtain ⟨hc4, hf4, hz4⟩ := bcell hb4
        have k3 := (hc4 _ 0 hl3).trans k0
        have k4 := (hc4 _ 1 hl3).trans k1
        go_wp2
        go_roundw
        case rel => exact ⟨n + 1, by omega, by go_num, k3, k4, by omega, hB2.trans (hb4.mono (by omega))⟩
        case measure => simp [intOf]; omega
      · have r1 : RW wr (upto wr.heap.size) (.slice none 0 0) (.slice (some ⟨b, o, none⟩) l.length c2) ⟨[], l, 0⟩ := by
          refine ⟨SL.nil 0 (by simp [maxLen]), ?_⟩
          have := ((hsl2 _ hB2).take (k := l.length) (by omega)).mono (Agree.refl _ _) (S' := upto wr.heap.size) (fun b hb' => Nat.lt_of_lt_of_le hb' hB2.size)
          rwa [List.take_left] at this
        have r2 : RW wr (upto wr.heap.size) (.slice none 0 0) (.slice A l.length c) ⟨[], l, 0⟩ := by
          exact ⟨SL.nil 0 (by simp [maxLen]), (hh2 _ hBr).mono (Agree.refl _ _) (fun b hb' => hS2 _ hBr b hb')⟩
        go_wp2_with fail
        go_at_call 30
        refine (Calls_yes (ref_SameWorld ⟨[], l, 0⟩ ⟨[], l, 0⟩ _ _ _ _ _ r1 r2 (fun b hb' => hb')) rfl).mono ?_
        rintro e w4 ⟨rfl, hb4⟩
        go_wp2
        go_ret
        exact Ret.mk rfl (hBr.trans (hb4.mono hBr.size))
  · have h4 : 60 ≤ l.length := by omega
    have h5 : (60 : Int) ≤ l.length := by omega
    go_enter Try.func6, Try.ntmps6
    go_wp2_with fail; go_at_call 35; refine (law_alive1 _).mono ?_; rintro e w1 ⟨rfl, hb1⟩; obtain ⟨hc1, hf1, hz1⟩ := bcell hb1
    go_wp2_with fail; go_at_call 32; refine (value_New_full l _ cls s _ (hh2 _ (by repeat (first | exact Below.refl _ _ | (refine Below.setCell ?_ (by first | omega | (simp <;> omega)) _) | (refine Below.alloc ?_ (by first | omega | (simp <;> omega)) _) | (refine below_drewN ?_ _) | (refine Below.drew ?_) | (refine Below.trans ?_ (Below.mono hb (by first | omega | (simp <;> omega)))) | (refine Below.trans ?_ (Below.mono hb1 (by first | omega | (simp <;> omega)))) | (refine Below.trans ?_ (Below.mono hb2 (by first | omega | (simp <;> omega)))) | (refine Below.trans ?_ (Below.mono hb3 (by first | omega | (simp <;> omega)))) | (refine Below.trans ?_ (Below.mono hb4 (by first | omega | (simp <;> omega)))) | (refine Below.trans ?_ (Below.mono hb5 (by first | omega | (simp <;> omega)))) | (refine Below.trans ?_ (Below.mono hb16 (by first | omega | (simp <;> omega)))) | (refine Below.trans ?_ (Below.mono hb15 (by first | omega | (simp <;> omega)))) | (refine Below.trans ?_ (Below.mono hb14 (by first | omega | (simp <;> omega)))) | (refine Below.trans ?_ (Below.mono hb13 (by first | omega | (simp <;> omega)))) | (refine Below.trans ?_ (Below.mono hb12 (by first | omega | (simp <;> omega)))) | (refine Below.trans ?_ (Below.mono hb11 (by first | omega | (simp <;> omega)))) | (refine Below.trans ?_ (Below.mono hb10 (by first | omega | (simp <;> omega)))) | (refine Below.trans ?_ (Below.mono hb9 (by first | omega | (simp <;> omega)))) | (refine Below.trans ?_ (Below.mono hb8 (by first | omega | (simp <;> omega)))) | (refine Below.trans ?_ (Below.mono hb7 (by first | omega | (simp <;> omega)))) | (refine Below.trans ?_ (Below.mono hb6 (by first | omega | (simp <;> omega))))))) h4 hmax).mono ?_; rintro e w2 ⟨rfl, hb2⟩; obtain ⟨hc2, hf2, hz2⟩ := bcell hb2
    go_wp2
    go_ret
    exact Ret.mk rfl (by repeat (first | exact Below.refl _ _ | (refine Below.setCell ?_ (by first | omega | (simp <;> omega)) _) | (refine Below.alloc ?_ (by first | omega | (simp <;> omega)) _) | (refine below_drewN ?_ _) | (refine Below.drew ?_) | (refine Below.trans ?_ (Below.mono hb (by first | omega | (simp <;> omega)))) | (refine Below.trans ?_ (Below.mono hb1 (by first | omega | (simp <;> omega)))) | (refine Below.trans ?_ (Below.mono hb2 (by first | omega | (simp <;> omega)))) | (refine Below.trans ?_ (Below.mono hb3 (by first | omega | (simp <;> omega)))) | (refine Below.trans ?_ (Below.mono hb4 (by first | omega | (simp <;> omega)))) | (refine Below.trans ?_ (Below.mono hb5 (by first | omega | (simp <;> omega)))) | (refine Below.trans ?_ (Below.mono hb16 (by first | omega | (simp <;> omega)))) | (refine Below.trans ?_ (Below.mono hb15 (by first | omega | (simp <;> omega)))) | (refine Below.trans ?_ (Below.mono hb14 (by first | omega | (simp <;> omega)))) | (refine Below.trans ?_ (Below.mono hb13 (by first | omega | (simp <;> omega)))) | (refine Below.trans ?_ (Below.mono hb12 (by first | omega | (simp <;> omega)))) | (refine Below.trans ?_ (Below.mono hb11 (by first | omega | (simp <;> omega)))) | (refine Below.trans ?_ (Below.mono hb10 (by first | omega | (simp <;> omega)))) | (refine Below.trans ?_ (Below.mono hb9 (by first | omega | (simp <;> omega)))) | (refine Below.trans ?_ (Below.mono hb8 (by first | omega | (simp <;> omega)))) | (refine Below.trans ?_ (Below.mono hb7 (by first | omega | (simp <;> omega)))) | (refine Below.trans ?_ (Below.mono hb6 (by first | omega | (simp <;> omega))))))
end Go.Proofs.Ytioalgofaiideaa
