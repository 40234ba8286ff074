/- The closed fact that chapter 1's statements ask first. -/
import Derived.Test.YtioalgofaiideaaWref1
import Derived.Test.YtioalgofaiideaaWvnew
import Derived.Test.YtioalgofaiideaaLater
import Derived.Deep.RegionHeld3
namespace Go.Proofs.Ytioalgofaiideaa
open Go.RowKit
set_option linter.unusedVariables false

theorem field_V0 (a b : Int) (W : World) : (Instr.field 45 (.agg #[.int .i64 a, .int .i64 b]) 0).run Try.prog W = .ok (.int .i64 a) W := by kernel_rfl
abbrev aliveL : List Ob := [⟨5, [⟨0, 0⟩, ⟨0, 0⟩]⟩]
section
variable {w1 W : World} {base : Nat} {v : Value}
theorem alive_Class (h : DOob w1 60 45 base v aliveL) (hb : Below w1.heap.size w1 W) : Calls Try.prog 24 #[v, .agg #[.int .i64 4, .int .i64 0]] W (Ret (.int .i64 5) W) :=
  value_Class (S := upto w1.heap.size) aliveL v 4 0 W (h.toSL.upto_below hb) (fun b hb' => Nat.lt_of_lt_of_le hb' hb.size)
theorem alive_Slot (h : DOob w1 60 45 base v aliveL) (hb : Below w1.heap.size w1 W) : Calls Try.prog 26 #[v, .agg #[.int .i64 4, .int .i64 0], .int .i64 1] W (Ret (.agg #[.int .i64 0, .int .i64 0]) W) :=
  value_Slot (S := upto w1.heap.size) aliveL v 4 0 1 W (h.toSL.upto_below hb) (fun b hb' => Nat.lt_of_lt_of_le hb' hb.size)
theorem alive_Own (h : DOob w1 60 45 base v aliveL) (hb : Below w1.heap.size w1 W) : Calls Try.prog 31 #[v] W fun e w' => ∃ A c, e = .returned (.slice A 1 c) ∧ Below W.heap.size W w' :=
  (value_Own (S := upto w1.heap.size) aliveL v W (h.toSL.upto_below hb) (fun b hb' => Nat.lt_of_lt_of_le hb' hb.size) (Fits.of (by decide)) (fun o ho => Fits.of (by simp at ho; subst ho; decide))).mono
    fun _ _ ⟨A, c, he, _, hb⟩ => ⟨A, c, he, hb⟩
end
theorem alive_Wrong (W : World) : Calls Try.prog 22 #[.agg #[.int .i64 4, .int .i64 0], .int .i64 0] W (Ret (.int .i64 6) W) := value_Wrong 4 0 0 W
theorem alive_Bool (W : World) : Calls Try.prog 28 #[.bool true] W (Ret (.agg #[.int .i64 2, .int .i64 0]) W) := value_Bool true W
theorem alive_New (W : World) : Calls Try.prog 32 #[.slice none 0 0, .int .i64 5, .int .i64 2] W fun e w' => ∃ A c, e = .returned (.tuple #[.slice A 1 c, .agg #[.int .i64 4, .int .i64 0], .int .i64 0]) ∧
      DOob w' 60 45 W.heap.size (.slice A 1 c) aliveL ∧ Below W.heap.size W w' :=
  value_New_ok (S := none_) [] (.slice none 0 0) 5 2 W (SL.nil 0 (by simp [maxLen])) (fun _ h => h.elim) (by decide) (by simp) (by decide) (by decide)
theorem alive_Prim (W : World) : Calls Try.prog 33 #[.int .i64 1, .agg #[.int .i64 3, .int .i64 2], .agg #[.int .i64 3, .int .i64 3]] W (Ret (.tuple #[.agg #[.int .i64 3, .int .i64 5], .int .i64 0]) W) :=
  value_Prim 1 3 2 3 3 W (fun _ => by unfold Small; decide) (fun _ => by unfold Small; decide)
set_option maxHeartbeats 400000 in
theorem law_num (n : Int) (w : World) : Calls Try.prog 36 #[.int .i64 n] w (Ret (.agg #[.int .i64 3, .int .i64 n]) w) := by
  go_enter Try.func36, Try.ntmps36
  go_wp2
  exact bodyPost_ret (v := .agg #[_, _]) (by simp [results, Try.results36, go_sem] <;> exact ⟨rfl, rfl⟩) rfl (Ret.mk rfl (by repeat (first | exact Below.refl _ _ | (refine Below.setCell ?_ (by first | omega | (simp <;> omega)) _) | (refine Below.alloc ?_ (by first | omega | (simp <;> omega)) _) | (refine below_drewN ?_ _) | (refine Below.drew ?_) | (refine Below.trans ?_ (Below.mono hb (by first | omega | (simp <;> omega)))) | (refine Below.trans ?_ (Below.mono hb1 (by first | omega | (simp <;> omega)))) | (refine Below.trans ?_ (Below.mono hb2 (by first | omega | (simp <;> omega)))) | (refine Below.trans ?_ (Below.mono hb3 (by first | omega | (simp <;> omega)))) | (refine Below.trans ?_ (Below.mono hb4 (by first | omega | (simp <;> omega)))) | (refine Below.trans ?_ (Below.mono hb5 (by first | omega | (simp <;> omega)))) | (refine Below.trans ?_ (Below.mono hb16 (by first | omega | (simp <;> omega)))) | (refine Below.trans ?_ (Below.mono hb15 (by first | omega | (simp <;> omega)))) | (refine Below.trans ?_ (Below.mono hb14 (by first | omega | (simp <;> omega)))) | (refine Below.trans ?_ (Below.mono hb13 (by first | omega | (simp <;> omega)))) | (refine Below.trans ?_ (Below.mono hb12 (by first | omega | (simp <;> omega)))) | (refine Below.trans ?_ (Below.mono hb11 (by first | omega | (simp <;> omega)))) | (refine Below.trans ?_ (Below.mono hb10 (by first | omega | (simp <;> omega)))) | (refine Below.trans ?_ (Below.mono hb9 (by first | omega | (simp <;> omega)))) | (refine Below.trans ?_ (Below.mono hb8 (by first | omega | (simp <;> omega)))) | (refine Below.trans ?_ (Below.mono hb7 (by first | omega | (simp <;> omega)))) | (refine Below.trans ?_ (Below.mono hb6 (by first | omega | (simp <;> omega)))))))

set_option maxHeartbeats 2000000 in
set_option maxRecDepth 100000 in
theorem law_alive1 (w : World) : Calls Try.prog 35 #[] w (Ret (.bool true) w) := by
  go_enter Try.func35, Try.ntmps35
  go_wp2_with (first
    | (go_at_call 32; refine (alive_New _).mono ?_; rintro e w1 ⟨A1, c1, rfl, ho1, hb1⟩; obtain ⟨hc1, hf1, hz1⟩ := bcell hb1)
    | (go_at_call 36; (with_reducible refine (law_num 2 _).mono ?_); rintro e w2 ⟨rfl, hb2⟩; obtain ⟨hc2, hf2, hz2⟩ := bcell hb2)
    | (go_at_call 36; (with_reducible refine (law_num 3 _).mono ?_); rintro e w3 ⟨rfl, hb3⟩; obtain ⟨hc3, hf3, hz3⟩ := bcell hb3)
    | (go_at_call 33; refine (alive_Prim _).mono ?_; rintro e w4 ⟨rfl, hb4⟩; obtain ⟨hc4, hf4, hz4⟩ := bcell hb4))
  have k1 : (w4.alloc (.cells #[.int .i64 3, .int .i64 5] 45)).cell? ⟨w1.heap.size, 0, none⟩ = some (.int .i64 4) := by
    simp at hz2
    rw [World.cell?_alloc_lt _ _ _ (show w1.heap.size < _ by omega), hc4 _ _ (by omega), hc3 _ _ (by omega), hc2 _ _ (by simp)]
    simp [go_sem]
  have k2 : (w4.alloc (.cells #[.int .i64 3, .int .i64 5] 45)).cell? ⟨w1.heap.size, 1, none⟩ = some (.int .i64 0) := by
    simp at hz2
    rw [World.cell?_alloc_lt _ _ _ (show w1.heap.size < _ by omega), hc4 _ _ (by omega), hc3 _ _ (by omega), hc2 _ _ (by simp)]
    simp [go_sem]
  have k3 : (w4.alloc (.cells #[.int .i64 3, .int .i64 5] 45)).cell? ⟨w4.heap.size, 0, none⟩ = some (.int .i64 3) := by simp [go_sem]
  have k4 : (w4.alloc (.cells #[.int .i64 3, .int .i64 5] 45)).cell? ⟨w4.heap.size, 1, none⟩ = some (.int .i64 5) := by simp [go_sem]
  have k5 : Below w1.heap.size w1 (w4.alloc (.cells #[.int .i64 3, .int .i64 5] 45)) := by
    simp at hz2
    exact (((Below.refl _ _).alloc (Nat.le_refl _) _).trans (hb2.mono (by simp))).trans ((hb3.mono (by omega)).trans ((hb4.mono (by omega)).alloc (by omega) _))
  have k6 : w4.heap.size < (w4.alloc (.cells #[.int .i64 3, .int .i64 5] 45)).heap.size := by simp
  have k7 : w1.heap.size < w4.heap.size := by simp at hz2; omega
  have hne := eql_Value
  have hfv := field_V0
  generalize w4.alloc (.cells #[.int .i64 3, .int .i64 5] 45) = W at k1 k2 k3 k4 k5 k6 ⊢
  generalize hg1 : w1.heap.size = g1 at *
  generalize hg4 : w4.heap.size = g4 at *
  have Hg1 := Lib.hid hg1
  clear hg1 hg4 hb2 hb3 hb4 hc1 hc2 hc3 hc4 hf1 hf2 hf3 hf4 hz2 hz3 hz4 hz1
  have q1 : b2 4 0 4 0 = true := rfl
  have q2 : b2 3 5 3 5 = true := rfl
  have q3 : b2 0 0 0 0 = true := rfl
  have hgo : ∀ w' : World, Below W.heap.size W w' → Below g1 w1 w' := fun w' h => k5.trans (h.mono (by omega))
  go_region_held3 (fun w' => w'.cell? ⟨g1, 0, none⟩ = some (.int .i64 4) ∧ w'.cell? ⟨g1, 1, none⟩ = some (.int .i64 0) ∧ w'.cell? ⟨g4, 0, none⟩ = some (.int .i64 3) ∧ w'.cell? ⟨g4, 1, none⟩ = some (.int .i64 5) ∧ Below W.heap.size W w')
    (first
      | exact ⟨k1, k2, k3, k4, below_drew W⟩
      | exact ⟨(hB7.cell (by show g1 < _; omega)).trans k1, (hB7.cell (by show g1 < _; omega)).trans k2, (hB7.cell k6).trans k3, (hB7.cell k6).trans k4, hB7⟩
      | exact ⟨(hB6.cell (by show g1 < _; omega)).trans k1, (hB6.cell (by show g1 < _; omega)).trans k2, (hB6.cell k6).trans k3, (hB6.cell k6).trans k4, hB6⟩
      | exact ⟨(hB5.cell (by show g1 < _; omega)).trans k1, (hB5.cell (by show g1 < _; omega)).trans k2, (hB5.cell k6).trans k3, (hB5.cell k6).trans k4, hB5⟩
      | exact ⟨(hB4.cell (by show g1 < _; omega)).trans k1, (hB4.cell (by show g1 < _; omega)).trans k2, (hB4.cell k6).trans k3, (hB4.cell k6).trans k4, hB4⟩
      | exact ⟨(hB3.cell (by show g1 < _; omega)).trans k1, (hB3.cell (by show g1 < _; omega)).trans k2, (hB3.cell k6).trans k3, (hB3.cell k6).trans k4, hB3⟩
      | exact ⟨(hB2.cell (by show g1 < _; omega)).trans k1, (hB2.cell (by show g1 < _; omega)).trans k2, (hB2.cell k6).trans k3, (hB2.cell k6).trans k4, hB2⟩
      | (exact ⟨by assumption, by assumption, by assumption, by assumption, by assumption⟩))
    (first
    | (go_at_call 36; refine (law_num 5 _).mono ?_; rintro e w2 ⟨rfl, hb2⟩; have hB2 := below_step (W := W) (by first | assumption | exact below_drew W) hb2)
    | (go_at_call 24; refine (alive_Class ho1 (by rw [Hg1.out]; exact hgo _ (by first | assumption | exact below_drew W))).mono ?_; rintro e w3 ⟨rfl, hb3⟩; have hB3 := below_step (W := W) (by first | assumption | exact below_drew W) hb3)
    | (go_at_call 26; refine (alive_Slot ho1 (by rw [Hg1.out]; exact hgo _ (by first | assumption | exact below_drew W))).mono ?_; rintro e w4 ⟨rfl, hb4⟩; have hB4 := below_step (W := W) (by first | assumption | exact below_drew W) hb4)
    | (go_at_call 28; refine (alive_Bool _).mono ?_; rintro e w5 ⟨rfl, hb5⟩; have hB5 := below_step (W := W) (by first | assumption | exact below_drew W) hb5)
    | (go_at_call 22; refine (alive_Wrong _).mono ?_; rintro e w6 ⟨rfl, hb6⟩; have hB6 := below_step (W := W) (by first | assumption | exact below_drew W) hb6)
    | (go_at_call 31; refine (alive_Own ho1 (by rw [Hg1.out]; exact hgo _ (by first | assumption | exact below_drew W))).mono ?_; rintro e w7 ⟨A7, c7, rfl, hb7⟩; have hB7 := below_step (W := W) (by first | assumption | exact below_drew W) hb7))
  go_wp2
  go_ret
  exact Ret.mk rfl (hb1.trans ((k5.mono (by have := hb1.size; rw [Hg1.out] at this; exact this)).trans (hB7.mono (by have := hb1.size; have h2 := k5.size; exact Nat.le_trans this h2))))
end Go.Proofs.Ytioalgofaiideaa
