/- It is proved that qclaw1.ValuePrim returns true for every input: what comes of two numbers is a number that may be, or a truth value. No conditions. -/
import Derived.Test.YtioalgofaiideaaRows
import Derived.Test.YtioalgofaiideaaWalive1
namespace Go.Proofs.Ytioalgofaiideaa
open Go.RowKit
set_option linter.unusedVariables false

theorem prim_in {p a b : Int} (ha : Small a) (hb : Small b) (hp : 1 ≤ p ∧ p ≤ 5) : (primV p ⟨3, a⟩ ⟨3, b⟩).2 = 0 ∧ wrongV (primV p ⟨3, a⟩ ⟨3, b⟩).1 0 = 0 := by
  have h5 : p = 1 ∨ p = 2 ∨ p = 3 ∨ p = 4 ∨ p = 5 := by omega
  have hs : ∀ n : Int, wrongV (numV n) 0 = 0 := by
    intro n
    unfold wrongV numV
    simp only []
    rw [if_neg (by omega), if_pos trivial, if_neg ?_]
    rcases Int.le_total 0 n with h | h
    · rw [Int.tmod_eq_emod_of_nonneg h]; omega
    · have e : n.tmod 1073741825 = -((-n).tmod 1073741825) := by rw [Int.neg_tmod]; omega
      rw [e, Int.tmod_eq_emod_of_nonneg (by omega)]; omega
  have hbv : ∀ b, wrongV (boolV b) 0 = 0 := by intro b; cases b <;> rfl
  rcases h5 with rfl | rfl | rfl | rfl | rfl <;> simp [primV, hs, hbv]

theorem wrong_num_no {a : Int} (h : ¬ Small a) : wrongV ⟨3, a⟩ 0 = 3 := by
  unfold Small at h
  unfold wrongV
  simp
  omega
theorem wrong_num_ok {a : Int} (h : Small a) : wrongV ⟨3, a⟩ 0 = 0 := by
  unfold Small at h
  unfold wrongV
  simp
  omega

theorem prim_at {p a b k n e : Int} (ha : Small a) (hb : Small b) (h : primV p ⟨3, a⟩ ⟨3, b⟩ = (⟨k, n⟩, e)) (W : World) :
    Calls Try.prog 33 #[.int .i64 p, .agg #[.int .i64 3, .int .i64 a], .agg #[.int .i64 3, .int .i64 b]] W (Ret (.tuple #[.agg #[.int .i64 k, .int .i64 n], .int .i64 e]) W) := by
  have := value_Prim p 3 a 3 b W (fun _ => ha) (fun _ => hb)
  rw [h] at this
  exact this
theorem wrong_at {k n h e : Int} (hw : wrongV ⟨k, n⟩ h = e) (W : World) : Calls Try.prog 22 #[.agg #[.int .i64 k, .int .i64 n], .int .i64 h] W (Ret (.int .i64 e) W) := hw ▸ value_Wrong k n h W
theorem tmod_bd (n : Int) : -1073741825 < n.tmod 1073741825 ∧ n.tmod 1073741825 < 1073741825 := by
  rcases Int.le_total 0 n with h | h
  · rw [Int.tmod_eq_emod_of_nonneg h]; omega
  · have e : n.tmod 1073741825 = -((-n).tmod 1073741825) := by rw [Int.neg_tmod]; omega
    rw [e, Int.tmod_eq_emod_of_nonneg (by omega)]; omega
theorem prim_key {p a b : Int} (ha : Small a) (hb : Small b) (hp : 1 ≤ p ∧ p ≤ 5) : ∃ kx nx ky ny, primV p ⟨3, a⟩ ⟨3, b⟩ = (⟨kx, nx⟩, 0) ∧ primV p ⟨3, b⟩ ⟨3, a⟩ = (⟨ky, ny⟩, 0) ∧ wrongV ⟨kx, nx⟩ 0 = 0 ∧
    (((p = 1 ∨ p = 3 ∨ p = 5) ∧ b2 kx nx ky ny = true) ∨ (p = 4 ∧ (kx = 1 ∨ (kx = 2 ∧ ky = 1))) ∨ (p = 2 ∧ -1073741825 < nx ∧ nx = -ny ∧ -1073741825 < ny ∧ ny < 1073741825)) := by
  have h1 := prim_in ha hb hp
  have h2 := prim_in hb ha hp
  refine ⟨(primV p ⟨3, a⟩ ⟨3, b⟩).1.k, (primV p ⟨3, a⟩ ⟨3, b⟩).1.n, (primV p ⟨3, b⟩ ⟨3, a⟩).1.k, (primV p ⟨3, b⟩ ⟨3, a⟩).1.n, ?_, ?_, h1.2, ?_⟩
  · rw [← h1.1]
  · rw [← h2.1]
  · have h5 : p = 1 ∨ p = 2 ∨ p = 3 ∨ p = 4 ∨ p = 5 := by omega
    rcases h5 with rfl | rfl | rfl | rfl | rfl
    · refine .inl ⟨by omega, ?_⟩
      simp [primV, b2, Int.add_comm]
    · refine .inr (.inr ⟨rfl, ?_⟩)
      have e1 : (primV 2 ⟨3, a⟩ ⟨3, b⟩).1.n = (a - b).tmod 1073741825 := by simp [primV, numV]
      have e2 : (primV 2 ⟨3, b⟩ ⟨3, a⟩).1.n = (b - a).tmod 1073741825 := by simp [primV, numV]
      have e3 : (a - b).tmod 1073741825 = -(b - a).tmod 1073741825 := by rw [← Int.neg_tmod]; congr 1; omega
      have b1 := tmod_bd (a - b)
      have b2 := tmod_bd (b - a)
      rw [e1, e2]
      omega
    · refine .inl ⟨by omega, ?_⟩
      simp [primV, b2, Int.mul_comm]
    · refine .inr (.inl ⟨rfl, ?_⟩)
      by_cases h : a < b
      · have h' : ¬ b < a := by omega
        simp [primV, boolV, h, h']
      · simp [primV, boolV, h]
    · refine .inl ⟨by omega, ?_⟩
      have e : (a == b) = (b == a) := by rw [Bool.eq_iff_iff]; simp; omega
      simp [primV, b2, e]

set_option maxHeartbeats 4000000 in
set_option maxRecDepth 100000 in
theorem law_ValuePrim (p a b : Int) (w : World) : Calls Try.prog 7 #[.int .i64 p, .int .i64 a, .int .i64 b] w (Ret (.bool true) w) := by
  by_cases ha : Small a
  · by_cases hb0 : Small b
    · have ca := wrong_num_ok ha
      have cb := wrong_num_ok hb0
      have Ha := Lib.hid ha
      have Hb := Lib.hid hb0
      clear ha hb0
      by_cases hp : 1 ≤ p ∧ p ≤ 5
      · obtain ⟨kx, nx, ky, ny, hx, hy, hw, hcase⟩ := prim_key Ha.out Hb.out hp
        clear hp
        have hnp : ¬ p < 1 := by rcases hcase with ⟨h | h | h, _⟩ | ⟨h, _⟩ | ⟨h, _⟩ <;> omega
        have hnp' : ¬ 5 < p := by rcases hcase with ⟨h | h | h, _⟩ | ⟨h, _⟩ | ⟨h, _⟩ <;> omega
        have Hx := Lib.hid hx
        have Hy := Lib.hid hy
        have Hw := Lib.hid hw
        clear hx hy hw
        have Hcase := Lib.hid hcase
        clear hcase
        have hne := eql_Value
        go_enter Try.func7, Try.ntmps7
        go_wp2_with fail; go_at_call 35; refine (law_alive1 _).mono ?_; rintro e w1 ⟨rfl, hb1⟩; obtain ⟨hc1, hf1, hz1⟩ := bcell hb1
        go_wp2_with fail; go_at_call 36; refine (law_num _ _).mono ?_; rintro e w2 ⟨rfl, hb2⟩; obtain ⟨hc2, hf2, hz2⟩ := bcell hb2
        go_wp2_with fail; go_at_call 22; refine (wrong_at ca _).mono ?_; rintro e w3 ⟨rfl, hb3⟩; obtain ⟨hc3, hf3, hz3⟩ := bcell hb3
        go_wp2_with fail; go_at_call 36; refine (law_num _ _).mono ?_; rintro e w4 ⟨rfl, hb4⟩; obtain ⟨hc4, hf4, hz4⟩ := bcell hb4
        go_wp2_with fail; go_at_call 22; refine (wrong_at cb _).mono ?_; rintro e w5 ⟨rfl, hb5⟩; obtain ⟨hc5, hf5, hz5⟩ := bcell hb5
        go_wp2_with fail; go_at_call 36; refine (law_num _ _).mono ?_; rintro e w6 ⟨rfl, hb6⟩; obtain ⟨hc6, hf6, hz6⟩ := bcell hb6
        go_wp2_with fail; go_at_call 36; refine (law_num _ _).mono ?_; rintro e w7 ⟨rfl, hb7⟩; obtain ⟨hc7, hf7, hz7⟩ := bcell hb7
        go_wp2_with fail; go_at_call 33; refine (prim_at Ha.out Hb.out Hx.out _).mono ?_; rintro e w8 ⟨rfl, hb8⟩; obtain ⟨hc8, hf8, hz8⟩ := bcell hb8
        go_wp2_with fail; go_at_call 36; refine (law_num _ _).mono ?_; rintro e w9 ⟨rfl, hb9⟩; obtain ⟨hc9, hf9, hz9⟩ := bcell hb9
        go_wp2_with fail; go_at_call 36; refine (law_num _ _).mono ?_; rintro e w10 ⟨rfl, hb10⟩; obtain ⟨hc10, hf10, hz10⟩ := bcell hb10
        go_wp2_with fail; go_at_call 33; refine (prim_at Hb.out Ha.out Hy.out _).mono ?_; rintro e w11 ⟨rfl, hb11⟩; obtain ⟨hc11, hf11, hz11⟩ := bcell hb11
        have hl9 : w8.heap.size < w9.heap.size := by simp at hz9; omega
        have hl10 : w8.heap.size < w10.heap.size := by omega
        have hl11 : w8.heap.size < w11.heap.size := by omega
        have k0 : w11.cell? ⟨w8.heap.size, 0, none⟩ = some (.int .i64 kx) := by
          rw [hc11 _ _ hl10, hc10 _ _ hl9, hc9 _ _ (by simp)]; simp [go_sem]
        have k1 : w11.cell? ⟨w8.heap.size, 1, none⟩ = some (.int .i64 nx) := by
          rw [hc11 _ _ hl10, hc10 _ _ hl9, hc9 _ _ (by simp)]; simp [go_sem]
        have hB : Below w.heap.size w w11 := (by repeat (first | exact Below.refl _ _ | (refine Below.setCell ?_ (by first | omega | (simp <;> omega)) _) | (refine Below.alloc ?_ (by first | omega | (simp <;> omega)) _) | (refine below_drewN ?_ _) | (refine Below.drew ?_) | (refine Below.trans ?_ (Below.mono hb (by first | omega | (simp <;> omega)))) | (refine Below.trans ?_ (Below.mono hb1 (by first | omega | (simp <;> omega)))) | (refine Below.trans ?_ (Below.mono hb2 (by first | omega | (simp <;> omega)))) | (refine Below.trans ?_ (Below.mono hb3 (by first | omega | (simp <;> omega)))) | (refine Below.trans ?_ (Below.mono hb4 (by first | omega | (simp <;> omega)))) | (refine Below.trans ?_ (Below.mono hb5 (by first | omega | (simp <;> omega)))) | (refine Below.trans ?_ (Below.mono hb16 (by first | omega | (simp <;> omega)))) | (refine Below.trans ?_ (Below.mono hb15 (by first | omega | (simp <;> omega)))) | (refine Below.trans ?_ (Below.mono hb14 (by first | omega | (simp <;> omega)))) | (refine Below.trans ?_ (Below.mono hb13 (by first | omega | (simp <;> omega)))) | (refine Below.trans ?_ (Below.mono hb12 (by first | omega | (simp <;> omega)))) | (refine Below.trans ?_ (Below.mono hb11 (by first | omega | (simp <;> omega)))) | (refine Below.trans ?_ (Below.mono hb10 (by first | omega | (simp <;> omega)))) | (refine Below.trans ?_ (Below.mono hb9 (by first | omega | (simp <;> omega)))) | (refine Below.trans ?_ (Below.mono hb8 (by first | omega | (simp <;> omega)))) | (refine Below.trans ?_ (Below.mono hb7 (by first | omega | (simp <;> omega)))) | (refine Below.trans ?_ (Below.mono hb6 (by first | omega | (simp <;> omega))))))
        clear hb1 hb2 hb3 hb4 hb5 hb6 hb7 hb8 hb9 hb10 hb11 hc1 hc2 hc3 hc4 hc5 hc6 hc7 hc8 hc9 hc10 hc11 hf1 hf2 hf3 hf4 hf5 hf6 hf7 hf8 hf9 hf10 hf11
        have hzB := hB.size
        go_wp2_with fail; go_at_call 22; refine (wrong_at Hw.out _).mono ?_; rintro e w1 ⟨rfl, hb1⟩; obtain ⟨hc1, hf1, hz1⟩ := bcell hb1
        have hl12 : w8.heap.size < w1.heap.size := by simp at hz1; omega
        have hl13 : w11.heap.size < w1.heap.size := by simp at hz1; omega
        have k2 : w1.cell? ⟨w8.heap.size, 0, none⟩ = some (.int .i64 kx) := by
          rw [hc1 _ _ (by simp; omega), World.cell?_alloc_past _ _ _ hl11, k0]
        have k3 : w1.cell? ⟨w8.heap.size, 1, none⟩ = some (.int .i64 nx) := by
          rw [hc1 _ _ (by simp; omega), World.cell?_alloc_past _ _ _ hl11, k1]
        have k4 : w1.cell? ⟨w11.heap.size, 0, none⟩ = some (.int .i64 ky) := by
          rw [hc1 _ _ (by simp)]; simp [go_sem]
        have k5 : w1.cell? ⟨w11.heap.size, 1, none⟩ = some (.int .i64 ny) := by
          rw [hc1 _ _ (by simp)]; simp [go_sem]
        have hB1 : Below w.heap.size w w1 := (hB.alloc hzB _).trans (hb1.mono (by simp; omega))
        clear hc1 hf1 hz1 hb1 k0 k1 hB hzB
        rcases Hcase.out with ⟨rfl | rfl | rfl, hq⟩ | ⟨rfl, hkk⟩ | ⟨rfl, q1, q2, q3, q4⟩
        · go_wp2
          go_ret
          exact Ret.mk rfl hB1
        · go_wp2
          go_ret
          exact Ret.mk rfl hB1
        · go_wp2
          go_ret
          exact Ret.mk rfl hB1
        · rcases hkk with rfl | ⟨rfl, rfl⟩
          · go_wp2
            go_ret
            exact Ret.mk rfl hB1
          · go_wp2
            go_ret
            exact Ret.mk rfl hB1
        · subst q2
          go_wp2
          go_ret
          exact Ret.mk rfl hB1
      · have hp' : p < 1 ∨ 5 < p := by omega
        have ep : primV p ⟨3, a⟩ ⟨3, b⟩ = (⟨0, 0⟩, 1) := by
          unfold primV
          rw [if_neg (by simp), if_neg (by omega), if_neg (by omega), if_neg (by omega), if_neg (by omega), if_neg (by omega)]
        have Hx := Lib.hid ep
        clear ep hp
        rcases hp' with hp' | hp'
        · go_enter Try.func7, Try.ntmps7
          go_wp2_with fail; go_at_call 35; refine (law_alive1 _).mono ?_; rintro e w1 ⟨rfl, hb1⟩; obtain ⟨hc1, hf1, hz1⟩ := bcell hb1
          go_wp2_with fail; go_at_call 36; refine (law_num _ _).mono ?_; rintro e w2 ⟨rfl, hb2⟩; obtain ⟨hc2, hf2, hz2⟩ := bcell hb2
          go_wp2_with fail; go_at_call 22; refine (wrong_at ca _).mono ?_; rintro e w3 ⟨rfl, hb3⟩; obtain ⟨hc3, hf3, hz3⟩ := bcell hb3
          go_wp2_with fail; go_at_call 36; refine (law_num _ _).mono ?_; rintro e w4 ⟨rfl, hb4⟩; obtain ⟨hc4, hf4, hz4⟩ := bcell hb4
          go_wp2_with fail; go_at_call 22; refine (wrong_at cb _).mono ?_; rintro e w5 ⟨rfl, hb5⟩; obtain ⟨hc5, hf5, hz5⟩ := bcell hb5
          go_wp2_with fail; go_at_call 36; refine (law_num _ _).mono ?_; rintro e w6 ⟨rfl, hb6⟩; obtain ⟨hc6, hf6, hz6⟩ := bcell hb6
          go_wp2_with fail; go_at_call 36; refine (law_num _ _).mono ?_; rintro e w7 ⟨rfl, hb7⟩; obtain ⟨hc7, hf7, hz7⟩ := bcell hb7
          go_wp2_with fail; go_at_call 33; refine (prim_at Ha.out Hb.out Hx.out _).mono ?_; rintro e w8 ⟨rfl, hb8⟩; obtain ⟨hc8, hf8, hz8⟩ := bcell hb8
          go_wp2
          go_ret
          exact Ret.mk rfl (by repeat (first | exact Below.refl _ _ | (refine Below.setCell ?_ (by first | omega | (simp <;> omega)) _) | (refine Below.alloc ?_ (by first | omega | (simp <;> omega)) _) | (refine below_drewN ?_ _) | (refine Below.drew ?_) | (refine Below.trans ?_ (Below.mono hb (by first | omega | (simp <;> omega)))) | (refine Below.trans ?_ (Below.mono hb1 (by first | omega | (simp <;> omega)))) | (refine Below.trans ?_ (Below.mono hb2 (by first | omega | (simp <;> omega)))) | (refine Below.trans ?_ (Below.mono hb3 (by first | omega | (simp <;> omega)))) | (refine Below.trans ?_ (Below.mono hb4 (by first | omega | (simp <;> omega)))) | (refine Below.trans ?_ (Below.mono hb5 (by first | omega | (simp <;> omega)))) | (refine Below.trans ?_ (Below.mono hb16 (by first | omega | (simp <;> omega)))) | (refine Below.trans ?_ (Below.mono hb15 (by first | omega | (simp <;> omega)))) | (refine Below.trans ?_ (Below.mono hb14 (by first | omega | (simp <;> omega)))) | (refine Below.trans ?_ (Below.mono hb13 (by first | omega | (simp <;> omega)))) | (refine Below.trans ?_ (Below.mono hb12 (by first | omega | (simp <;> omega)))) | (refine Below.trans ?_ (Below.mono hb11 (by first | omega | (simp <;> omega)))) | (refine Below.trans ?_ (Below.mono hb10 (by first | omega | (simp <;> omega)))) | (refine Below.trans ?_ (Below.mono hb9 (by first | omega | (simp <;> omega)))) | (refine Below.trans ?_ (Below.mono hb8 (by first | omega | (simp <;> omega)))) | (refine Below.trans ?_ (Below.mono hb7 (by first | omega | (simp <;> omega)))) | (refine Below.trans ?_ (Below.mono hb6 (by first | omega | (simp <;> omega))))))
        · have hp2 : ¬ p < 1 := by omega
          go_enter Try.func7, Try.ntmps7
          go_wp2_with fail; go_at_call 35; refine (law_alive1 _).mono ?_; rintro e w1 ⟨rfl, hb1⟩; obtain ⟨hc1, hf1, hz1⟩ := bcell hb1
          go_wp2_with fail; go_at_call 36; refine (law_num _ _).mono ?_; rintro e w2 ⟨rfl, hb2⟩; obtain ⟨hc2, hf2, hz2⟩ := bcell hb2
          go_wp2_with fail; go_at_call 22; refine (wrong_at ca _).mono ?_; rintro e w3 ⟨rfl, hb3⟩; obtain ⟨hc3, hf3, hz3⟩ := bcell hb3
          go_wp2_with fail; go_at_call 36; refine (law_num _ _).mono ?_; rintro e w4 ⟨rfl, hb4⟩; obtain ⟨hc4, hf4, hz4⟩ := bcell hb4
          go_wp2_with fail; go_at_call 22; refine (wrong_at cb _).mono ?_; rintro e w5 ⟨rfl, hb5⟩; obtain ⟨hc5, hf5, hz5⟩ := bcell hb5
          go_wp2_with fail; go_at_call 36; refine (law_num _ _).mono ?_; rintro e w6 ⟨rfl, hb6⟩; obtain ⟨hc6, hf6, hz6⟩ := bcell hb6
          go_wp2_with fail; go_at_call 36; refine (law_num _ _).mono ?_; rintro e w7 ⟨rfl, hb7⟩; obtain ⟨hc7, hf7, hz7⟩ := bcell hb7
          go_wp2_with fail; go_at_call 33; refine (prim_at Ha.out Hb.out Hx.out _).mono ?_; rintro e w8 ⟨rfl, hb8⟩; obtain ⟨hc8, hf8, hz8⟩ := bcell hb8
          go_wp2
          go_ret
          exact Ret.mk rfl (by repeat (first | exact Below.refl _ _ | (refine Below.setCell ?_ (by first | omega | (simp <;> omega)) _) | (refine Below.alloc ?_ (by first | omega | (simp <;> omega)) _) | (refine below_drewN ?_ _) | (refine Below.drew ?_) | (refine Below.trans ?_ (Below.mono hb (by first | omega | (simp <;> omega)))) | (refine Below.trans ?_ (Below.mono hb1 (by first | omega | (simp <;> omega)))) | (refine Below.trans ?_ (Below.mono hb2 (by first | omega | (simp <;> omega)))) | (refine Below.trans ?_ (Below.mono hb3 (by first | omega | (simp <;> omega)))) | (refine Below.trans ?_ (Below.mono hb4 (by first | omega | (simp <;> omega)))) | (refine Below.trans ?_ (Below.mono hb5 (by first | omega | (simp <;> omega)))) | (refine Below.trans ?_ (Below.mono hb16 (by first | omega | (simp <;> omega)))) | (refine Below.trans ?_ (Below.mono hb15 (by first | omega | (simp <;> omega)))) | (refine Below.trans ?_ (Below.mono hb14 (by first | omega | (simp <;> omega)))) | (refine Below.trans ?_ (Below.mono hb13 (by first | omega | (simp <;> omega)))) | (refine Below.trans ?_ (Below.mono hb12 (by first | omega | (simp <;> omega)))) | (refine Below.trans ?_ (Below.mono hb11 (by first | omega | (simp <;> omega)))) | (refine Below.trans ?_ (Below.mono hb10 (by first | omega | (simp <;> omega)))) | (refine Below.trans ?_ (Below.mono hb9 (by first | omega | (simp <;> omega)))) | (refine Below.trans ?_ (Below.mono hb8 (by first | omega | (simp <;> omega)))) | (refine Below.trans ?_ (Below.mono hb7 (by first | omega | (simp <;> omega)))) | (refine Below.trans ?_ (Below.mono hb6 (by first | omega | (simp <;> omega))))))
    · have ca := wrong_num_ok ha
      have cb := wrong_num_no hb0
      clear ha hb0
      go_enter Try.func7, Try.ntmps7
      go_wp2_with fail; go_at_call 35; refine (law_alive1 _).mono ?_; rintro e w1 ⟨rfl, hb1⟩; obtain ⟨hc1, hf1, hz1⟩ := bcell hb1
      go_wp2_with fail; go_at_call 36; refine (law_num _ _).mono ?_; rintro e w2 ⟨rfl, hb2⟩; obtain ⟨hc2, hf2, hz2⟩ := bcell hb2
      go_wp2_with fail; go_at_call 22; refine (wrong_at ca _).mono ?_; rintro e w3 ⟨rfl, hb3⟩; obtain ⟨hc3, hf3, hz3⟩ := bcell hb3
      go_wp2_with fail; go_at_call 36; refine (law_num _ _).mono ?_; rintro e w4 ⟨rfl, hb4⟩; obtain ⟨hc4, hf4, hz4⟩ := bcell hb4
      go_wp2_with fail; go_at_call 22; refine (wrong_at cb _).mono ?_; rintro e w5 ⟨rfl, hb5⟩; obtain ⟨hc5, hf5, hz5⟩ := bcell hb5
      go_wp2
      go_ret
      exact Ret.mk rfl (by repeat (first | exact Below.refl _ _ | (refine Below.setCell ?_ (by first | omega | (simp <;> omega)) _) | (refine Below.alloc ?_ (by first | omega | (simp <;> omega)) _) | (refine below_drewN ?_ _) | (refine Below.drew ?_) | (refine Below.trans ?_ (Below.mono hb (by first | omega | (simp <;> omega)))) | (refine Below.trans ?_ (Below.mono hb1 (by first | omega | (simp <;> omega)))) | (refine Below.trans ?_ (Below.mono hb2 (by first | omega | (simp <;> omega)))) | (refine Below.trans ?_ (Below.mono hb3 (by first | omega | (simp <;> omega)))) | (refine Below.trans ?_ (Below.mono hb4 (by first | omega | (simp <;> omega)))) | (refine Below.trans ?_ (Below.mono hb5 (by first | omega | (simp <;> omega)))) | (refine Below.trans ?_ (Below.mono hb16 (by first | omega | (simp <;> omega)))) | (refine Below.trans ?_ (Below.mono hb15 (by first | omega | (simp <;> omega)))) | (refine Below.trans ?_ (Below.mono hb14 (by first | omega | (simp <;> omega)))) | (refine Below.trans ?_ (Below.mono hb13 (by first | omega | (simp <;> omega)))) | (refine Below.trans ?_ (Below.mono hb12 (by first | omega | (simp <;> omega)))) | (refine Below.trans ?_ (Below.mono hb11 (by first | omega | (simp <;> omega)))) | (refine Below.trans ?_ (Below.mono hb10 (by first | omega | (simp <;> omega)))) | (refine Below.trans ?_ (Below.mono hb9 (by first | omega | (simp <;> omega)))) | (refine Below.trans ?_ (Below.mono hb8 (by first | omega | (simp <;> omega)))) | (refine Below.trans ?_ (Below.mono hb7 (by first | omega | (simp <;> omega)))) | (refine Below.trans ?_ (Below.mono hb6 (by first | omega | (simp <;> omega))))))
  · have ca := wrong_num_no ha
    clear ha
    go_enter Try.func7, Try.ntmps7
    go_wp2_with fail; go_at_call 35; refine (law_alive1 _).mono ?_; rintro e w1 ⟨rfl, hb1⟩; obtain ⟨hc1, hf1, hz1⟩ := bcell hb1
    go_wp2_with fail; go_at_call 36; refine (law_num _ _).mono ?_; rintro e w2 ⟨rfl, hb2⟩; obtain ⟨hc2, hf2, hz2⟩ := bcell hb2
    go_wp2_with fail; go_at_call 22; refine (wrong_at ca _).mono ?_; rintro e w3 ⟨rfl, hb3⟩; obtain ⟨hc3, hf3, hz3⟩ := bcell hb3
    go_wp2
    go_ret
    exact Ret.mk rfl (by repeat (first | exact Below.refl _ _ | (refine Below.setCell ?_ (by first | omega | (simp <;> omega)) _) | (refine Below.alloc ?_ (by first | omega | (simp <;> omega)) _) | (refine below_drewN ?_ _) | (refine Below.drew ?_) | (refine Below.trans ?_ (Below.mono hb (by first | omega | (simp <;> omega)))) | (refine Below.trans ?_ (Below.mono hb1 (by first | omega | (simp <;> omega)))) | (refine Below.trans ?_ (Below.mono hb2 (by first | omega | (simp <;> omega)))) | (refine Below.trans ?_ (Below.mono hb3 (by first | omega | (simp <;> omega)))) | (refine Below.trans ?_ (Below.mono hb4 (by first | omega | (simp <;> omega)))) | (refine Below.trans ?_ (Below.mono hb5 (by first | omega | (simp <;> omega)))) | (refine Below.trans ?_ (Below.mono hb16 (by first | omega | (simp <;> omega)))) | (refine Below.trans ?_ (Below.mono hb15 (by first | omega | (simp <;> omega)))) | (refine Below.trans ?_ (Below.mono hb14 (by first | omega | (simp <;> omega)))) | (refine Below.trans ?_ (Below.mono hb13 (by first | omega | (simp <;> omega)))) | (refine Below.trans ?_ (Below.mono hb12 (by first | omega | (simp <;> omega)))) | (refine Below.trans ?_ (Below.mono hb11 (by first | omega | (simp <;> omega)))) | (refine Below.trans ?_ (Below.mono hb10 (by first | omega | (simp <;> omega)))) | (refine Below.trans ?_ (Below.mono hb9 (by first | omega | (simp <;> omega)))) | (refine Below.trans ?_ (Below.mono hb8 (by first | omega | (simp <;> omega)))) | (refine Below.trans ?_ (Below.mono hb7 (by first | omega | (simp <;> omega)))) | (refine Below.trans ?_ (Below.mono hb6 (by first | omega | (simp <;> omega))))))
end Go.Proofs.Ytioalgofaiideaa
