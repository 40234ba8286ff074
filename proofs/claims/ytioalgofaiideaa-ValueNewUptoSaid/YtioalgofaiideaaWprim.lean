/- The walks through the primitives: value.Prim and the reference's. -/
import Derived.Test.YtioalgofaiideaaWvalue
namespace Go.Proofs.Ytioalgofaiideaa
open Go.RowKit
set_option linter.unusedVariables false

set_option maxHeartbeats 400000 in
theorem value_num (n : Int) (w : World) : Calls Try.prog 62 #[.int .i64 n] w (Ret (.agg #[.int .i64 (numV n).k, .int .i64 (numV n).n]) w) := by
  go_enter Try.func62, Try.ntmps62
  go_wp2
  exact bodyPost_ret (v := .agg #[_, _]) (by simp [results, Try.results62, go_sem] <;> exact ⟨rfl, rfl⟩) rfl (Ret.mk rfl ((Below.refl _ _).alloc (Nat.le_refl _) _))

set_option maxHeartbeats 400000 in
theorem value_Prim (p ka na kb nb : Int) (w : World) (ha : ka = 3 → Small na) (hb : kb = 3 → Small nb) :
    Calls Try.prog 33 #[.int .i64 p, .agg #[.int .i64 ka, .int .i64 na], .agg #[.int .i64 kb, .int .i64 nb]] w
      (Ret (.tuple #[.agg #[.int .i64 (primV p ⟨ka, na⟩ ⟨kb, nb⟩).1.k, .int .i64 (primV p ⟨ka, na⟩ ⟨kb, nb⟩).1.n], .int .i64 (primV p ⟨ka, na⟩ ⟨kb, nb⟩).2]) w) := by
  by_cases hk : ka = 3 ∧ kb = 3
  · obtain ⟨rfl, rfl⟩ := hk
    have h1 := ha rfl
    have h2 := hb rfl
    obtain ⟨a1, a2⟩ := h1.add h2
    obtain ⟨a3, a4⟩ := h1.sub h2
    obtain ⟨a5, a6⟩ := h1.mul h2
    clear ha hb h1 h2
    go_enter Try.func33, Try.ntmps33
    go_wp2_with (first | (go_at_call 62; refine (value_num _ _).mono ?_; rintro e w1 ⟨rfl, hb1⟩; obtain ⟨hc1, hf1, hz1⟩ := bcell hb1) | (go_at_call 28; refine (value_Bool _ _).mono ?_; rintro e w1 ⟨rfl, hb1⟩; obtain ⟨hc1, hf1, hz1⟩ := bcell hb1))
    all_goals exact bodyPost_ret (v := .tuple #[.agg #[_, _], _]) (by simp_all [results, Try.results33, go_sem, primV]) rfl (Ret.mk rfl (by repeat (first | exact Below.refl _ _ | (refine Below.setCell ?_ (by first | omega | (simp <;> omega)) _) | (refine Below.alloc ?_ (by first | omega | (simp <;> omega)) _) | (refine below_drewN ?_ _) | (refine Below.drew ?_) | (refine Below.trans ?_ (Below.mono hb (by first | omega | (simp <;> omega)))) | (refine Below.trans ?_ (Below.mono hb1 (by first | omega | (simp <;> omega)))) | (refine Below.trans ?_ (Below.mono hb2 (by first | omega | (simp <;> omega)))) | (refine Below.trans ?_ (Below.mono hb3 (by first | omega | (simp <;> omega)))) | (refine Below.trans ?_ (Below.mono hb4 (by first | omega | (simp <;> omega)))) | (refine Below.trans ?_ (Below.mono hb5 (by first | omega | (simp <;> omega)))) | (refine Below.trans ?_ (Below.mono hb16 (by first | omega | (simp <;> omega)))) | (refine Below.trans ?_ (Below.mono hb15 (by first | omega | (simp <;> omega)))) | (refine Below.trans ?_ (Below.mono hb14 (by first | omega | (simp <;> omega)))) | (refine Below.trans ?_ (Below.mono hb13 (by first | omega | (simp <;> omega)))) | (refine Below.trans ?_ (Below.mono hb12 (by first | omega | (simp <;> omega)))) | (refine Below.trans ?_ (Below.mono hb11 (by first | omega | (simp <;> omega)))) | (refine Below.trans ?_ (Below.mono hb10 (by first | omega | (simp <;> omega)))) | (refine Below.trans ?_ (Below.mono hb9 (by first | omega | (simp <;> omega)))) | (refine Below.trans ?_ (Below.mono hb8 (by first | omega | (simp <;> omega)))) | (refine Below.trans ?_ (Below.mono hb7 (by first | omega | (simp <;> omega)))) | (refine Below.trans ?_ (Below.mono hb6 (by first | omega | (simp <;> omega)))))))
  · go_enter Try.func33, Try.ntmps33
    go_wp2_with fail
    all_goals exact bodyPost_ret (v := .tuple #[.agg #[_, _], _]) (by simp_all [results, Try.results33, go_sem, primV]) rfl (Ret.mk rfl (by repeat (first | exact Below.refl _ _ | (refine Below.setCell ?_ (by first | omega | (simp <;> omega)) _) | (refine Below.alloc ?_ (by first | omega | (simp <;> omega)) _) | (refine below_drewN ?_ _) | (refine Below.drew ?_) | (refine Below.trans ?_ (Below.mono hb (by first | omega | (simp <;> omega)))) | (refine Below.trans ?_ (Below.mono hb1 (by first | omega | (simp <;> omega)))) | (refine Below.trans ?_ (Below.mono hb2 (by first | omega | (simp <;> omega)))) | (refine Below.trans ?_ (Below.mono hb3 (by first | omega | (simp <;> omega)))) | (refine Below.trans ?_ (Below.mono hb4 (by first | omega | (simp <;> omega)))) | (refine Below.trans ?_ (Below.mono hb5 (by first | omega | (simp <;> omega)))) | (refine Below.trans ?_ (Below.mono hb16 (by first | omega | (simp <;> omega)))) | (refine Below.trans ?_ (Below.mono hb15 (by first | omega | (simp <;> omega)))) | (refine Below.trans ?_ (Below.mono hb14 (by first | omega | (simp <;> omega)))) | (refine Below.trans ?_ (Below.mono hb13 (by first | omega | (simp <;> omega)))) | (refine Below.trans ?_ (Below.mono hb12 (by first | omega | (simp <;> omega)))) | (refine Below.trans ?_ (Below.mono hb11 (by first | omega | (simp <;> omega)))) | (refine Below.trans ?_ (Below.mono hb10 (by first | omega | (simp <;> omega)))) | (refine Below.trans ?_ (Below.mono hb9 (by first | omega | (simp <;> omega)))) | (refine Below.trans ?_ (Below.mono hb8 (by first | omega | (simp <;> omega)))) | (refine Below.trans ?_ (Below.mono hb7 (by first | omega | (simp <;> omega)))) | (refine Below.trans ?_ (Below.mono hb6 (by first | omega | (simp <;> omega)))))))

/-- the reference's way to go round -/
theorem round_eq (n : Int) (h0 : 0 ≤ n) : n - n / 1073741825 * 1073741825 = n.tmod 1073741825 := by
  rw [Int.tmod_eq_emod_of_nonneg h0]; omega
theorem round_eq' (n : Int) (h0 : n < 0) (hl : -1152921504606846976 ≤ n) : wrap64 (n + wrap64 (wrap64 (-n.tdiv 1073741825) * 1073741825)) = n.tmod 1073741825 := by
  have h : n.tmod 1073741825 = -((-n).tmod 1073741825) := by rw [Int.neg_tmod]; omega
  have h2 : n.tdiv 1073741825 = -((-n).tdiv 1073741825) := by rw [Int.neg_tdiv]; omega
  rw [h, h2, Int.tdiv_eq_ediv_of_nonneg (by omega), Int.tmod_eq_emod_of_nonneg (by omega)]
  have e1 : wrap64 (- -(-n / 1073741825)) = -n / 1073741825 := by unfold wrap64; omega
  have e2 : wrap64 (-n / 1073741825 * 1073741825) = -n / 1073741825 * 1073741825 := by unfold wrap64; omega
  rw [e1, e2]
  unfold wrap64
  omega

set_option maxHeartbeats 400000 in
theorem ref_Bool (b : Bool) (w : World) : Calls Try.prog 29 #[.bool b] w (Ret (.agg #[.int .i64 (boolV b).k, .int .i64 (boolV b).n]) w) := by
  cases b
  all_goals
    go_enter Try.func29, Try.ntmps29
    go_wp2
    exact bodyPost_ret (v := .agg #[_, _]) (by simp [results, Try.results29, go_sem] <;> exact ⟨rfl, rfl⟩) rfl (Ret.mk rfl ((Below.refl _ _).alloc (Nat.le_refl _) _))

set_option maxHeartbeats 400000 in
theorem ref_Prim (p ka na kb nb : Int) (w : World) (ha : ka = 3 → Small na) (hb : kb = 3 → Small nb) :
    Calls Try.prog 34 #[.int .i64 p, .agg #[.int .i64 ka, .int .i64 na], .agg #[.int .i64 kb, .int .i64 nb]] w
      (Ret (.tuple #[.agg #[.int .i64 (primV p ⟨ka, na⟩ ⟨kb, nb⟩).1.k, .int .i64 (primV p ⟨ka, na⟩ ⟨kb, nb⟩).1.n], .int .i64 (primV p ⟨ka, na⟩ ⟨kb, nb⟩).2]) w) := by
  by_cases hk : ka = 3 ∧ kb = 3
  · obtain ⟨rfl, rfl⟩ := hk
    have h1 := ha rfl
    have h2 := hb rfl
    obtain ⟨a1, a2⟩ := h1.add h2
    obtain ⟨a3, a4⟩ := h1.sub h2
    obtain ⟨a5, a6⟩ := h1.mul h2
    clear ha hb h1 h2
    go_enter Try.func34, Try.ntmps34
    go_wp2_with (go_at_call 29; refine (ref_Bool _ _).mono ?_; rintro e w1 ⟨rfl, hb1⟩; obtain ⟨hc1, hf1, hz1⟩ := bcell hb1)
    all_goals refine bodyPost_ret (v := .tuple #[.agg #[_, _], _]) (by simp_all [results, Try.results34, go_sem]; exact ⟨⟨rfl, rfl⟩, rfl⟩) rfl (Ret.mk ?_ (by repeat (first | exact Below.refl _ _ | (refine Below.setCell ?_ (by first | omega | (simp <;> omega)) _) | (refine Below.alloc ?_ (by first | omega | (simp <;> omega)) _) | (refine below_drewN ?_ _) | (refine Below.drew ?_) | (refine Below.trans ?_ (Below.mono hb (by first | omega | (simp <;> omega)))) | (refine Below.trans ?_ (Below.mono hb1 (by first | omega | (simp <;> omega)))) | (refine Below.trans ?_ (Below.mono hb2 (by first | omega | (simp <;> omega)))) | (refine Below.trans ?_ (Below.mono hb3 (by first | omega | (simp <;> omega)))) | (refine Below.trans ?_ (Below.mono hb4 (by first | omega | (simp <;> omega)))) | (refine Below.trans ?_ (Below.mono hb5 (by first | omega | (simp <;> omega)))) | (refine Below.trans ?_ (Below.mono hb16 (by first | omega | (simp <;> omega)))) | (refine Below.trans ?_ (Below.mono hb15 (by first | omega | (simp <;> omega)))) | (refine Below.trans ?_ (Below.mono hb14 (by first | omega | (simp <;> omega)))) | (refine Below.trans ?_ (Below.mono hb13 (by first | omega | (simp <;> omega)))) | (refine Below.trans ?_ (Below.mono hb12 (by first | omega | (simp <;> omega)))) | (refine Below.trans ?_ (Below.mono hb11 (by first | omega | (simp <;> omega)))) | (refine Below.trans ?_ (Below.mono hb10 (by first | omega | (simp <;> omega)))) | (refine Below.trans ?_ (Below.mono hb9 (by first | omega | (simp <;> omega)))) | (refine Below.trans ?_ (Below.mono hb8 (by first | omega | (simp <;> omega)))) | (refine Below.trans ?_ (Below.mono hb7 (by first | omega | (simp <;> omega)))) | (refine Below.trans ?_ (Below.mono hb6 (by first | omega | (simp <;> omega)))))))
    all_goals simp_all [primV, numV]
    all_goals first | exact round_eq _ (by omega) | exact round_eq' _ (by omega) (by omega)
  · go_enter Try.func34, Try.ntmps34
    go_wp2_with fail
    all_goals exact bodyPost_ret (v := .tuple #[.agg #[_, _], _]) (by simp_all [results, Try.results34, go_sem, primV]) rfl (Ret.mk rfl (by repeat (first | exact Below.refl _ _ | (refine Below.setCell ?_ (by first | omega | (simp <;> omega)) _) | (refine Below.alloc ?_ (by first | omega | (simp <;> omega)) _) | (refine below_drewN ?_ _) | (refine Below.drew ?_) | (refine Below.trans ?_ (Below.mono hb (by first | omega | (simp <;> omega)))) | (refine Below.trans ?_ (Below.mono hb1 (by first | omega | (simp <;> omega)))) | (refine Below.trans ?_ (Below.mono hb2 (by first | omega | (simp <;> omega)))) | (refine Below.trans ?_ (Below.mono hb3 (by first | omega | (simp <;> omega)))) | (refine Below.trans ?_ (Below.mono hb4 (by first | omega | (simp <;> omega)))) | (refine Below.trans ?_ (Below.mono hb5 (by first | omega | (simp <;> omega)))) | (refine Below.trans ?_ (Below.mono hb16 (by first | omega | (simp <;> omega)))) | (refine Below.trans ?_ (Below.mono hb15 (by first | omega | (simp <;> omega)))) | (refine Below.trans ?_ (Below.mono hb14 (by first | omega | (simp <;> omega)))) | (refine Below.trans ?_ (Below.mono hb13 (by first | omega | (simp <;> omega)))) | (refine Below.trans ?_ (Below.mono hb12 (by first | omega | (simp <;> omega)))) | (refine Below.trans ?_ (Below.mono hb11 (by first | omega | (simp <;> omega)))) | (refine Below.trans ?_ (Below.mono hb10 (by first | omega | (simp <;> omega)))) | (refine Below.trans ?_ (Below.mono hb9 (by first | omega | (simp <;> omega)))) | (refine Below.trans ?_ (Below.mono hb8 (by first | omega | (simp <;> omega)))) | (refine Below.trans ?_ (Below.mono hb7 (by first | omega | (simp <;> omega)))) | (refine Below.trans ?_ (Below.mono hb6 (by first | omega | (simp <;> omega)))))))
end Go.Proofs.Ytioalgofaiideaa
