/- The walks through package value and its reference: what each function returns. -/
import Derived.Test.YtioalgofaiideaaValue
import Derived.Test.YtioalgofaiideaaApp
import Derived.Test.YtioalgofaiideaaProg
import Derived.BigQuiet
import Derived.Deep.QuietTactic
namespace Go.Proofs.Ytioalgofaiideaa
open Go.RowKit
set_option linter.unusedVariables false

set_option maxHeartbeats 400000 in
theorem value_Bool (b : Bool) (w : World) : Calls Try.prog 28 #[.bool b] w (Ret (.agg #[.int .i64 (boolV b).k, .int .i64 (boolV b).n]) w) := by
  cases b
  all_goals
    go_enter Try.func28, Try.ntmps28
    go_wp2
    exact bodyPost_ret (v := .agg #[_, _]) (by simp [results, Try.results28, go_sem] <;> exact ⟨rfl, rfl⟩) rfl (Ret.mk rfl ((Below.refl _ _).alloc (Nat.le_refl _) _))
set_option maxHeartbeats 400000 in
theorem value_Wrong (k n h : Int) (w : World) : Calls Try.prog 22 #[.agg #[.int .i64 k, .int .i64 n], .int .i64 h] w (Ret (.int .i64 (wrongV ⟨k, n⟩ h)) w) := by
  go_enter Try.func22, Try.ntmps22
  go_wp2
  all_goals
    go_ret
    refine Ret.mk (ret_int ?_) ((Below.refl _ _).alloc (Nat.le_refl _) _)
  all_goals (simp_all [wrongV]; try omega)

set_option maxHeartbeats 400000 in
theorem value_Class {S : Sup} (h : List Ob) (hv : Value) (k n : Int) (w : World) (hh : SL rOb w S hv h) (hS : ∀ b, S b → b < w.heap.size) :
    Calls Try.prog 24 #[hv, .agg #[.int .i64 k, .int .i64 n]] w (Ret (.int .i64 (classV h ⟨k, n⟩)) w) := by
  by_cases hc : k = 4 ∧ 0 ≤ n ∧ n < h.length
  · obtain ⟨rfl, h0, hlt⟩ := hc
    obtain ⟨m, rfl⟩ := Int.eq_ofNat_of_zero_le h0
    have hm : m < h.length := by omega
    obtain ⟨b, o, c, x, rfl, hb, h1, h2, -⟩ := hh.atOb hm
    have hbl := hS b hb
    have e : classV h ⟨4, m⟩ = h[m].cls := by simp [classV, hm, hlt]
    rw [e]
    clear e hh
    go_enter Try.func24, Try.ntmps24
    go_wp2
    go_ret
    exact Ret.mk rfl ((Below.refl _ _).alloc (Nat.le_refl _) _)
  · obtain ⟨A, c, rfl, -⟩ := hh
    go_enter Try.func24, Try.ntmps24
    go_wp2
    all_goals
      first
        | (go_ret
           refine Ret.mk (ret_int ?_) ((Below.refl _ _).alloc (Nat.le_refl _) _)
           simp_all [classV]
           try omega)
        | (exfalso; simp_all; omega)

set_option maxHeartbeats 400000 in
theorem value_Slot {S : Sup} (h : List Ob) (hv : Value) (k n i : Int) (w : World) (hh : SL rOb w S hv h) (hS : ∀ b, S b → b < w.heap.size) :
    Calls Try.prog 26 #[hv, .agg #[.int .i64 k, .int .i64 n], .int .i64 i] w (Ret (.agg #[.int .i64 (slotV h ⟨k, n⟩ i).k, .int .i64 (slotV h ⟨k, n⟩ i).n]) w) := by
  by_cases hc : k = 4 ∧ 0 ≤ n ∧ n < h.length
  · obtain ⟨rfl, h0, hlt⟩ := hc
    obtain ⟨m, rfl⟩ := Int.eq_ofNat_of_zero_le h0
    have hm : m < h.length := by omega
    obtain ⟨b, o, c, x, rfl, hb, h1, h2, hx⟩ := hh.atOb hm
    have hbl := hS b hb
    by_cases hi : 0 ≤ i ∧ i < h[m].slots.length
    · obtain ⟨hi0, hilt⟩ := hi
      obtain ⟨j, rfl⟩ := Int.eq_ofNat_of_zero_le hi0
      have hj : j < h[m].slots.length := by omega
      obtain ⟨b', o', c', rfl, hb', h3, h4⟩ := hx.atV hj
      have hbl' := hS b' hb'
      have e : slotV h ⟨4, m⟩ j = h[m].slots[j] := by simp [slotV, hm, hlt, hilt, hj]
      rw [e]
      clear e hh hx
      go_enter Try.func26, Try.ntmps26
      go_wp2
      exact bodyPost_ret (v := .agg #[_, _]) (by simp [results, Try.results26, go_sem] <;> exact ⟨rfl, rfl⟩) rfl (Ret.mk rfl (((Below.refl _ _).alloc (Nat.le_refl _) _).alloc (by simp) _))
    · obtain ⟨A2, c2, rfl, -⟩ := hx
      have e : slotV h ⟨4, m⟩ i = ⟨0, 0⟩ := by simp [slotV, hm, hlt]; omega
      rw [e]
      clear e hh
      go_enter Try.func26, Try.ntmps26
      go_wp2
      all_goals exact bodyPost_ret (v := .agg #[_, _]) (by simp [results, Try.results26, go_sem] <;> exact ⟨rfl, rfl⟩) rfl (Ret.mk rfl (((Below.refl _ _).alloc (Nat.le_refl _) _).alloc (by simp) _))
  · obtain ⟨A, c, rfl, -⟩ := hh
    have e : slotV h ⟨k, n⟩ i = ⟨0, 0⟩ := by simp [slotV]; intro a b c; exact absurd ⟨a, b, c⟩ hc
    rw [e]
    clear e
    go_enter Try.func26, Try.ntmps26
    go_wp2
    all_goals
      first
        | exact bodyPost_ret (v := .agg #[_, _]) (by simp [results, Try.results26, go_sem] <;> exact ⟨rfl, rfl⟩) rfl (Ret.mk rfl (((Below.refl _ _).alloc (Nat.le_refl _) _).alloc (by simp) _))
        | (exfalso; simp_all; omega)
end Go.Proofs.Ytioalgofaiideaa
