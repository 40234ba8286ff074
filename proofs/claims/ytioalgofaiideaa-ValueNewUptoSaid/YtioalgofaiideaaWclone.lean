/- The walks through slices.Clone at the types that occur. -/
import Derived.Test.YtioalgofaiideaaDeep
import Derived.Test.YtioalgofaiideaaValue
import Derived.Test.YtioalgofaiideaaProg
import Derived.BigQuiet
import Derived.Deep.QuietTactic
namespace Go.Proofs.Ytioalgofaiideaa
open Go.RowKit
set_option linter.unusedVariables false

theorem elem_V : Elem Try.prog 58 45 2 16 := Elem.of (z := .agg #[.int .i64 0, .int .i64 0]) Try.underlying58 rfl (by kernel_rfl)
set_option maxHeartbeats 400000 in
set_option maxRecDepth 100000 in
theorem clone_V {S : Sup} (xs : List V) (v : Value) (w : World) (hv : SL rV w S v xs) (hS : ∀ b, S b → b < w.heap.size) (hlen : Fits (xs.length * 16)) :
    Calls Try.prog 61 #[v] w (RetOL rV 45 none_ xs w) := by
  have hv' := hv
  obtain ⟨A, c, rfl, h1, h2, -⟩ := hv'
  rcases A with _ | ad
  · obtain ⟨-, rfl⟩ := hv.eq_nil
    have hnil := fun (w : World) => Lib.run_eql_slice_nil (P := Try.prog) w 58 45 none 0 c 0 0 Try.underlying58
    simp only [List.length_nil]
    go_enter Try.func61, Try.ntmps61
    go_wp2
    go_ret
    exact RetOL.mk (OL.nil _ _ (fun _ h => h.elim)) (Below.refl _ _)
  · have hE := elem_V
    have hnil := fun (w : World) => Lib.run_eql_slice_nil (P := Try.prog) w 58 45 (some ad) xs.length c 0 0 Try.underlying58
    have hv2 := hv.below (w' := w.alloc (.cells #[] 45)) ((Below.refl _ _).alloc (Nat.le_refl _) _) hS
    have ho := OL.empty (r := rV) (w := w) (S := S) (e := 45) (base := w.heap.size) (Nat.le_refl _) hS
    go_enter Try.func61, Try.ntmps61
    go_wp2_with (at_builtin; refine wpList_append_SL rfl _ _ rfl (r := rV) hE rfl ho (by simp) rfl hv2 (by simpa using hlen.len (by omega)) (by simpa using hlen) ?_; intro v' w1 ho1 hg1 hb1 _)
    go_ret
    exact RetOL.mk (ho1.flat_ fun _ _ _ _ h => h) (by repeat (first | exact Below.refl _ _ | (refine Below.setCell ?_ (by first | omega | (simp <;> omega)) _) | (refine Below.alloc ?_ (by first | omega | (simp <;> omega)) _) | (refine below_drewN ?_ _) | (refine Below.drew ?_) | (refine Below.trans ?_ (Below.mono hb (by first | omega | (simp <;> omega)))) | (refine Below.trans ?_ (Below.mono hb1 (by first | omega | (simp <;> omega)))) | (refine Below.trans ?_ (Below.mono hb2 (by first | omega | (simp <;> omega)))) | (refine Below.trans ?_ (Below.mono hb3 (by first | omega | (simp <;> omega)))) | (refine Below.trans ?_ (Below.mono hb4 (by first | omega | (simp <;> omega)))) | (refine Below.trans ?_ (Below.mono hb5 (by first | omega | (simp <;> omega)))) | (refine Below.trans ?_ (Below.mono hb16 (by first | omega | (simp <;> omega)))) | (refine Below.trans ?_ (Below.mono hb15 (by first | omega | (simp <;> omega)))) | (refine Below.trans ?_ (Below.mono hb14 (by first | omega | (simp <;> omega)))) | (refine Below.trans ?_ (Below.mono hb13 (by first | omega | (simp <;> omega)))) | (refine Below.trans ?_ (Below.mono hb12 (by first | omega | (simp <;> omega)))) | (refine Below.trans ?_ (Below.mono hb11 (by first | omega | (simp <;> omega)))) | (refine Below.trans ?_ (Below.mono hb10 (by first | omega | (simp <;> omega)))) | (refine Below.trans ?_ (Below.mono hb9 (by first | omega | (simp <;> omega)))) | (refine Below.trans ?_ (Below.mono hb8 (by first | omega | (simp <;> omega)))) | (refine Below.trans ?_ (Below.mono hb7 (by first | omega | (simp <;> omega)))) | (refine Below.trans ?_ (Below.mono hb6 (by first | omega | (simp <;> omega))))))

theorem elem_Ln : Elem Try.prog 25 29 2 16 := Elem.of (z := .agg #[.int .i64 0, .int .i64 0]) Try.underlying25 rfl (by kernel_rfl)
set_option maxHeartbeats 400000 in
set_option maxRecDepth 100000 in
theorem clone_Ln {S : Sup} (xs : List Ln) (v : Value) (w : World) (hv : SL rLn w S v xs) (hS : ∀ b, S b → b < w.heap.size) (hlen : Fits (xs.length * 16)) :
    Calls Try.prog 59 #[v] w (RetOL rLn 29 none_ xs w) := by
  have hv' := hv
  obtain ⟨A, c, rfl, h1, h2, -⟩ := hv'
  rcases A with _ | ad
  · obtain ⟨-, rfl⟩ := hv.eq_nil
    have hnil := fun (w : World) => Lib.run_eql_slice_nil (P := Try.prog) w 25 29 none 0 c 0 0 Try.underlying25
    simp only [List.length_nil]
    go_enter Try.func59, Try.ntmps59
    go_wp2
    go_ret
    exact RetOL.mk (OL.nil _ _ (fun _ h => h.elim)) (Below.refl _ _)
  · have hE := elem_Ln
    have hnil := fun (w : World) => Lib.run_eql_slice_nil (P := Try.prog) w 25 29 (some ad) xs.length c 0 0 Try.underlying25
    have hv2 := hv.below (w' := w.alloc (.cells #[] 29)) ((Below.refl _ _).alloc (Nat.le_refl _) _) hS
    have ho := OL.empty (r := rLn) (w := w) (S := S) (e := 29) (base := w.heap.size) (Nat.le_refl _) hS
    go_enter Try.func59, Try.ntmps59
    go_wp2_with (at_builtin; refine wpList_append_SL rfl _ _ rfl (r := rLn) hE rfl ho (by simp) rfl hv2 (by simpa using hlen.len (by omega)) (by simpa using hlen) ?_; intro v' w1 ho1 hg1 hb1 _)
    go_ret
    exact RetOL.mk (ho1.flat_ fun _ _ _ _ h => h) (by repeat (first | exact Below.refl _ _ | (refine Below.setCell ?_ (by first | omega | (simp <;> omega)) _) | (refine Below.alloc ?_ (by first | omega | (simp <;> omega)) _) | (refine below_drewN ?_ _) | (refine Below.drew ?_) | (refine Below.trans ?_ (Below.mono hb (by first | omega | (simp <;> omega)))) | (refine Below.trans ?_ (Below.mono hb1 (by first | omega | (simp <;> omega)))) | (refine Below.trans ?_ (Below.mono hb2 (by first | omega | (simp <;> omega)))) | (refine Below.trans ?_ (Below.mono hb3 (by first | omega | (simp <;> omega)))) | (refine Below.trans ?_ (Below.mono hb4 (by first | omega | (simp <;> omega)))) | (refine Below.trans ?_ (Below.mono hb5 (by first | omega | (simp <;> omega)))) | (refine Below.trans ?_ (Below.mono hb16 (by first | omega | (simp <;> omega)))) | (refine Below.trans ?_ (Below.mono hb15 (by first | omega | (simp <;> omega)))) | (refine Below.trans ?_ (Below.mono hb14 (by first | omega | (simp <;> omega)))) | (refine Below.trans ?_ (Below.mono hb13 (by first | omega | (simp <;> omega)))) | (refine Below.trans ?_ (Below.mono hb12 (by first | omega | (simp <;> omega)))) | (refine Below.trans ?_ (Below.mono hb11 (by first | omega | (simp <;> omega)))) | (refine Below.trans ?_ (Below.mono hb10 (by first | omega | (simp <;> omega)))) | (refine Below.trans ?_ (Below.mono hb9 (by first | omega | (simp <;> omega)))) | (refine Below.trans ?_ (Below.mono hb8 (by first | omega | (simp <;> omega)))) | (refine Below.trans ?_ (Below.mono hb7 (by first | omega | (simp <;> omega)))) | (refine Below.trans ?_ (Below.mono hb6 (by first | omega | (simp <;> omega))))))
end Go.Proofs.Ytioalgofaiideaa
