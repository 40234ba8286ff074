/- The walks through value.Own and value.New. -/
import Derived.Test.YtioalgofaiideaaWclone
import Derived.Test.YtioalgofaiideaaWvalue
namespace Go.Proofs.Ytioalgofaiideaa
open Go.RowKit
set_option linter.unusedVariables false
theorem elem_Pob : Elem Try.prog 43 60 2 32 := Elem.of (z := .agg #[.int .i64 0, .slice none 0 0]) Try.underlying43 rfl (by kernel_rfl)
set_option maxHeartbeats 400000 in
set_option maxRecDepth 100000 in
theorem value_Own {S : Sup} (l : List Ob) (hv : Value) (w : World) (hh : SL rOb w S hv l) (hS : ∀ b, S b → b < w.heap.size) (hlen : Fits (l.length * 32)) (hin : ∀ o ∈ l, Fits (o.slots.length * 16)) :
    Calls Try.prog 31 #[hv] w (RetOb 60 45 l w) := by
  have hh' := hh
  obtain ⟨A, c, rfl, h1, h2, -⟩ := hh'
  have hmax := hlen.small (by omega)
  go_enter Try.func31, Try.ntmps31
  go_wp2
  go_loopw [3, 8] (fun out v wr => ∃ k : Nat, k ≤ l.length ∧ v = .int .i64 k ∧ DOob wr 60 45 w.heap.size out (l.take k) ∧ Below w.heap.size w wr) (fun _ v _ => l.length - (intOf v).toNat)
  case atStart => exact ⟨0, by omega, rfl, DO.nil, Below.refl _ _⟩
  case round =>
    obtain ⟨k, hk, rfl, hdo, hb⟩ := hrel
    by_cases hlt : k < l.length
    · obtain ⟨b, o, c', x, he, hsb, h3, h4, hx⟩ := (hh.below hb hS).atOb hlt
      injection he with he1 he2 he3
      subst he1 he3
      have hbl : b < wr.heap.size := Nat.lt_of_lt_of_le (hS b hsb) hb.size
      obtain ⟨A2, c2, rfl, -⟩ := (id hx : SL rV wr S x l[k].slots)
      have hx' : ∀ o, SL rV (wr.alloc o) S (.slice A2 l[k].slots.length c2) l[k].slots := fun o => hx.below ((Below.refl _ _).alloc (Nat.le_refl _) _) fun b hb' => Nat.lt_of_lt_of_le (hS b hb') hb.size
      have hS' : ∀ o, ∀ b, S b → b < (wr.alloc o).heap.size := fun o b hb' => by have := hS b hb'; have := hb.size; simp; omega
      have hin' := hin l[k] (List.getElem_mem hlt)
      have hE := elem_Pob
      have q3 : Fits ((k + 1) * 32) := hlen.le (by omega)
      have q4 : k + 1 ≤ maxLen := by unfold maxLen; omega
      go_wp2_with (first
        | (go_at_call 61; refine (clone_V _ _ _ (hx' _) (hS' _) hin').mono ?_; rintro e w1 ⟨A1, c1, rfl, ho1, hb1⟩; obtain ⟨hc1, hf1, hz1⟩ := bcell hb1)
        | (at_builtin; ((obtain ⟨ps, hps, ho, hR, fin⟩ := DO.pushed (w := w1.setCell ⟨wr.heap.size, 1, none⟩ (.slice A1 l[k].slots.length c1)) hdo (by repeat (first | exact Below.refl _ _ | (refine Below.setCell ?_ (by first | omega | (simp <;> omega)) _) | (refine Below.alloc ?_ (by first | omega | (simp <;> omega)) _) | (refine below_drewN ?_ _) | (refine Below.drew ?_) | (refine Below.trans ?_ (Below.mono hb (by first | omega | (simp <;> omega)))) | (refine Below.trans ?_ (Below.mono hb1 (by first | omega | (simp <;> omega)))) | (refine Below.trans ?_ (Below.mono hb2 (by first | omega | (simp <;> omega)))) | (refine Below.trans ?_ (Below.mono hb3 (by first | omega | (simp <;> omega)))) | (refine Below.trans ?_ (Below.mono hb4 (by first | omega | (simp <;> omega)))) | (refine Below.trans ?_ (Below.mono hb5 (by first | omega | (simp <;> omega)))) | (refine Below.trans ?_ (Below.mono hb16 (by first | omega | (simp <;> omega)))) | (refine Below.trans ?_ (Below.mono hb15 (by first | omega | (simp <;> omega)))) | (refine Below.trans ?_ (Below.mono hb14 (by first | omega | (simp <;> omega)))) | (refine Below.trans ?_ (Below.mono hb13 (by first | omega | (simp <;> omega)))) | (refine Below.trans ?_ (Below.mono hb12 (by first | omega | (simp <;> omega)))) | (refine Below.trans ?_ (Below.mono hb11 (by first | omega | (simp <;> omega)))) | (refine Below.trans ?_ (Below.mono hb10 (by first | omega | (simp <;> omega)))) | (refine Below.trans ?_ (Below.mono hb9 (by first | omega | (simp <;> omega)))) | (refine Below.trans ?_ (Below.mono hb8 (by first | omega | (simp <;> omega)))) | (refine Below.trans ?_ (Below.mono hb7 (by first | omega | (simp <;> omega)))) | (refine Below.trans ?_ (Below.mono hb6 (by first | omega | (simp <;> omega)))))) (by decide) l[k] (.slice A1 l[k].slots.length c1) (ho1.set_below (by simp) _) (by simp) (by have := hb.size; simp; omega); rw [List.length_take_of_le (by omega)] at hps; rw [← hps] at q3 q4; refine wpList_push rfl _ _ rfl (r := rPob) hE rfl ho ?q1 (l[k], .slice A1 l[k].slots.length c1) [.int .i64 l[k].cls, .slice A1 l[k].slots.length c1] rfl (by simp) hR q4 q3 ?_; rotate_left 1; intro v3 w3 ho3 hg3 hb3 _; have hdo3 := fin v3 w3 ho3 hg3; clear fin ho hR))))
      · go_roundw
        case rel => exact ⟨k + 1, by omega, by go_num, by rw [List.take_succ_eq_append_getElem hlt]; exact hdo3, Below.trans (b := wr) hb (Below.trans (Below.mono (show Below wr.heap.size wr (w1.setCell ⟨wr.heap.size, 1, none⟩ (.slice A1 l[k].slots.length c1)) from (by repeat (first | exact Below.refl _ _ | (refine Below.setCell ?_ (by first | omega | (simp <;> omega)) _) | (refine Below.alloc ?_ (by first | omega | (simp <;> omega)) _) | (refine below_drewN ?_ _) | (refine Below.drew ?_) | (refine Below.trans ?_ (Below.mono hb (by first | omega | (simp <;> omega)))) | (refine Below.trans ?_ (Below.mono hb1 (by first | omega | (simp <;> omega)))) | (refine Below.trans ?_ (Below.mono hb2 (by first | omega | (simp <;> omega)))) | (refine Below.trans ?_ (Below.mono hb3 (by first | omega | (simp <;> omega)))) | (refine Below.trans ?_ (Below.mono hb4 (by first | omega | (simp <;> omega)))) | (refine Below.trans ?_ (Below.mono hb5 (by first | omega | (simp <;> omega)))) | (refine Below.trans ?_ (Below.mono hb16 (by first | omega | (simp <;> omega)))) | (refine Below.trans ?_ (Below.mono hb15 (by first | omega | (simp <;> omega)))) | (refine Below.trans ?_ (Below.mono hb14 (by first | omega | (simp <;> omega)))) | (refine Below.trans ?_ (Below.mono hb13 (by first | omega | (simp <;> omega)))) | (refine Below.trans ?_ (Below.mono hb12 (by first | omega | (simp <;> omega)))) | (refine Below.trans ?_ (Below.mono hb11 (by first | omega | (simp <;> omega)))) | (refine Below.trans ?_ (Below.mono hb10 (by first | omega | (simp <;> omega)))) | (refine Below.trans ?_ (Below.mono hb9 (by first | omega | (simp <;> omega)))) | (refine Below.trans ?_ (Below.mono hb8 (by first | omega | (simp <;> omega)))) | (refine Below.trans ?_ (Below.mono hb7 (by first | omega | (simp <;> omega)))) | (refine Below.trans ?_ (Below.mono hb6 (by first | omega | (simp <;> omega))))))) hb.size) hb3)⟩
        case measure => simp [intOf]; omega
      case q1 => have := hb.size; simp at hz1 ⊢; omega
    · have e : k = l.length := by omega
      subst e
      rw [List.take_length] at hdo
      go_wp2
      go_ret
      exact RetDO.mk hdo hb
end Go.Proofs.Ytioalgofaiideaa
