/- The plain law of qclaw3.CodeCut. No program in sight. -/
import Derived.Test.YtioalgofaiideaaPl15
namespace Go.Proofs.Ytioalgofaiideaa
open Go.RowKit
set_option linter.unusedVariables false
theorem alive3 : qclaw3_alive 4194304 = some true := by kernel_rfl
theorem law_CodeCut (a0 : Wd) (a1 : Int) (a2 : Me) (h0 : okWd a0) (h1 : okI a1) (h2 : okMe a2) (hb : bkWd a0 + bkI a1 + bkMe a2 ≤ 1048576) : ∃ N, qclaw3_CodeCut N a0 a1 a2 = some true := by
  obtain ⟨N, hN, ha⟩ : ∃ N, 4194304 ≤ N ∧ qclaw3_alive N = some true := ⟨4194304, Nat.le_refl _, alive3⟩
  refine ⟨N, ?_⟩
  have hs := small_Wd (w := a0) (by omega)
  unfold qclaw3_CodeCut
  rw [ha]
  obtain ⟨f, hf⟩ := checkN_some N a0 a1 a2 (by omega)
  simp only [Bool.not_true, cond_false, code_Check_eq N a0 a1 a2 (by omega) hs.1, hf, Option.bind_some]
  by_cases he : f.err = 0
  · have hfi := checkN_ok hf he
    obtain ⟨h, hh⟩ := hfi.hgt
    obtain ⟨i1, i2, i3⟩ := hgt_inv a2 hfi.neg _ _ _ _ hh (rep_neg a2) hOk_one
    have hl := hfi.len
    have hl2 := i1.len
    have hll : (h.length : Int) = (a2.code.length : Int) := by omega
    have hw : wr ((a2.code.length : Int) - (1 : Int)) = ((a2.code.length - 1 : Nat) : Int) := by rw [wr_in (by unfold InR; omega)]; omega
    have hy : h[a2.code.length - 1]? = some (h[a2.code.length - 1]'(by omega)) := List.getElem?_eq_getElem (by omega)
    generalize h[a2.code.length - 1]'(by omega) = y at hy
    rw [code_Heights_eq N a2 hfi.neg (by omega), hh]
    simp only [he, decide_true, Bool.not_true, cond_false, Option.map_some, hgtR, Option.bind_some, hll, hw, nthO_nat, hy]
    by_cases h0 : y < 0
    · simp only [h0, decide_true, cond_true]
    · have hg : (decide (0 ≤ ((a2.code.length - 1 : Nat) : Int)) && decide (((a2.code.length - 1 : Nat) : Int) ≤ (a2.code.length : Int))) = true := by simp only [Bool.and_eq_true, decide_eq_true_eq]; omega
      obtain ⟨f', hf'⟩ := checkN_some N a0 a1 ⟨a2.name, a2.args, a2.temps, a2.prim, a2.code.take (a2.code.length - 1)⟩ (by omega)
      have hne : f'.err ≠ 0 := by
        intro he'
        have hfi' := checkN_ok hf' he'
        obtain ⟨H, hH⟩ := hfi'.hgt
        obtain ⟨j1, j2, j3⟩ := hgt_inv _ hfi'.neg _ _ _ _ hH (rep_neg _) hOk_one
        have hz := (j3 (0, 0) (by simp)).2
        have hk := hgt_less a2 _ hfi.neg H j1 (fun k hk => by
          simp only [List.length_take] at hk
          show a2.code[k]? = (a2.code.take (a2.code.length - 1))[k]?
          rw [List.getElem?_take_of_lt (by omega)]) _ _ _ _ hh (fun k y hk hy => by
          rw [List.getElem?_replicate] at hk
          split at hk
          · cases hk; omega
          · cases hk) (fun z hz' => by
          simp only [List.mem_cons, List.not_mem_nil, or_false] at hz'
          subst hz'
          exact ⟨by decide, by decide, hz⟩) _ y hy (by omega)
        simp only [List.length_take] at hk
        omega
      simp only [h0, decide_false, cond_false, hg, cond_true, Int.toNat_natCast, code_Check_eq N a0 a1 _ (show 1048578 ≤ N by omega) hs.1, hf', Option.bind_some, hne, Bool.not_false]
  · simp only [he, decide_false, Bool.not_false, cond_true]
end Go.Proofs.Ytioalgofaiideaa
