/- It is proved that every constant of package api has the value that the document names: qctop.Names returns true. No conditions. -/
import Derived.Test.YtioalgofaiideaaRows
import Derived.Test.YtioalgofaiideaaPost
import Derived.WalkKit
import Derived.WalkSpells
import Derived.WalkLawsBesides
import Derived.ProofKit
import Derived.OpenShut
import Derived.BigQuiet
import Derived.Deep.QuietTactic
namespace Go.Proofs.Ytioalgofaiideaa.names
open Go.ChangeShapes Go.WideShapes Go.ChangeAt Go.RowKit
set_option linter.unusedVariables false

theorem own : ownKnob Try.prog.godebug = none := by kernel_rfl

theorem cell_new (w : World) (l : List Int) (t k : Nat) (h : k < l.length) :
    (w.alloc (.cells (l.map (Value.int .i64)).toArray t)).cell? ⟨w.heap.size, k, none⟩ = some (.int .i64 (l.getD k 0)) := by
  have e : (w.alloc (.cells (l.map (Value.int .i64)).toArray t)).heap[w.heap.size]? = some (.cells (l.map (Value.int .i64)).toArray t (0, 0)) := by
    show (w.heap.push _)[w.heap.size]? = _
    simp
  unfold World.cell?
  rw [e]
  simp [h]

abbrev upto17 : List Int := [0, 1, 2, 3, 4, 5, 6, 7, 8, 9, 10, 11, 12, 13, 14, 15, 16]
theorem upto17_at (k : Nat) (h : k < 17) : upto17.getD k 0 = (k : Int) := by
  have : ∀ k, k < 17 → upto17.getD k 0 = (k : Int) := by decide
  exact this k h
abbrev vals : List Int := [0, 1, 2, 3, 4, 0, 1, 2, 3, 4, 1, 2, 3, 4, 5, 6, 7, 8, 9, 10, 11, 12, 13, 14, 15, 16, 17, 18, 19, 20, 21, 0, 1, 2, 3, 4, 5, 12, 8, 6, 60, 60, 240, 40, 12, 6, 4, 12, 1073741824, 400, 20, 300, 1, 2, 3, 4, 5, 6, 7, 8, 3, 60]

/-- two blocks, one behind the other, that hold the same numbers -/
def Two (w : World) (b : Nat) : Prop := ∀ k, k < 62 → w.cell? ⟨b, k, none⟩ = some (.int .i64 (vals.getD k 0)) ∧ w.cell? ⟨b + 1, k, none⟩ = some (.int .i64 (vals.getD k 0))
theorem two_new (w : World) (b t : Nat) (h : b = w.heap.size) : Two ((w.alloc (.cells (vals.map (Value.int .i64)).toArray t)).alloc (.cells (vals.map (Value.int .i64)).toArray t)) b := by
  intro k hk
  have hs : (w.alloc (.cells (vals.map (Value.int .i64)).toArray t)).heap.size = b + 1 := by simp [h]
  refine ⟨?_, ?_⟩
  · rw [World.cell?_alloc_lt _ _ _ (by rw [hs]; show b < b + 1; omega), h]
    exact cell_new w vals t k hk
  · rw [← hs]
    exact cell_new _ vals t k hk

set_option maxHeartbeats 1000000 in
theorem walk (w : World) :
    Calls Try.prog 13 #[] w fun e w' => e = .returned (.bool true) ∧ Below w.heap.size w w' := by
  go_enter Try.func13, Try.ntmps13
  go_wp2
  go_loop [10] (fun v => ∃ k : Nat, k ≤ 17 ∧ v = .int .i64 k) (fun v => 17 - (intOf v).toNat)
  case atStart => exact ⟨0, by omega, rfl⟩
  case round =>
    obtain ⟨k, hk, rfl⟩ := hrel
    by_cases hlt : k < 17
    · have hc := cell_new w upto17 46 k hlt
      rw [upto17_at k hlt] at hc
      simp only [upto17, List.map_cons, List.map_nil] at hc
      go_wp2
      go_round
      case rel => exact ⟨k + 1, by omega, by go_num⟩
      case measure => simp [intOf]; omega
    · go_wp2
      go_loopw [23] (fun v wr => ∃ k : Nat, k ≤ 62 ∧ v = .int .i64 k ∧ Below w.heap.size w wr ∧ Two wr (w.heap.size + 1)) (fun v _ => 62 - (intOf v).toNat)
      case atStart =>
        refine ⟨0, by omega, rfl, ?_, ?_⟩
        · exact (((Below.refl _ _).alloc (Nat.le_refl _) _).alloc (by simp) _).alloc (by simp; omega) _
        · exact two_new _ _ _ (by simp)
      case round =>
        obtain ⟨k, hk, rfl, hb, ht⟩ := hrel
        by_cases hlt : k < 62
        · obtain ⟨h1, h2⟩ := ht k hlt
          have h3 : (k : Int) < 62 := by omega
          go_wp2
          go_quiet (fail)
          go_wp2
          go_roundw
          case rel => exact ⟨k + 1, by omega, by go_num, below_drewN hb _, ht⟩
          case measure => simp [intOf]; omega
        · go_wp2
          go_ret
          exact ⟨rfl, hb⟩

set_option maxRecDepth 100000 in
theorem lifted (os : Os) (started : os.Started) (H : Type) (enc : TypeId × Value → H) :
    ReturnsInHanded {} Try.checked os 13 .any (Rows.namesSpec.pre6 enc Try.prog Try.f13 Rows.namesRow.domain false) (Rows.namesSpec.post enc Try.prog Try.f13 false true false false) := by
  refine returnsInHanded_of_change (C := Try.checked) own started (by kernel_rfl) Try.func13
    (ChangeSpec.witness6 (enc := enc) (C := Try.checked) false ⟨#[], #[], []⟩ 8 (by kernel_rfl) (by kernel_rfl) (by kernel_rfl) (by kernel_rfl)) ?_
  intro W base args ds gs before hval0 hW hcnd _
  have hval : ∀ (j : Nat) t v, Try.f13.params[j]? = some t → args[j]? = some v → Value.okWide Try.prog W .any base t v := hval0
  have hW' := hW
  obtain ⟨p, q, hA0, hV, rfl, hfz, hnd⟩ := hW
  have hA : DataW.TrodAll enc Try.prog W 0 (fun _ => true) true Try.f13.params.toList args.toList ds p := hA0
  rw [Try.params13] at hA hval
  obtain ⟨rfl, rfl, rfl⟩ := trodAll_none hA
  obtain ⟨rfl, rfl⟩ := trodVars_none hV
  clear hA0 hval0
  simp only [List.append_nil] at hW'
  refine (walk W).mono fun e W' ⟨he, hg⟩ => ?_
  subst he
  exact ⟨_, rfl, post_of_below (pa := []) (pv := []) hW' (fun _ _ _ => (trodAll_cons_mk (shut_bool Try.underlying4 _) trodAll_mk0)) (fun sp _ => rfl) (fun _ _ => rfl) rfl
    hg (ok_one (by kernel_rfl) rfl (okWide_bool_mk Try.underlying4 _))⟩

theorem over : Rows.namesRow.holds Try.pinned (OpenSpec.ofChange Rows.namesSpec) :=
  OpenClaim.holds_of_wide 13 Try.f13 rfl rfl rfl rfl rfl rfl rfl ⟨rfl, rfl, rfl, rfl, rfl⟩ rfl rfl rfl rfl rfl (by kernel_rfl) Try.func13 (by kernel_rfl)
    (of_decide_eq_true (by kernel_rfl)) (by unfold Func.isWrapper; first | (rw [if_pos (by decide +kernel)]; kernel_rfl) | (rw [if_neg (by decide +kernel)]; exact ⟨rfl, rfl⟩))
    (fun os started H enc _ => lifted os started H enc)

theorem proved : Rows.NamesSaid :=
  over
end Go.Proofs.Ytioalgofaiideaa.names
