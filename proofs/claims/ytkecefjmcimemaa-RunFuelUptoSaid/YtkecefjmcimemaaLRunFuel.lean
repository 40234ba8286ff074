/- The plain law of qclaw5.RunFuel. No program in sight. -/
import Derived.Test.YtkecefjmcimemaaPl23
namespace Go.Proofs.Ytkecefjmcimemaa
open Go.RowKit
set_option linter.unusedVariables false
section
variable {w : Wd} {F G : Int} {L : St → Int → ByteArray → Int × Int} {Q : Int → Int → Fs × Bool}
theorem enter_fuel {c c1 : Cf} {k j : Int} {self : V} {args : List V} (he : c.err = 0) (h : cEnter w F Q c k j self args = some c1) (h0 : c1.err = 0) : c1.sends = c.sends + 1 ∧
  (c.sends < G → cEnter w G Q c k j self args = some c1) ∧ (G ≤ c.sends → cEnter w G Q c k j self args = some (cFail c 13)) := by
 obtain ⟨x, m, hx, hm, h⟩ := cEnter_inv h
 have hG : ∀ r : Option Cf, m.args = args.length → (m.prim ≠ 0 → (if G ≤ c.sends then some (cFail c 13) else (nthO args 0).bind fun a =>
    if (primN m.prim self a).2 ≠ 0 then some (cFail { c with sends := c.sends + 1 } (primN m.prim self a).2) else some (cGive { c with sends := c.sends + 1 } (primN m.prim self a).1)) = r) →
   (m.prim = 0 → (if G ≤ c.sends then some (cFail c 13) else if 20 ≤ c.fs.length then some (cFail c 14) else some { c with sends := c.sends + 1, fs := newF Q k j m self args :: c.fs }) = r) → cEnter w G Q c k j self args = r := by
  intro r g1 g2 g3
  unfold cEnter
  simp only [hx, hm, Option.bind_some]
  rw [if_neg (by simpa using g1)]
  by_cases hp : m.prim = 0
  ·rw [if_neg (by simpa using hp)]; exact g3 hp
  ·rw [if_pos hp]; exact g2 hp
 rcases h with ⟨_, rfl⟩ | ⟨_, _, rfl⟩ | ⟨g1, g2, g3, a, ha, h⟩ | ⟨_, _, _, _, rfl⟩ | ⟨g1, g2, g3, g4, rfl⟩
 ·cases h0
 ·cases h0
 ·rcases h with ⟨h5, rfl⟩ | ⟨h5, rfl⟩
  ·exact absurd h0 h5
  ·refine ⟨(cGive_sends _ _).1, fun hg => hG _ g1 (fun _ => ?_) (fun h => absurd h g3), fun hg => hG _ g1 (fun _ => if_pos hg) (fun h => absurd h g3)⟩
   rw [if_neg (by omega), ha]
   simp only [Option.bind_some]
   rw [if_neg (by simpa using h5)]
 ·cases h0
 ·refine ⟨rfl, fun hg => hG _ g1 (fun h => absurd g3 h) (fun _ => ?_), fun hg => hG _ g1 (fun h => absurd g3 h) (fun _ => if_pos hg)⟩
  rw [if_neg (by omega), if_neg (by omega)]
theorem step_fuel {c c1 : Cf} (he : c.err = 0) (h : cStep w F L Q c = some c1) (h0 : c1.err = 0) :
  (c1.sends = c.sends ∧ cStep w G L Q c = some c1) ∨ (c1.sends = c.sends + 1 ∧ (c.sends < G → cStep w G L Q c = some c1) ∧ (G ≤ c.sends → ∃ c2, cStep w G L Q c = some c2 ∧ c2.err = 13)) := by
 unfold cStep at h
 cases hfs : c.fs with
 | nil => rw [hfs] at h; cases h
 | cons f R =>
  rw [hfs] at h
  obtain ⟨i, hi, h⟩ := bindM h
  by_cases h14 : i.op = 14
  ·rw [if_pos h14] at h
   refine .inr ?_
   obtain ⟨x, cl, m, k0, k1, hy, hc, hm, h⟩ := cSend_inv h
   rcases h with ⟨_, rfl⟩ | ⟨h2, h⟩
   ·cases h0
   ·obtain ⟨e1, e2, e3⟩ := enter_fuel (G := G) (by exact he) h h0
    have key : ∀ r : Option Cf, cEnter w G Q { c with fs := { f with at_ := f.at_ + 1, stack := f.stack.take (f.stack.length - i.a.toNat - 1) } :: R, ev := c.ev ++ [(sendS { f with at_ := f.at_ + 1 } m i f.at_, classN c.heap x)] }
      (L (sendS { f with at_ := f.at_ + 1 } m i f.at_) (classN c.heap x) i.name).1 (L (sendS { f with at_ := f.at_ + 1 } m i f.at_) (classN c.heap x) i.name).2 x (f.stack.drop (f.stack.length - i.a.toNat)) = r → cStep w G L Q c = r := by
     intro r hr
     unfold cStep cSend
     rw [hfs]
     simp only at k1 hy hc hm
     simp only [hi, Option.bind_some, if_pos h14, hy, hc, hm]
     rw [if_pos ⟨k0, k1⟩, if_neg (show ¬ (L (sendS { f with at_ := f.at_ + 1 } m i f.at_) (classN c.heap x) i.name).2 < 0 by omega)]
     exact hr
    exact ⟨e1, fun hg => key _ (e2 hg), fun hg => ⟨_, key _ (e3 hg), rfl⟩⟩
  by_cases h21 : i.op = 21
  ·refine .inr ?_
   rw [if_neg h14, if_neg (show ¬ i.op = 15 by omega), if_neg (show ¬ i.op = 16 by omega), if_neg (show ¬ i.op = 17 by omega), if_neg (show ¬ i.op = 18 by omega), if_pos h21] at h
   cases h
   have key : cStep w G L Q c = some (cCount G { c with fs := { f with at_ := f.at_ + 1 } :: R }) := by
    unfold cStep
    rw [hfs]
    simp only [hi, Option.bind_some]
    rw [if_neg h14, if_neg (show ¬ i.op = 15 by omega), if_neg (show ¬ i.op = 16 by omega), if_neg (show ¬ i.op = 17 by omega), if_neg (show ¬ i.op = 18 by omega), if_pos h21]
   rw [key]
   unfold cCount at h0 ⊢
   by_cases g1 : F ≤ c.sends
   ·rw [if_pos g1] at h0; cases h0
   rw [if_neg g1] at h0
   by_cases g2 : 20 ≤ ({ f with at_ := f.at_ + 1 } :: R).length
   ·rw [if_pos g2] at h0; cases h0
   rw [if_neg g1, if_neg g2]
   refine ⟨rfl, fun hg => ?_, fun hg => ⟨_, rfl, ?_⟩⟩
   ·rw [if_neg (show ¬ G ≤ c.sends by omega)]
   ·rw [if_pos (show G ≤ c.sends from hg)]; rfl
  ·left
   have hs : c1.sends = c.sends := by
    rw [if_neg h14] at h
    by_cases h15 : i.op = 15
    ·rw [if_pos h15] at h; cases h; unfold cJump; split <;> rfl
    rw [if_neg h15] at h
    by_cases h16 : i.op = 16
    ·rw [if_pos h16, Option.map_eq_some_iff] at h
     obtain ⟨q, _, rfl⟩ := h
     unfold cElse
     split
     ·unfold cJump; split <;> rfl
     ·split <;> rfl
    rw [if_neg h16] at h
    by_cases h17 : i.op = 17
    ·rw [if_pos h17, Option.map_eq_some_iff] at h
     obtain ⟨q, _, rfl⟩ := h
     exact (cGive_sends _ _).1
    rw [if_neg h17] at h
    by_cases h18 : i.op = 18
    ·rw [if_pos h18] at h
     unfold cGuard at h
     split at h
     ·obtain ⟨x, _, h⟩ := bindM h
      split at h
      ·cases h; rfl
      ·obtain ⟨cl, _, h⟩ := bindM h
       obtain ⟨m, _, h⟩ := bindM h
       split at h <;> cases h
       rfl
     ·cases h
    rw [if_neg h18, if_neg h21] at h
    unfold cMove at h
    by_cases k1 : i.op = 1
    ·rw [if_pos k1] at h
     cases h; rfl
    rw [if_neg k1] at h
    by_cases k2 : i.op = 2
    ·rw [if_pos k2] at h
     rw [Option.map_eq_some_iff] at h
     obtain ⟨_, _, rfl⟩ := h
     rfl
    rw [if_neg k2] at h
    by_cases k3 : i.op = 3
    ·rw [if_pos k3] at h
     rw [Option.map_eq_some_iff] at h
     obtain ⟨_, _, rfl⟩ := h
     rfl
    rw [if_neg k3] at h
    by_cases k4 : i.op = 4
    ·rw [if_pos k4] at h
     cases h; rfl
    rw [if_neg k4] at h
    by_cases k5 : i.op = 5
    ·rw [if_pos k5] at h
     cases h; rfl
    rw [if_neg k5] at h
    by_cases k6 : i.op = 6
    ·rw [if_pos k6] at h
     cases h; rfl
    rw [if_neg k6] at h
    by_cases k7 : i.op = 7
    ·rw [if_pos k7] at h
     cases h; rfl
    rw [if_neg k7] at h
    by_cases k8 : i.op = 8
    ·rw [if_pos k8] at h
     cases h; rfl
    rw [if_neg k8] at h
    by_cases k9 : i.op = 9
    ·rw [if_pos k9] at h
     rw [Option.map_eq_some_iff] at h
     obtain ⟨_, _, rfl⟩ := h
     rfl
    rw [if_neg k9] at h
    by_cases k10 : i.op = 10
    ·rw [if_pos k10] at h
     rw [Option.map_eq_some_iff] at h
     obtain ⟨_, _, rfl⟩ := h
     rfl
    rw [if_neg k10] at h
    by_cases k11 : i.op = 11
    ·rw [if_pos k11] at h
     obtain ⟨_, _, h⟩ := bindM h
     split at h
     ·cases h; rfl
     ·cases h
    rw [if_neg k11] at h
    by_cases k12 : i.op = 12
    ·rw [if_pos k12] at h
     obtain ⟨_, _, h⟩ := bindM h
     rw [Option.map_eq_some_iff] at h
     obtain ⟨_, _, rfl⟩ := h
     rfl
    rw [if_neg k12] at h
    by_cases k19 : i.op = 19
    ·rw [if_pos k19] at h
     rw [Option.map_eq_some_iff] at h
     obtain ⟨_, _, rfl⟩ := h
     rfl
    rw [if_neg k19] at h
    by_cases k20 : i.op = 20
    ·rw [if_pos k20] at h
     obtain ⟨_, _, h⟩ := bindM h
     obtain ⟨_, _, h⟩ := bindM h
     rw [Option.map_eq_some_iff] at h
     obtain ⟨_, _, rfl⟩ := h
     rfl
    rw [if_neg k20] at h
    by_cases k13 : i.op = 13
    ·rw [if_pos k13] at h
     split at h
     ·cases h; rfl
     ·cases h; rfl
    rw [if_neg k13] at h
    cases h; rfl
   refine ⟨hs, ?_⟩
   unfold cStep
   rw [hfs]
   simp only [hi, Option.bind_some]
   rw [if_neg h14, if_neg h21]
   rw [if_neg h14, if_neg h21] at h
   exact h
theorem path_fuel {c c' : Cf} (p : Path w F L Q c c') (h0 : c'.err = 0) : c.sends ≤ c'.sends ∧ (c'.sends ≤ G → Path w G L Q c c') ∧ (c.sends ≤ G → G < c'.sends → ∃ c2, Path w G L Q c c2 ∧ c2.err = 13) := by
 induction p with
 | refl => exact ⟨Int.le_refl _, fun _ => .refl _, fun h1 h2 => by omega⟩
 | @step c c1 c2 he hne hst p ih =>
  obtain ⟨i1, i2, i3⟩ := ih h0
  have he1 : c1.err = 0 := by
   cases p with
   | refl => exact h0
   | step h => exact h
  rcases step_fuel (G := G) he hst he1 with ⟨s1, s2⟩ | ⟨s1, s2, s3⟩
  ·refine ⟨by omega, fun hg => .step he hne s2 (i2 hg), fun h1 h2 => ?_⟩
   obtain ⟨d, d1, d2⟩ := i3 (by omega) h2
   exact ⟨d, .step he hne s2 d1, d2⟩
  ·refine ⟨by omega, fun hg => .step he hne (s2 (by omega)) (i2 hg), fun h1 h2 => ?_⟩
   by_cases hg : G ≤ c.sends
   ·obtain ⟨d, d1, d2⟩ := s3 hg
    exact ⟨d, .step he hne d1 (.refl _), d2⟩
   ·obtain ⟨d, d1, d2⟩ := i3 (by omega) h2
    exact ⟨d, .step he hne (s2 (by omega)) d1, d2⟩
theorem begin_fuel {c : TCall} {c1 : Cf} (h : beginC w F Q c = some c1) (h0 : c1.err = 0) : c1.sends = 1 ∧ (0 < G → beginC w G Q c = some c1) ∧ (G ≤ 0 → beginC w G Q c = some (cFail (startC w) 13)) := by
 unfold beginC at h ⊢
 by_cases hj : (findN w c.name (classN w.heap c.self_)).2 < 0
 ·rw [if_pos hj] at h; cases h; cases h0
 ·rw [if_neg hj] at h
  rw [if_neg hj]
  obtain ⟨e1, e2, e3⟩ := enter_fuel (G := G) (c := startC w) rfl h h0
  exact ⟨e1, e2, e3⟩
theorem wrong_fuel {c : TCall} (h : wrongCallN w c F = 0) (h0 : 0 ≤ G) (h1 : G ≤ 400) : wrongCallN w c G = 0 := by
 have h2 := wrongCallN_ok h
 unfold wrongCallN at h ⊢
 have a1 : ¬ nameN c.name = false := by rw [h2.1]; simp
 have a2 : ¬ 4 < c.args.length := by have := h2.2.1; omega
 have a3 : ¬ (F < 0 ∨ 400 < F) := by have := h2.2.2; omega
 rw [if_neg a1, if_neg a2, if_neg a3] at h
 rw [if_neg a1, if_neg a2, if_neg (by omega)]
 exact h
end
set_option maxRecDepth 100000 in
theorem RunFuel_alive : qclaw5_alive 4194304 = some true := by kernel_rfl
theorem law_RunFuel (a0 : Wd) (a1 : TCall) (a2 : Int) (a3 : Int) (h0 : okWd a0) (h1 : okTCall a1) (h2 : okI a2) (h3 : okI a3) (hb : bkWd a0 + bkTCall a1 + bkI a2 + bkI a3 ≤ 1048576) : ∃ N, qclaw5_RunFuel N a0 a1 a2 a3 = some true := by
 obtain ⟨N, hNe⟩ : ∃ N : Nat, N = 4194304 := ⟨_, rfl⟩
 have hal : qclaw5_alive N = some true := by rw [hNe]; exact RunFuel_alive
 have hN : 4194304 ≤ N := by omega
 refine ⟨N, ?_⟩
 have hs := small_Wd (w := a0) (by omega)
 unfold qclaw5_RunFuel
 rw [hal]
 obtain ⟨r, hr, hp⟩ := Right_some N a0 hN hs
 simp only [Option.bind_some, Bool.not_true, cond_false]
 rw [hr]
 simp only [Option.bind_some]
 by_cases h : r = 0
 ·have hp := hp h
  have w1 : ∀ x : Int, 0 ≤ x ∧ x ≤ 400 → wr (400 - x) = 400 - x := fun x hx => wr_in (by unfold InR; omega)
  rw [decide_eq_true h]
  simp only [Bool.not_true, cond_false]
  by_cases c1 : a3 < 0
  ·rw [decide_eq_true c1]; rfl
  by_cases c2 : 400 < a3
  ·rw [decide_eq_false c1, decide_eq_true c2]; rfl
  by_cases c3 : a2 < 0
  ·rw [decide_eq_false c1, decide_eq_false c2, decide_eq_true c3]; rfl
  rw [decide_eq_false c1, decide_eq_false c2, decide_eq_false c3, w1 a3 (by omega)]
  by_cases c4 : 400 - a3 < a2
  ·rw [decide_eq_true c4]; rfl
  rw [decide_eq_false c4]
  simp only [cond_false, Option.bind_some]
  obtain ⟨s, q1, q2⟩ := run_Plain_is hN hs hp a1 a2
  obtain ⟨f1, f2⟩ := ran_facts hN hs hp q2
  rw [q1]
  simp only [Option.bind_some]
  by_cases he : s.2.err = 0
  ·rw [decide_eq_true he]
   simp only [Bool.not_true, cond_false]
   obtain ⟨hw, _, hs2, _⟩ := f1 he
   rcases q2 with ⟨b1, _⟩ | ⟨_, d1, d', b1, b2, b3, b4⟩
   ·exact absurd hw b1
   have hd0 : d'.err = 0 := by
    rw [b4] at he
    unfold outN at he
    by_cases hd : d'.err = 0
    ·exact hd
    ·rw [if_neg hd] at he; exact he
   have hss : s.2.sends = d'.sends := by rw [b4]; unfold outN; rw [if_pos hd0]
   have hd1 : d1.err = 0 := by
    cases b2 with
    | refl => exact hd0
    | step h => exact h
   have same : ∀ G : Int, d'.sends ≤ G → 0 ≤ G → G ≤ 400 → run_Plain N a0 a1 G = some s := by
    intro G g1 g2 g3
    obtain ⟨t, t1, t2⟩ := run_Plain_is hN hs hp a1 G
    obtain ⟨e1, e2, _⟩ := begin_fuel (G := G) b1 hd1
    obtain ⟨e4, e5, _⟩ := path_fuel (G := G) b2 hd0
    have : RanP a0 a1 G noQ s := .inr ⟨wrong_fuel hw g2 g3, d1, d', e2 (by omega), e5 g1, b3, b4⟩
    rw [t1, t2.det this]
   obtain ⟨e1, _, _⟩ := begin_fuel (G := 0) b1 hd1
   obtain ⟨e4, _, _⟩ := path_fuel (G := 0) b2 hd0
   have w2 : wr (a2 + a3) = a2 + a3 := wr_in (by unfold InR; omega)
   have w3 : wr (s.2.sends - 1) = s.2.sends - 1 := wr_in (by unfold InR; omega)
   rw [w2, w3, same (a2 + a3) (by omega) (by omega) (by omega), hss, same d'.sends (Int.le_refl _) (by omega) (by omega), decide_eq_false (show ¬ d'.sends < 1 by omega), decide_eq_false (show ¬ a2 < d'.sends by omega)]
   simp only [Option.bind_some, cond_false, eqAs_TRan, decide_true, Bool.not_true, SameWorld_eq]
   obtain ⟨t, t1, t2⟩ := run_Plain_is hN hs hp a1 (d'.sends - 1)
   rw [t1]
   simp only [Option.bind_some]
   have hw' : wrongCallN a0 a1 (d'.sends - 1) = 0 := wrong_fuel hw (by omega) (by omega)
   have : t.2.err = 13 := by
    by_cases hz : d'.sends = 1
    ·obtain ⟨_, _, z⟩ := begin_fuel (G := d'.sends - 1) b1 hd1
     have : RanP a0 a1 (d'.sends - 1) noQ (outN a0 (cFail (startC a0) 13)) := .inr ⟨hw', _, _, z (by omega), .refl _, .inl (by simp [cFail]), rfl⟩
     rw [t2.det this]
     rfl
    ·obtain ⟨_, z1, _⟩ := begin_fuel (G := d'.sends - 1) b1 hd1
     obtain ⟨_, _, z2⟩ := path_fuel (G := d'.sends - 1) b2 hd0
     obtain ⟨c2, z3, z4⟩ := z2 (by omega) (by omega)
     have : RanP a0 a1 (d'.sends - 1) noQ (outN a0 c2) := .inr ⟨hw', _, _, z1 (by omega), z3, .inl (by rw [z4]; decide), rfl⟩
     rw [t2.det this]
     unfold outN
     rw [if_neg (by rw [z4]; decide)]
     exact z4
   rw [decide_eq_true this]
  ·rw [decide_eq_false he]; rfl
 ·rw [decide_eq_false h]; rfl
end Go.Proofs.Ytkecefjmcimemaa
