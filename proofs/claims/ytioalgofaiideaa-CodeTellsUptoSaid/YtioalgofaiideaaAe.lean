/- THE WALK OVER READINGS: what a state tells another one; loops; a whole function's contract. No program in sight. -/
import Derived.Test.YtioalgofaiideaaAd
namespace Go.Proofs.Ytioalgofaiideaa
open Go.RowKit
set_option linter.unusedVariables false

/- other names for objects -/
mutual
def AV.ren (ρ : Nat → Nat) : AV → AV
  | .ptr id off => .ptr (ρ id) off
  | .own id => .own (ρ id)
  | .osl id n => .osl (ρ id) n
  | .ep id i sz off => .ep (ρ id) i sz off
  | .mp id => .mp (ρ id)
  | .nst id => .nst (ρ id)
  | .fn f cs => .fn f (AV.rens ρ cs)
  | .agg cs => .agg (AV.rens ρ cs)
  | .tup cs => .tup (AV.rens ρ cs)
  | a => a
def AV.rens (ρ : Nat → Nat) : List AV → List AV
  | [] => []
  | a :: l => a.ren ρ :: AV.rens ρ l
end
def Ctx.com (c : Ctx) (ρ : Nat → Nat) : Ctx := { c with μ := fun i => c.μ (ρ i), hd := fun i => c.hd (ρ i) }
section
variable {c : Ctx} {w : World} {ρ : Nat → Nat}
mutual
theorem Rd.unren : ∀ (a : AV) {v : Value}, Rd c w v (a.ren ρ) → Rd (c.com ρ) w v a
  | .ptr id off, _, h => by rw [h.ptr_]; exact .ptr rfl
  | .own id, _, h => by obtain ⟨A, n, cap, e1, e2, e3, e4⟩ := h.own_; rw [e1]; exact .own e2 e3 e4
  | .osl id n, _, h => by obtain ⟨A, m, cap, e1, e2, e3, e4, e5⟩ := h.osl_; rw [e1]; exact .osl e2 e3 e4 e5
  | .ep id i sz off, _, h => by obtain ⟨g, x0, m, cap, e1, e2⟩ := h.ep_; rw [e1]; exact .ep e2
  | .mp id, _, h => by rw [h.mp_]; exact .mp rfl
  | .nst id, _, h => by obtain ⟨A, n, cap, vs, e1, e2, e3, e4⟩ := h.nst_; rw [e1]; exact .nst e2 e3 e4
  | .fn f cs, _, h => by obtain ⟨us, e, hu⟩ := Rd.fn_ h; rw [e]; exact .fn (Rds.unren cs hu)
  | .agg cs, _, h => by obtain ⟨us, e, hu⟩ := Rd.agg_ h; rw [e]; exact .agg (Rds.unren cs hu)
  | .tup cs, _, h => by obtain ⟨us, e, hu⟩ := Rd.tup_ h; rw [e]; exact .tup (Rds.unren cs hu)
  | .any, _, _ => Rd.any_ _
  | .int n, _, h => by cases h with | fz h => exact .fz h
  | .ik k n, _, h => by cases h with | fz h => exact .fz h
  | .bool b, _, h => by cases h with | fz h => exact .fz h
  | .str s, _, h => by cases h with | fz h => exact .fz h
  | .sl sz ls, _, h => by cases h with | fz h => exact .fz h
  | .fp cs, _, h => by cases h with | fz h => exact .fz h
  | .nilsl, _, h => by cases h with | fz h => exact .fz h
  | .slb b, _, h => by cases h with | fz h => exact .fz h
  | .nilp, _, h => by cases h with | fz h => exact .fz h
  | .nilf, _, h => by cases h with | fz h => exact .fz h
  | .con v, _, h => by cases h with | fz h => exact .fz h
theorem Rds.unren : ∀ (as : List AV) {vs : List Value}, Rds c w vs (AV.rens ρ as) → Rds (c.com ρ) w vs as
  | [], _, h => by cases h; exact .nil
  | a :: l, _, h => by cases h with | cons h t => exact .cons (Rd.unren a h) (Rds.unren l t)
end
end
def Obj.ren (ρ : Nat → Nat) : Obj → Obj
  | .box cs e => .box (AV.rens ρ cs) e
  | .eqv j v => .eqv (ρ j) v
  | .rowx sz ls e i off x => .rowx sz ls e i off (ρ x)
  | o => o
theorem ORep.unren {c : Ctx} {w : World} {ρ : Nat → Nat} {id : Nat} {o : Obj} (h : ORep c w (ρ id) (o.ren ρ)) : ORep (c.com ρ) w id o := by
  cases o with
  | gone => trivial
  | box cs e => obtain ⟨us, h1, h2⟩ := h; exact ⟨us, h1, Rds.unren cs h2⟩
  | row sz ls e => exact h
  | pins sz l e => exact h
  | nest sz e isz ie l => exact h
  | rowx sz ls e i off x => obtain ⟨v, h1, h2⟩ := h; exact ⟨v, Rd.unren (.own x) h1, h2⟩
  | eqv j v => exact h
theorem foot_ren {c : Ctx} {ρ : Nat → Nat} {id : Nat} {o : Obj} {b : Nat} : foot (c.com ρ) id o b ↔ foot c (ρ id) (o.ren ρ) b := by cases o <;> exact Iff.rfl

/-- new names: old ones -/
def rn (l : List (Nat × Nat)) (i : Nat) : Nat := match lk l i with
  | some j => j
  | none => i
def rnOk (l : List (Nat × Nat)) : Bool := l.all fun p => Nat.blt p.1 top
theorem rn_top {l : List (Nat × Nat)} (h : rnOk l = true) {i : Nat} (hi : top ≤ i) : rn l i = i := by
  unfold rn
  split
  · rename_i j hj
    have := Nat.le_of_ble_eq_true (List.all_eq_true.1 h _ (lk_mem hj))
    simp only at this
    omega
  · rfl
def injB (ρ : Nat → Nat) (os : Os) : Bool := os.all fun p => os.all fun q => Nat.beq p.1 q.1 || !Nat.beq (ρ p.1) (ρ q.1)
theorem injB_spec {ρ : Nat → Nat} {os : Os} (h : injB ρ os = true) {i j : Nat} {o o' : Obj} (hi : lk os i = some o) (hj : lk os j = some o') (hne : i ≠ j) : ρ i ≠ ρ j := by
  have h1 := List.all_eq_true.1 (List.all_eq_true.1 h _ (lk_mem hi)) _ (lk_mem hj)
  simp only [Bool.or_eq_true, Bool.not_eq_true'] at h1
  rcases h1 with h1 | h1
  · exact absurd (Nat.eq_of_beq_eq_true h1) hne
  · intro e
    rw [e] at h1
    simp at h1
def subT1 : Option AV → AV → Prop
  | some a, b => leA a b
  | none, b => b = .any
def subT (ρ : Nat → Nat) (ts : Ts) : Ts → Prop
  | [] => True
  | (t, a) :: r => subT1 (lk ts t) (a.ren ρ) ∧ subT ρ ts r
def subO (ρ : Nat → Nat) (os : Os) : Os → Prop
  | [] => True
  | (id, o) :: r => lk os (ρ id) = some (o.ren ρ) ∧ subO ρ os r
theorem subO_spec {ρ : Nat → Nat} {os : Os} : ∀ {os2 : Os}, subO ρ os os2 → ∀ id o, lk os2 id = some o → lk os (ρ id) = some (o.ren ρ)
  | (k, x) :: r, h, id, o, hl => by
    rw [lk_cons] at hl
    split at hl
    · rename_i e
      subst e
      cases hl
      exact h.1
    · exact subO_spec h.2 id o hl
theorem HOk.unren {c : Ctx} {w : World} {os os2 : Os} {ρ : Nat → Nat} (h : HOk c w os) (hs : subO ρ os os2) (hi : injB ρ os2 = true) : HOk (c.com ρ) w os2 := by
  have hs := subO_spec hs
  exact ⟨fun id o hl => (h.rep _ _ (hs id o hl)).unren, fun id o b hl hf => h.lt _ _ b (hs id o hl) (foot_ren.1 hf), fun id id' o o' b hne hl hl' hf hf' => h.sep _ _ _ _ b (injB_spec hi hl hl' hne) (hs id o hl) (hs id' o' hl') (foot_ren.1 hf) (foot_ren.1 hf'), h.phi⟩

section
variable {P : Program} {tab : Tab} {et : EqTab} {Γ : Fun}
/-- WHAT A STATE TELLS ANOTHER ONE -/
structure SubP (ts : Ts) (os : Os) (ts2 : Ts) (os2 : Os) (rl : List (Nat × Nat)) : Prop where
  t : subT (rn rl) ts ts2
  o : subO (rn rl) os os2
  inj : injB (rn rl) os2 = true
  top : rnOk rl = true
theorem subT_spec {ts : Ts} {ρ : Nat → Nat} : ∀ {ts2 : Ts}, subT ρ ts ts2 → ∀ t x, lk ts2 t = some x → subT1 (lk ts t) (x.ren ρ)
  | (k, y) :: r, h, t, x, hl => by
    rw [lk_cons] at hl
    split at hl
    · rename_i e
      subst e
      cases hl
      exact h.1
    · exact subT_spec h.2 t x hl
theorem TsOk.unren {c : Ctx} {w : World} {ts ts2 : Ts} {a : Act} {ρ : Nat → Nat} (h : TsOk c w ts a) (hn : ∀ t x, lk ts2 t = some x → t < a.tmps.size) (hs : subT ρ ts ts2) : TsOk (c.com ρ) w ts2 a := by
  intro t x hl
  have h1 := subT_spec hs t x hl
  have hlt := hn t x hl
  cases hk : lk ts t with
  | some b =>
    rw [hk] at h1
    obtain ⟨v, h2, h3⟩ := h t b hk
    exact ⟨v, h2, Rd.unren x (leA_rd h1 h3)⟩
  | none =>
    rw [hk] at h1
    refine ⟨a.tmps[t], by simp [hlt], Rd.unren x ?_⟩
    have h1' : x.ren ρ = .any := h1
    rw [h1']
    exact Rd.any_ _
theorem SubP.rel {ts : Ts} {os : Os} {ts2 : Ts} {os2 : Os} {rl : List (Nat × Nat)} (h : SubP ts os ts2 os2 rl) (hn : (ts2.all fun p => Nat.blt p.1 Γ.n) = true) {a : Act} {w : World} (hr : RelG Γ ts os a w) : RelG Γ ts2 os2 a w := by
  obtain ⟨c, ⟨h1, h2, h3, h4, h5⟩, h6⟩ := hr
  have hso := subO_spec h.o
  refine ⟨c.com (rn rl), ⟨h1, h2, h3.unren (fun t x hl => by rw [h2]; exact Nat.le_of_ble_eq_true (List.all_eq_true.1 hn _ (lk_mem hl))) h.t, h4.unren h.o h.inj, ⟨h5.wos, h5.tape, h5.output, h5.size, h5.phi, h5.phiNew, h5.keep, fun id o b hl hf => h5.feet _ _ b (hso id o hl) (foot_ren.1 hf)⟩⟩, fun id hid => ?_⟩
  have := h6 id hid
  rw [← rn_top h.top hid] at this
  simpa [Ctx.com, rn_top h.top hid] using this

/-- before going on: tell less, by other names -/
theorem COk.sub {c : Code} {ts ts2 : Ts} {os os2 : Os} {Q : Qt} (rl : List (Nat × Nat)) (h : SubP ts os ts2 os2 rl) (hn : (ts2.all fun p => Nat.blt p.1 Γ.n) = true) (hc : COk P Γ c ts2 os2 Q) : COk P Γ c ts os Q :=
  ⟨fun a w hr => hc.run a w (h.rel hn hr)⟩

theorem exists_least {p : Nat → Prop} (h : ∃ n, p n) : ∃ n, p n ∧ ∀ m, p m → n ≤ m := by
  obtain ⟨n, hn⟩ := h
  induction n using Nat.strongRecOn with
  | _ n ih =>
    by_cases hx : ∃ m, m < n ∧ p m
    · obtain ⟨m, h1, h2⟩ := hx
      exact ih m h1 h2
    · exact ⟨n, hn, fun m hm => by
        rcases Nat.lt_or_ge m n with h | h
        · exact absurd ⟨m, h, hm⟩ hx
        · exact h⟩
/-- A LOOP: a state for each stage; each round comes to a lesser stage's. -/
theorem COk.loop {ι : Type} (St : ι → Ts) (So : ι → Os) (m : ι → Nat) {c : Code} {ts : Ts} {os : Os} {Q : Qt} (i0 : ι) (rl0 : List (Nat × Nat)) (h0 : SubP ts os (St i0) (So i0) rl0) (hn : ∀ i, ((St i).all fun p => Nat.blt p.1 Γ.n) = true)
    (hr : ∀ i, COk P Γ c (St i) (So i) fun e ts' os' => match e with
      | .normal => ∃ j rl, m j < m i ∧ SubP ts' os' (St j) (So j) rl
      | .exit id => Q (.exit id) ts' os'
      | .ret => Q .ret ts' os') : COk P Γ (.loop c) ts os Q := by
  refine ⟨fun a w hrel => ?_⟩
  let I : Act → World → Prop := fun a w => ∃ i, RelG Γ (St i) (So i) a w
  have hI0 : I a w := ⟨i0, h0.rel (hn i0) hrel⟩
  have hex : ∀ a w, ∃ n, I a w → (∃ i, m i = n ∧ RelG Γ (St i) (So i) a w) ∧ ∀ i, RelG Γ (St i) (So i) a w → n ≤ m i := by
    intro a w
    by_cases hI : I a w
    · obtain ⟨i, hi⟩ := hI
      obtain ⟨n, ⟨j, h1, h2⟩, h3⟩ := exists_least (p := fun n => ∃ i, m i = n ∧ RelG Γ (St i) (So i) a w) ⟨m i, i, rfl, hi⟩
      exact ⟨n, fun _ => ⟨⟨j, h1, h2⟩, fun k hk => h3 (m k) ⟨k, rfl, hk⟩⟩⟩
    · exact ⟨0, fun h => absurd h hI⟩
  refine wp_loop I (fun a w => Classical.choose (hex a w)) hI0 fun a w hI => ?_
  obtain ⟨⟨i, h1, h2⟩, _⟩ := Classical.choose_spec (hex a w) hI
  refine wp_mono ((hr i).run a w h2) fun e a' w' ⟨ex, ts', os', hm, hq, hrel'⟩ => ?_
  match e, ex, hm, hq with
  | .normal, .normal, _, hq =>
    obtain ⟨j, rl, hlt, hsub⟩ := hq
    have hj := hsub.rel (hn j) hrel'
    refine ⟨⟨j, hj⟩, ?_⟩
    have := (Classical.choose_spec (hex a' w') ⟨j, hj⟩).2 j hj
    omega
  | .exit x, .exit y, hm, hq => exact ⟨.exit y, ts', os', hm, hq, hrel'⟩
  | .ret, .ret, _, hq => exact ⟨.ret, ts', os', trivial, hq, hrel'⟩

/-- what is known of a reading's size -/
theorem COk.rng {c : Code} {ts : Ts} {os : Os} {Q : Qt} (t : Nat) {a : AV} (hl : lk ts t = some a) (h : rng [a] → COk P Γ c ts os Q) : COk P Γ c ts os Q := by
  refine ⟨fun x w hr => ?_⟩
  have hr' := hr
  obtain ⟨cx, hrel, _⟩ := hr'
  obtain ⟨v, _, h2⟩ := hrel.ts t a hl
  refine (h ?_).run x w hr
  cases h2 with
  | fz h2 => exact (Rfs.cons h2 .nil).rng
  | _ => trivial
end
end Go.Proofs.Ytioalgofaiideaa
