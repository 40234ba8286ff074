/- THE WALK OVER READINGS: a contract under other names. No program in sight. -/
import Derived.Test.YtioalgofaiideaaAj
namespace Go.Proofs.Ytioalgofaiideaa
open Go.RowKit
set_option linter.unusedVariables false

def sw (a b i : Nat) : Nat := bif Nat.beq i a then b else bif Nat.beq i b then a else i
theorem sw_eq (a b i : Nat) : sw a b i = if i = a then b else if i = b then a else i := by
  unfold sw
  by_cases h : i = a
  · subst h; simp
  · have e : Nat.beq i a = false := by cases q : Nat.beq i a; rfl; exact absurd (Nat.eq_of_beq_eq_true q) h
    rw [e, if_neg h]
    by_cases h2 : i = b
    · subst h2; simp
    · have e : Nat.beq i b = false := by cases q : Nat.beq i b; rfl; exact absurd (Nat.eq_of_beq_eq_true q) h2
      rw [e, if_neg h2]; rfl
theorem sw_sw (a b i : Nat) : sw a b (sw a b i) = i := by
  simp only [sw_eq]
  split <;> split <;> (try split) <;> omega
mutual
theorem AV.ren_ren {ρ : Nat → Nat} (h : ∀ i, ρ (ρ i) = i) : ∀ a : AV, (a.ren ρ).ren ρ = a
  | .ptr id off => by simp only [AV.ren, h]
  | .own id => by simp only [AV.ren, h]
  | .osl id n => by simp only [AV.ren, h]
  | .ep id i sz off => by simp only [AV.ren, h]
  | .mp id => by simp only [AV.ren, h]
  | .nst id => by simp only [AV.ren, h]
  | .fn f cs => by simp only [AV.ren, AV.rens_rens h cs]
  | .agg cs => by simp only [AV.ren, AV.rens_rens h cs]
  | .tup cs => by simp only [AV.ren, AV.rens_rens h cs]
  | .any => rfl
  | .int n => rfl
  | .ik k n => rfl
  | .bool b => rfl
  | .str s => rfl
  | .sl sz ls => rfl
  | .fp cs => rfl
  | .nilsl => rfl
  | .slb b => rfl
  | .nilp => rfl
  | .nilf => rfl
  | .con v => rfl
theorem AV.rens_rens {ρ : Nat → Nat} (h : ∀ i, ρ (ρ i) = i) : ∀ l : List AV, AV.rens ρ (AV.rens ρ l) = l
  | [] => rfl
  | a :: l => by simp only [AV.rens, AV.ren_ren h a, AV.rens_rens h l]
end
theorem Obj.ren_ren {ρ : Nat → Nat} (h : ∀ i, ρ (ρ i) = i) (o : Obj) : (o.ren ρ).ren ρ = o := by
  cases o <;> simp only [Obj.ren, AV.rens_rens h, h]
def renO (ρ : Nat → Nat) : Os → Os
  | [] => []
  | (k, o) :: r => (ρ k, o.ren ρ) :: renO ρ r
theorem lk_renO {ρ : Nat → Nat} (h : ∀ i, ρ (ρ i) = i) (id : Nat) : ∀ os : Os, lk (renO ρ os) id = (lk os (ρ id)).map (·.ren ρ)
  | [] => rfl
  | (k, o) :: r => by
    rw [renO, lk_cons, lk_cons]
    by_cases e : k = ρ id
    · rw [if_pos e, if_pos (by rw [e, h])]; rfl
    · rw [if_neg e, if_neg (fun q => e (by rw [← q, h])), lk_renO h id r]
theorem lk_renO' {ρ : Nat → Nat} (h : ∀ i, ρ (ρ i) = i) {id : Nat} {os : Os} {o : Obj} (hl : lk (renO ρ os) id = some o) : lk os (ρ id) = some (o.ren ρ) := by
  rw [lk_renO h, Option.map_eq_some_iff] at hl
  obtain ⟨x, h1, rfl⟩ := hl
  rw [h1, Obj.ren_ren h]
theorem HOk.other {c : Ctx} {w : World} {ρ : Nat → Nat} (h : ∀ i, ρ (ρ i) = i) {os os2 : Os} (hs : ∀ id o, lk os2 id = some o → lk os (ρ id) = some (o.ren ρ)) (hok : HOk c w os) : HOk (c.com ρ) w os2 := by
  refine ⟨fun id o hl => (hok.rep _ _ (hs id o hl)).unren, fun id o b hl hf => hok.lt _ _ b (hs id o hl) (foot_ren.1 hf), fun id id' o o' b hne hl hl' hf hf' => hok.sep (ρ id) (ρ id') _ _ b (fun e => hne ?_) (hs id o hl) (hs id' o' hl') (foot_ren.1 hf) (foot_ren.1 hf'), hok.phi⟩
  rw [← h id, e, h]
theorem touch_ren {c : Ctx} {ρ : Nat → Nat} (h : ∀ i, ρ (ρ i) = i) {need upd : Os} {b : Nat} (ht : Touch (c.com ρ) need upd b) : Touch c (renO ρ need) (renO ρ upd) b := by
  obtain ⟨id, o, h1, h2, h3⟩ := ht
  refine ⟨ρ id, o.ren ρ, by rw [lk_renO h, h, h1]; rfl, by rw [lk_renO h, h]; simpa using h2, foot_ren.1 h3⟩
theorem Spec.swap {P : Program} {f : Nat} {need upd : Os} {ins : List AV} {av : AV} {news : List Nat} (hS : Spec P f need ins av upd news) (ρ : Nat → Nat) (h : ∀ i, ρ (ρ i) = i) :
    Spec P f (renO ρ need) (AV.rens ρ ins) (av.ren ρ) (renO ρ upd) (news.map ρ) := by
  obtain ⟨h1, h2, h3⟩ := hS
  refine ⟨h1, fun id hid => ?_, fun c w args hok hr => ?_⟩
  · obtain ⟨i, hi, rfl⟩ := List.mem_map.1 hid
    rw [lk_renO h, h]
    simpa using h2 i hi
  have ok1 : HOk (c.com ρ) w need := hok.other h fun id o hl => by rw [lk_renO h, h, hl]; rfl
  have hcc : ∀ d : Ctx, (d.com ρ).com ρ = d := fun d => by
    cases d
    simp only [Ctx.com, h]
  refine (h3 (c.com ρ) w args ok1 (Rds.unren ins hr)).mono fun e w' ⟨v, c1, he, hp, hv⟩ => ⟨v, c1.com ρ, he, ?_, ?_⟩
  · have tr : ∀ b, Touch (c.com ρ) need upd b → Touch c (renO ρ need) (renO ρ upd) b := fun b => touch_ren h
    have tr2 : ∀ b, Touch c (renO ρ need) (renO ρ upd) b → Touch (c.com ρ) need upd b := fun b ⟨id, o, g1, g2, g3⟩ => by
      refine ⟨ρ id, o.ren ρ, lk_renO' h g1, ?_, ?_⟩
      · rw [lk_renO h] at g2; simpa using g2
      · have : foot ((c.com ρ).com ρ) id o b := by rw [hcc]; exact g3
        exact foot_ren.1 this
    refine ⟨hp.wos, hp.tape, hp.output, hp.size, hp.phi, fun b hb => (hp.phiNew b hb).imp (fun h => h) (.imp (fun h => h) (tr b)), fun b hb hn => hp.keep b hb fun ht => hn (tr b ht), fun id hid => ?_, hp.hok.other h fun id o hl => lk_renO' h hl, fun id o b hl hf => ?_⟩
    · have := hp.ctx (ρ id) fun hm => hid (List.mem_map.2 ⟨ρ id, hm, h id⟩)
      simpa only [Ctx.com, h] using this
    · exact (hp.feet (ρ id) _ b (lk_renO' h hl) (foot_ren.1 hf)).imp (fun h => h) (tr b)
  · exact Rd.unren (av.ren ρ) (by rw [AV.ren_ren h]; exact hv)
/-- two names changed for one another -/
theorem Spec.sw {P : Program} {f : Nat} {need upd : Os} {ins : List AV} {av : AV} {news : List Nat} (hS : Spec P f need ins av upd news) (a b : Nat) :
    Spec P f (renO (sw a b) need) (AV.rens (sw a b) ins) (av.ren (sw a b)) (renO (sw a b) upd) (news.map (sw a b)) := hS.swap _ (sw_sw a b)
end Go.Proofs.Ytioalgofaiideaa
