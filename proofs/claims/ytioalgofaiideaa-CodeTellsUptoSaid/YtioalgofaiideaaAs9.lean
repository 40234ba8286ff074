/- THE WALK OVER READINGS: headers that lie in a row of one's own. No program in sight. -/
import Derived.Test.YtioalgofaiideaaAs8
namespace Go.Proofs.Ytioalgofaiideaa
open Go.RowKit
set_option linter.unusedVariables false

/-- a row whose header is known -/
def findE (all : Os) : Os → Option (Nat × Nat × Value × Obj)
  | [] => none
  | (k, .eqv j v) :: r => match lk all k, lk all j with
    | some (.eqv j2 v2), some (.row sz ls e) => match Nat.beq j j2 with
      | true => some (k, j, v2, .row sz ls e)
      | false => findE all r
    | _, _ => findE all r
  | _ :: r => findE all r
theorem findE_spec {all : Os} : ∀ {l : Os} {k j : Nat} {v : Value} {o : Obj}, findE all l = some (k, j, v, o) → lk all k = some (.eqv j v) ∧ lk all j = some o ∧ ∃ sz ls e, o = .row sz ls e := by
  intro l
  fun_induction findE all l with
  | case1 => intro k j v o h; cases h
  | case2 k j v r j2 v2 sz ls e h1 h2 hb =>
    intro k' j' v' o h
    cases h
    obtain rfl := Nat.eq_of_beq_eq_true hb
    exact ⟨h2, h1, _, _, _, rfl⟩
  | case3 k j v r j2 v2 sz ls e h1 h2 hb ih => exact ih
  | case4 k j v r hn ih => exact ih
  | case5 p r hn ih => exact ih
/-- what was loaded is the header of a row that is known: it reads as that row -/
def resK (os : Os) (K : Kt) : Kt := fun av rd nw up =>
  match av with
  | .con v => match findE os os with
    | some (k, j, v', _) => match nw, up with
      | [], [] => v = v' ∧ K (.own j) (rd ++ [k, j]) [] []
      | _, _ => False
    | none => K (.con v) rd nw up
  | a => K a rd nw up
section
variable {P : Program} {tab : Tab} {et : EqTab} {o : Oper} {ev : Ev} {os : Os} {K : Kt}
theorem Goes.mono {r : Result Next} {R S : Value → World → Prop} (h : Goes P r R) (hRS : ∀ v w, R v w → S v w) : Goes P r S := by
  unfold Goes at h ⊢
  split at h
  · exact hRS _ _ h
  · exact hRS _ _ h
  · exact h.mono fun e w' ⟨v, h1, h2⟩ => ⟨v, h1, hRS _ _ h2⟩
  · exact h
theorem Ans.res (h : Ans P o ev os (resK os K)) : Ans P o ev os K := by
  intro hi
  obtain ⟨av, need, upd, news, htri, hneed, hnews, hK⟩ := h hi
  unfold resK at hK
  split at hK
  · rename_i v
    split at hK
    · rename_i k j v' x hf
      split at hK
      case h_2 => exact hK.elim
      obtain ⟨rfl, hK⟩ := hK
      obtain ⟨f1, f2, sz, ls, e, rfl⟩ := findE_spec hf
      have hsub2 : ∀ id ob, lk [(k, Obj.eqv j v), (j, .row sz ls e)] id = some ob → lk os id = some ob := fun id ob hl => by
        rw [lk_cons] at hl
        split at hl
        · rename_i e1; cases hl; rw [← e1]; exact f1
        · exact lk_one hl f2
      obtain ⟨s1, s2, s3⟩ := lk_app_sub hneed hsub2
      have hl1 : lk (need ++ [(k, Obj.eqv j v), (j, .row sz ls e)]) k = some (.eqv j v) := by
        rw [lk_append]
        cases hq : lk need k with
        | none => rw [lk_self]; rfl
        | some y => have := (hneed k y hq).symm.trans f1; simpa using this
      have hl2 : lk (need ++ [(k, Obj.eqv j v), (j, .row sz ls e)]) j = some (.row sz ls e) := by
        rw [lk_append]
        cases hq : lk need j with
        | none =>
          rw [Option.none_or, lk_cons]
          split
          · rename_i e1
            subst e1
            rw [f1] at f2
            cases f2
          · exact lk_self _ _ _
        | some y => have := (hneed j y hq).symm.trans f2; simpa using this
      refine ⟨.own j, need ++ [(k, .eqv j v), (j, .row sz ls e)], [], [], fun c w ρ hok hr => ?_, s1, hnews, by simpa using hK⟩
      have hgo := htri c w ρ (hok.sub s3) hr
      refine Goes.mono hgo fun u w' ⟨c', hp, hv⟩ => ⟨c', hp.widen s3, ?_⟩
      have e1 : c.hd j = v := hok.rep k _ hl1
      obtain ⟨css, q1, q2, q3⟩ := hok.rep j _ hl2
      obtain ⟨A, cap, g1, g2, g3⟩ := q1.head
      rw [hv.con_, ← e1, g1]
      exact .own (((hp.ctx j (by simp)).2).trans g1) g2 g3
    · exact ⟨_, need, _, _, htri, hneed, hnews, hK⟩
  · exact ⟨_, need, _, _, htri, hneed, hnews, hK⟩
def stStore2 (tab : Tab) (os : Os) (t : TypeId) (x y : AV) (K : Kt) : Prop :=
  match x, y with
  | .ep id i sz off, .own z => match lk os id, lk tab t with
    | some (.row sz' ls e), some ti => match Nat.beq sz sz', Nat.beq 1 ti.size with
      | true, true => i < ls.length ∧ (∀ cs, ls[i]? = some cs → off < cs.length) ∧ K .any [id] [] [(id, .rowx sz' ls e i off z)]
      | _, _ => False
    | _, _ => False
  | _, _ => stStore tab os t x y K
theorem setN_one {β : Type} {off : Nat} {a : β} {cs : List β} (h : off < cs.length) : setN off [a] cs = some (cs.set off a) := by
  obtain ⟨r, hr⟩ := setN_ex off [a] cs (by simp; omega)
  rw [hr]
  congr 1
  apply List.ext_getElem?
  intro j
  rw [setN_at hr j, List.getElem?_set]
  by_cases e : off = j
  · subst e
    rw [if_pos (by simp), if_pos rfl, if_pos h]
    simp
  · rw [if_neg (by simp; omega), if_neg e]
theorem st_store2 (hT : TabOk P tab) {t : TypeId} {x y : Operand} (ho : o.op = .store t x y) (h : stStore2 tab os t (ev x) (ev y) K) : Ans P o ev os K := by
  unfold stStore2 at h
  split at h
  · rename_i id i sz off z hx hy
    split at h
    · rename_i sz' ls e ti hid hti
      split at h
      · rename_i hb1 hb2
        obtain rfl := Nat.eq_of_beq_eq_true hb1
        have hsz := Nat.eq_of_beq_eq_true hb2
        obtain ⟨h1, h2, h3⟩ := h
        have hcs : ls[i]? = some ls[i] := List.getElem?_eq_getElem h1
        refine fun _ => ⟨.any, [(id, .row sz ls e)], [(id, .rowx sz ls e i off z)], [], fun c w ρ hok hr => ?_, fun k ob hl => lk_one hl hid, fun _ h => (by cases h), h3⟩
        have ry := hr y (by simp [ho, Op.operands])
        rw [hy] at ry
        obtain ⟨A, n, cap, e1, e2, e3, e4⟩ := ry.own_
        have hne : x ≠ y := fun e5 => by rw [e5, hy] at hx; cases hx
        -- the same store, of a value that is known
        have hst : stStore tab [(id, .row sz ls e)] t (.ep id i sz off) (.con (.slice A n cap)) fun av rd nw up => av = .any ∧ rd = [id] ∧ nw = [] ∧ up = [(id, .row sz (patch ls i off (.con (.slice A n cap))) e)] := by
          unfold stStore
          simp only [hti]
          have hc : (AV.con (.slice A n cap)).cells? = some [.con (.slice A n cap)] := rfl
          simp only [hc, List.length_singleton, hb2, lk_self, AV.idss, AV.ids, List.append_nil, Nat.beq_refl]
          refine ⟨h1, fun cs hc => ?_⟩
          rw [hcs] at hc
          cases hc
          rw [setN_one (h2 _ hcs)]
          refine ⟨_, leLs_refl _, ?_⟩
          exact ⟨trivial, trivial, trivial, by unfold patch; rw [hcs]⟩
        classical
        let ev' : Ev := fun u => if u = y then .con (.slice A n cap) else ev u
        have evx : ev' x = .ep id i sz off := by show (if x = y then _ else _) = _; rw [if_neg hne, hx]
        have evy : ev' y = .con (.slice A n cap) := if_pos rfl
        have hr' : ∀ u ∈ o.op.operands.toList, Rd c w (ρ u) (ev' u) := fun u hu => by
          show Rd c w (ρ u) (if u = y then _ else _)
          split
          · rename_i e5; rw [e5, e1]; exact .fz (.con _)
          · exact hr u hu
        obtain ⟨av, need, upd, news, htri, hneed, _, rfl, hrd, rfl, rfl⟩ := st_store hT ho (ev := ev') (by rw [evx, evy]; exact hst) ⟨c, w, ρ, hok, hr'⟩
        have hnd : ∀ k ob, lk need k = some ob → lk [(id, Obj.row sz ls e)] k = some ob := hneed
        refine Goes.mono (htri c w ρ (hok.sub hnd) hr') fun v w' ⟨c', hp, _⟩ => ⟨c', ?_, Rd.any_ _⟩
        have hp := hp.widen hnd
        have hkeys : ∀ k, (lk [(id, Obj.rowx sz ls e i off z)] k).isSome = (lk [(id, Obj.row sz (patch ls i off (.con (.slice A n cap))) e)] k).isSome := fun k => by rw [lk_cons, lk_cons]; split <;> rfl
        have htch : ∀ b, Touch c [(id, .row sz ls e)] [(id, .row sz (patch ls i off (.con (.slice A n cap))) e)] b ↔ Touch c [(id, .row sz ls e)] [(id, .rowx sz ls e i off z)] b := fun b => by
          unfold Touch
          simp only [hkeys]
        have hup : ∀ k ob, lk [(id, Obj.rowx sz ls e i off z)] k = some ob → k = id ∧ ob = .rowx sz ls e i off z := fun k ob hl => by
          rw [lk_cons] at hl
          split at hl
          · rename_i e5; cases hl; exact ⟨e5.symm, rfl⟩
          · cases hl
        have hl0 := lk_self id (Obj.row sz (patch ls i off (.con (.slice A n cap))) e) []
        refine ⟨hp.wos, hp.tape, hp.output, hp.size, hp.phi, fun b hb => (hp.phiNew b hb).imp (fun h => h) (.imp (fun h => h) (htch b).1), fun b hb hn => hp.keep b hb fun h => hn ((htch b).1 h), hp.ctx, ⟨fun k ob hl => ?_, fun k ob b hl hf => ?_, fun k k' ob ob' b hd hl hl' => ?_, hp.hok.phi⟩, fun k ob b hl hf => ?_⟩
        · obtain ⟨rfl, rfl⟩ := hup k ob hl
          exact ⟨.slice A n cap, .own (((hp.ctx z (by simp)).2).trans e2) e3 e4, hp.hok.rep k _ hl0⟩
        · obtain ⟨rfl, rfl⟩ := hup k ob hl
          exact hp.hok.lt k _ b hl0 hf
        · obtain ⟨rfl, rfl⟩ := hup k ob hl
          obtain ⟨rfl, rfl⟩ := hup k' ob' hl'
          exact absurd rfl hd
        · obtain ⟨rfl, rfl⟩ := hup k ob hl
          exact (hp.feet k _ b hl0 hf).imp (fun h => h) (htch b).1
      · exact h.elim
    · exact h.elim
  · exact st_store hT ho h
end
end Go.Proofs.Ytioalgofaiideaa
