/- THE WALK OVER READINGS: a region that draws its order: what must be shown, in the text's order alone. No program in sight. -/
import Derived.Test.YtioalgofaiideaaAh
namespace Go.Proofs.Ytioalgofaiideaa
open Go.RowKit
set_option linter.unusedVariables false

def dis (a b : List Nat) : Bool := a.all fun x => !(b.elem x)
theorem dis_spec {a b : List Nat} (h : dis a b = true) : ∀ x ∈ a, x ∉ b := fun x hx hb => by
  have := List.all_eq_true.1 h x hx
  simp at this
  exact this hb
structure LogR where
  k : Nat
  need : List Nat
  writes : List Nat
  news : List Nat
def commB (ops : List Oper) (o : Oper) (log : List LogR) (rd : List Nat) (up : Os) (av : AV) : Bool :=
  log.all fun r => (dis r.writes rd && dis r.writes (keys up) && dis (keys up) r.need && dis r.news (av.ids ++ up.flatMap fun p => p.2.ids)) || waits2 ops o r.k
def logC (k : Nat) (rd nw : List Nat) (up : Os) (log : List LogR) : List LogR :=
  match rd, up with
  | [], [] => log
  | _, _ => ⟨k, rd, keys up, nw⟩ :: log
/-- A DRAWN REGION's OPERATIONS, in the text's order; each one must go beside those ahead that it doesn't wait for -/
def vcD (P : Program) (tab : Tab) (et : EqTab) (n : Nat) (ops : List Oper) : Nat → List Oper → Ts → Os → List LogR → (Ts → Os → Prop) → Prop
  | _, [], ts, os, _, K => K ts os
  | k, o :: rest, ts, os, log, K => match o.dst with
    | some d => match Nat.blt d n with
      | true => guardK ops o ts
        (stepOp P tab et d o.op (evO ts) os fun av rd nw up => match freshTs nw ts && freshOs nw up os && commB ops o log rd up av with
          | true => force av fun av => appK up os fun os => vcD P tab et n ops (k + 1) rest ((d, av) :: ts) os (logC k rd nw up log) K
          | false => False)
        (vcD P tab et n ops (k + 1) rest ((d, .tup []) :: ts) os log K)
      | false => False
    | none => guardK ops o ts
      (stepOp P tab et 0 o.op (evO ts) os fun av rd nw up => match freshTs nw ts && freshOs nw up os && commB ops o log rd up av with
        | true => appK up os fun os => vcD P tab et n ops (k + 1) rest ts os (logC k rd nw up log) K
        | false => False)
      (vcD P tab et n ops (k + 1) rest ts os log K)

section
variable {P : Program} {tab : Tab} {et : EqTab} {Γ : Fun} {ops : List Oper} {ts0 : Ts} {os0 : Os}
theorem guardK_is {o : Oper} {ts : Ts} {X Y : Prop} (h : guardK ops o ts X Y) : (GuardIs ops o ts true ∧ X) ∨ (GuardIs ops o ts false ∧ Y) := by
  unfold guardK at h
  unfold GuardIs
  cases hg : o.guard with
  | none => rw [hg] at h; exact .inl ⟨rfl, h⟩
  | some p =>
    obtain ⟨j, want⟩ := p
    rw [hg] at h
    cases want with
    | true =>
      simp only at h ⊢
      split at h
      · rename_i hu
        exact .inr ⟨.inl (by simp [hu]), h⟩
      split at h
      · rename_i b hb
        cases b
        · exact .inr ⟨.inr ⟨false, hb, rfl⟩, h⟩
        · exact .inl ⟨.inr ⟨true, hb, rfl⟩, h⟩
      · exact h.elim
    | false =>
      simp only at h ⊢
      split at h
      · rename_i hu
        exact .inr ⟨.inl (by simp [hu]), h⟩
      split at h
      · rename_i b hb
        cases b
        · exact .inl ⟨.inr ⟨false, hb, rfl⟩, h⟩
        · exact .inr ⟨.inr ⟨true, hb, rfl⟩, h⟩
      · exact h.elim
def setR (R : Nat → OpR) (k : Nat) (r : OpR) : Nat → OpR := fun i => if i = k then r else R i
theorem tsH_set (R : Nat → OpR) (k : Nat) (r : OpR) : ∀ n, n ≤ k → tsH ops (setR R k r) ts0 (down n) = tsH ops R ts0 (down n)
  | 0, _ => rfl
  | n + 1, h => by
    have e : setR R k r n = R n := by unfold setR; rw [if_neg (by omega)]
    simp only [down, tsH, tsH_set R k r n (by omega), e]
theorem osH_set (R : Nat → OpR) (k : Nat) (r : OpR) : ∀ n, n ≤ k → osH (setR R k r) os0 (down n) = osH R os0 (down n)
  | 0, _ => rfl
  | n + 1, h => by
    have e : setR R k r n = R n := by unfold setR; rw [if_neg (by omega)]
    simp only [down, osH, osH_set R k r n (by omega), e]
/-- what the log holds -/
def LogOk (R : Nat → OpR) (k : Nat) (log : List LogR) : Prop := ∀ i, i < k → ((R i).need = [] ∧ (R i).upd = [] ∧ (R i).news = []) ∨ ∃ r ∈ log, r.k = i ∧ r.need = keys (R i).need ∧ r.writes = keys (R i).upd ∧ r.news = (R i).news
theorem Comm.trivial_left {a b : OpR} (h : a.need = [] ∧ a.upd = [] ∧ a.news = []) : Comm a b := by
  obtain ⟨h1, h2, h3⟩ := h
  refine ⟨fun id hi => ?_, fun id hi => ?_, fun id _ hi => ?_, fun id hi => ?_⟩
  · rw [h2] at hi; cases hi
  · rw [h2] at hi; cases hi
  · rw [h1] at hi; cases hi
  · rw [h3] at hi; cases hi
theorem Lex.step {R : Nat → OpR} {k : Nat} {o : Oper} {r : OpR} (hL : Lex P Γ ops R ts0 os0 k) (ho : ops[k]? = some o)
    (hd : DidOk P Γ ops o (tsH ops R ts0 (down k)) (osH R os0 (down k)) r ∨ SkipOk ops o (tsH ops R ts0 (down k)) r) (hdst : dstOk Γ.n o.dst = true) (hc : ∀ i, i < k → waits2 ops o i = false → Comm (R i) r) : Lex P Γ ops (setR R k r) ts0 os0 (k + 1) := by
  have eo : ∀ i, i ≠ k → setR R k r i = R i := fun i h => by unfold setR; rw [if_neg h]
  have ek : setR R k r k = r := by unfold setR; rw [if_pos rfl]
  refine ⟨fun j x hj hx => ?_, fun j x hj hx => ?_, fun i j x hij hj hx hw => ?_⟩
  · rw [tsH_set R k r j (by omega), osH_set R k r j (by omega)]
    by_cases h : j = k
    · subst h
      rw [ho] at hx
      cases hx
      rw [ek]
      exact hd
    · rw [eo j h]
      exact hL.did j x (by omega) hx
  · by_cases h : j = k
    · subst h
      rw [ho] at hx
      cases hx
      exact hdst
    · exact hL.dst j x (by omega) hx
  · rw [eo i (by omega)]
    by_cases h : j = k
    · subst h
      rw [ho] at hx
      cases hx
      rw [ek]
      exact hc i hij hw
    · rw [eo j h]
      exact hL.comm i j x hij (by omega) hx hw
theorem keys_nil {os : Os} (h : os.map (·.1) = []) : os = [] := by simpa using h
theorem commB_spec {R : Nat → OpR} {k : Nat} {log : List LogR} {o : Oper} {r : OpR} (hlog : LogOk R k log) (hc : commB ops o log (r.need.map (·.1)) r.upd r.av = true) : ∀ i, i < k → waits2 ops o i = false → Comm (R i) r := by
  intro i hi hw
  rcases hlog i hi with h | ⟨x, hx, rfl, h2, h3, h4⟩
  · exact .trivial_left h
  · have := List.all_eq_true.1 hc x hx
    rw [hw, Bool.or_false] at this
    simp only [Bool.and_eq_true] at this
    obtain ⟨⟨⟨c1, c2⟩, c3⟩, c4⟩ := this
    rw [h3] at c1 c2
    rw [h2] at c3
    rw [h4] at c4
    exact ⟨dis_spec c1, dis_spec c2, dis_spec c3, dis_spec c4⟩
theorem logC_spec {R : Nat → OpR} {k : Nat} {log : List LogR} {r : OpR} (hlog : LogOk R k log) (hn : ∀ id ∈ r.news, (lk r.upd id).isSome = true) : LogOk (setR R k r) (k + 1) (logC k (r.need.map (·.1)) r.news r.upd log) := by
  intro i hi
  have eo : ∀ i, i ≠ k → setR R k r i = R i := fun i h => by unfold setR; rw [if_neg h]
  have ek : setR R k r k = r := by unfold setR; rw [if_pos rfl]
  have grow : ∀ x ∈ log, x ∈ logC k (r.need.map (·.1)) r.news r.upd log := fun x hx => by
    unfold logC
    split
    · exact hx
    · exact List.mem_cons_of_mem _ hx
  by_cases h : i = k
  · subst h
    rw [ek]
    unfold logC
    split
    · rename_i h1 h2
      have hn0 : r.news = [] := List.eq_nil_iff_forall_not_mem.2 fun id hid => by
        have := hn id hid
        rw [h2] at this
        cases this
      exact .inl ⟨keys_nil h1, h2, hn0⟩
    · exact .inr ⟨_, List.mem_cons_self, rfl, rfl, rfl, rfl⟩
  · rw [eo i h]
    exact (hlog i (by omega)).imp (fun h => h) fun ⟨x, hx, e⟩ => ⟨x, grow x hx, e⟩
theorem vcD_lex (hT : TabOk P tab) (hE : EqTabOk P et) : ∀ (l : List Oper) (k : Nat) (R : Nat → OpR) (log : List LogR) (K : Ts → Os → Prop), vcD P tab et Γ.n ops k l (tsH ops R ts0 (down k)) (osH R os0 (down k)) log K → Lex P Γ ops R ts0 os0 k → LogOk R k log → (∀ j, l[j]? = ops[k + j]?) → k + l.length = ops.length →
    (∃ a w, RelG Γ (tsH ops R ts0 (down k)) (osH R os0 (down k)) a w) → ∃ R', Lex P Γ ops R' ts0 os0 ops.length ∧ K (tsH ops R' ts0 (down ops.length)) (osH R' os0 (down ops.length))
  | [], k, R, log, K, h, hL, hlog, hl, hlen, hi => by
    simp at hlen
    subst hlen
    exact ⟨R, hL, h⟩
  | o :: l, k, R, log, K, h, hL, hlog, hl, hlen, hi => by
    have ho : ops[k]? = some o := by simpa using (hl 0).symm
    have hl' : ∀ j, l[j]? = ops[k + 1 + j]? := fun j => by
      have := hl (j + 1)
      simpa [Nat.add_assoc, Nat.add_comm 1 j] using this
    have hlen' : k + 1 + l.length = ops.length := by simp at hlen; omega
    obtain ⟨a, w, hrel⟩ := hi
    -- the two ways on
    have did : ∀ (d : Nat) (dst : dstOk Γ.n o.dst = true) (K0 : Kt), GuardIs ops o (tsH ops R ts0 (down k)) true → stepOp P tab et d o.op (evO (tsH ops R ts0 (down k))) (osH R os0 (down k)) K0 →
        (∀ av rd nw up, K0 av rd nw up → freshTs nw (tsH ops R ts0 (down k)) = true ∧ freshOs nw up (osH R os0 (down k)) = true ∧ commB ops o log rd up av = true ∧ vcD P tab et Γ.n ops (k + 1) l (putT o.dst av (tsH ops R ts0 (down k))) (up ++ osH R os0 (down k)) (logC k rd nw up log) K) →
        ∃ R', Lex P Γ ops R' ts0 os0 ops.length ∧ K (tsH ops R' ts0 (down ops.length)) (osH R' os0 (down ops.length)) := by
      intro d dst K0 hg hst hK0
      obtain ⟨c, hrc⟩ := hrel
      have hev : ∀ x ∈ o.op.operands.toList, Rd c w (a.eval x) (evO (tsH ops R ts0 (down k)) x) := fun x _ => evO_rd hrc.rel.ts x
      obtain ⟨av, need, upd, news, htri, hneed, hnews, hKK⟩ := step_ok hT hE d hst ⟨c, w, a.eval, hrc.rel.hok, hev⟩
      obtain ⟨f1, f2, f3, hnext⟩ := hK0 _ _ _ _ hKK
      let r : OpR := ⟨av, need, upd, news⟩
      have hL' := hL.step (r := r) ho (.inl ⟨hg, htri, hneed, hnews, f1, f2⟩) dst (commB_spec (r := r) hlog f3)
      have hlog' := logC_spec (r := r) (R := R) hlog hnews
      have ek : setR R k r k = r := by unfold setR; rw [if_pos rfl]
      have ets : tsH ops (setR R k r) ts0 (down (k + 1)) = putT o.dst av (tsH ops R ts0 (down k)) := by
        simp only [down, tsH, tsH_set R k r k (Nat.le_refl _), ho, ek]
        cases hdd : o.dst <;> simp [putT, hdd, r]
      have eos : osH (setR R k r) os0 (down (k + 1)) = upd ++ osH R os0 (down k) := by
        simp only [down, osH, osH_set R k r k (Nat.le_refl _), ek]
        rfl
      -- an instance
      have hgo := htri c w a.eval (hrc.rel.hok.sub hneed) hev
      obtain ⟨v, w', c', hp, hv⟩ := hgo.inst
      obtain ⟨g1, g2⟩ := freshOs_spec f2
      have hrel' : RelG Γ (putT o.dst av (tsH ops R ts0 (down k))) (upd ++ osH R os0 (down k)) (a.put o.dst v) w' := by
        refine ⟨c', ⟨by rw [put_defers]; exact hrc.rel.defers, by rw [put_size]; exact hrc.rel.n, hrc.rel.ts.put (hrc.rel.hok.sub hneed) hp (freshTs_spec f1) hv (by rw [hrc.rel.n]; exact dst), hrc.rel.hok.frame hneed hp hnews g1, hrc.rel.inv.post hrc.rel.hok hneed hp hnews⟩, fun id hid => ?_⟩
        have hno : id ∉ news := fun hm => by have := g2 id hm; omega
        have h1 := hp.ctx id hno
        have h2 := hrc.same id hid
        exact ⟨h1.1.trans h2.1, h1.2.trans h2.2⟩
      exact vcD_lex hT hE l (k + 1) (setR R k r) _ K (by rw [ets, eos]; exact hnext) hL' hlog' hl' hlen' ⟨_, _, by rw [ets, eos]; exact hrel'⟩
    have skip : dstOk Γ.n o.dst = true → GuardIs ops o (tsH ops R ts0 (down k)) false → vcD P tab et Γ.n ops (k + 1) l (putT o.dst (.tup []) (tsH ops R ts0 (down k))) (osH R os0 (down k)) log K →
        ∃ R', Lex P Γ ops R' ts0 os0 ops.length ∧ K (tsH ops R' ts0 (down ops.length)) (osH R' os0 (down ops.length)) := by
      intro dst hg hnext
      let r : OpR := ⟨.tup [], [], [], []⟩
      have hL' := hL.step (r := r) ho (.inr ⟨hg, rfl⟩) dst (fun i hi hw => ⟨fun id _ h => (by cases h), fun id _ h => (by cases h), fun id h => (by cases h), fun id _ h => (by cases h)⟩)
      have hlog' : LogOk (setR R k r) (k + 1) log := fun i hi => by
        by_cases h : i = k
        · subst h
          have ek : setR R i r i = r := by unfold setR; rw [if_pos rfl]
          rw [ek]
          exact .inl ⟨rfl, rfl, rfl⟩
        · have eo : setR R k r i = R i := by unfold setR; rw [if_neg h]
          rw [eo]
          exact hlog i (by omega)
      have ek : setR R k r k = r := by unfold setR; rw [if_pos rfl]
      have ets : tsH ops (setR R k r) ts0 (down (k + 1)) = putT o.dst (.tup []) (tsH ops R ts0 (down k)) := by
        simp only [down, tsH, tsH_set R k r k (Nat.le_refl _), ho, ek]
        cases hdd : o.dst <;> simp [putT, hdd, r]
      have eos : osH (setR R k r) os0 (down (k + 1)) = osH R os0 (down k) := by
        simp only [down, osH, osH_set R k r k (Nat.le_refl _), ek]
        rfl
      exact vcD_lex hT hE l (k + 1) (setR R k r) log K (by rw [ets, eos]; exact hnext) hL' hlog' hl' hlen' ⟨_, _, by rw [ets, eos]; exact skip_rel (o := o) hrel dst⟩
    unfold vcD at h
    split at h
    · rename_i d hd
      split at h
      · rename_i hdl
        have hdst : dstOk Γ.n o.dst = true := by rw [hd]; exact hdl
        rcases guardK_is h with ⟨hg, h⟩ | ⟨hg, h⟩
        · refine did d hdst _ hg h fun av rd nw up hk => ?_
          split at hk
          · rename_i hb
            simp only [Bool.and_eq_true] at hb
            rw [force_eq, appK_eq] at hk
            exact ⟨hb.1.1, hb.1.2, hb.2, by rw [hd]; exact hk⟩
          · exact hk.elim
        · exact skip hdst hg (by rw [hd]; exact h)
      · exact h.elim
    · rename_i hd
      have hdst : dstOk Γ.n o.dst = true := by rw [hd]; rfl
      rcases guardK_is h with ⟨hg, h⟩ | ⟨hg, h⟩
      · refine did 0 hdst _ hg h fun av rd nw up hk => ?_
        split at hk
        · rename_i hb
          simp only [Bool.and_eq_true] at hb
          rw [appK_eq] at hk
          exact ⟨hb.1.1, hb.1.2, hb.2, by rw [hd]; exact hk⟩
        · exact hk.elim
      · exact skip hdst hg (by rw [hd]; exact h)
theorem RelG.drew {ts : Ts} {os : Os} {a : Act} {w : World} (h : RelG Γ ts os a w) : RelG Γ ts os a { w with drawn := w.drawn + 1 } := by
  obtain ⟨c, ⟨h1, h2, h3, h4, h5⟩, h6⟩ := h
  refine ⟨c, ⟨h1, h2, fun t x hl => ?_, ⟨fun id o hl => ?_, h4.lt, h4.sep, h4.phi⟩, ⟨h5.wos, h5.tape, h5.output, h5.size, h5.phi, h5.phiNew, h5.keep, h5.feet⟩⟩, h6⟩
  · obtain ⟨v, q1, q2⟩ := h3 t x hl
    exact ⟨v, q1, Rd.mono (c := c) (c' := c) (w := w) (w' := { w with drawn := w.drawn + 1 }) (fun _ _ => rfl) (fun _ h => h) (fun _ _ => ⟨rfl, rfl⟩) q2⟩
  · exact (h4.rep id o hl).keep (c' := c) ⟨rfl, rfl⟩ (fun _ _ => rfl) (fun _ h => h) (fun _ _ => rfl) fun _ _ => ⟨rfl, rfl⟩
/-- A REGION THAT DRAWS ITS ORDER -/
theorem COk.draw (hT : TabOk P tab) (hE : EqTabOk P et) {n : Nat} (hn : Γ.n = n) (hm : P.follows .mixedOrders = true) {id : Nat} {l : Array Oper} (hd : drawOk l.toList = true) {ts : Ts} {os : Os} {Q : Qt} (h : forceT ts fun ts => vcD P tab et n l.toList 0 l.toList ts os [] (Q .normal)) : COk P Γ (.region id l true) ts os Q := by
  subst hn
  rw [forceT_eq] at h
  refine ⟨fun a w hr => wp_region_any hm ?_⟩
  have hr' := hr.drew
  obtain ⟨R, hL, hK⟩ := vcD_lex (ops := l.toList) (ts0 := ts) (os0 := os) hT hE l.toList 0 (fun _ => default) [] _ h ⟨fun k o hk => absurd hk (by omega), fun k o hk => absurd hk (by omega), fun i k o _ hk => absurd hk (by omega)⟩ (fun i hi => absurd hi (by omega)) (fun j => by rw [Nat.zero_add]) (by omega) ⟨_, _, hr'⟩
  have := exec_all (Q := fun e a' w' => ∃ ex ts' os', exM e ex ∧ Q ex ts' os' ∧ RelG Γ ts' os' a' w') hd hL (fun a' w' hr2 => ⟨.normal, _, _, trivial, hK, hr2⟩) l.toList.length (Array.replicate l.size false) [] a _ (hist_down hd 0 (Nat.zero_le _)) (fun i hi => by
    have : i < l.size := by simpa using hi
    simp [this]) (by simp) (by simp) hr'
  simpa using this
end
end Go.Proofs.Ytioalgofaiideaa
