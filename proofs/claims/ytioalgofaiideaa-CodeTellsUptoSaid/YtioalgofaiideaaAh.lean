/- THE WALK OVER READINGS: a region that draws its order, the second half. No program in sight. -/
import Derived.Test.YtioalgofaiideaaAg
namespace Go.Proofs.Ytioalgofaiideaa
open Go.RowKit
set_option linter.unusedVariables false

section
variable {P : Program} {Γ : Fun} {ops : List Oper} {R : Nat → OpR} {ts0 : Ts} {os0 : Os}
theorem waits_iff {o : Oper} {i : Nat} : waits o i = true ↔ ∃ e ∈ o.after, Region.binds .any e = true ∧ e.on = i := by
  unfold waits
  rw [List.any_eq_true]
  constructor
  · rintro ⟨e, he, hb⟩
    simp only [Bool.and_eq_true] at hb
    exact ⟨e, by simpa using he, hb.1, Nat.eq_of_beq_eq_true hb.2⟩
  · rintro ⟨e, he, hb, rfl⟩
    exact ⟨e, by simpa using he, by simp [hb]⟩
theorem guardIs_same (hd : drawOk ops = true) {σ : List Nat} (hσ : Hist ops σ) {k : Nat} {o : Oper} (ho : ops[k]? = some o) (hk : k ∉ σ) (hw : ∀ i, waits o i = true → i ∈ σ) {b : Bool} (h : GuardIs ops o (tsH ops R ts0 (down k)) b) : GuardIs ops o (tsH ops R ts0 σ) b := by
  have hsame : ∀ t ∈ readsOf ops o, lk (tsH ops R ts0 σ) t = lk (tsH ops R ts0 (down k)) t := fun t ht => slot_same hd hσ ho hk hw ht
  unfold GuardIs at h ⊢
  split at h
  · exact h
  · rename_i j want hn
    rcases h with ⟨h1, h2⟩ | ⟨x, h1, h2⟩
    · refine .inl ⟨?_, h2⟩
      unfold guardU at h1 ⊢
      cases hj : ops[j]? with
      | none => rw [hj] at h1; cases h1
      | some y =>
        rw [hj] at h1
        simp only at h1 ⊢
        cases hdst : y.dst with
        | none => rw [hdst] at h1; cases h1
        | some d =>
          rw [hdst] at h1
          simp only at h1 ⊢
          rw [hsame d (by unfold readsOf; rw [hn]; simp [hj, hdst])]
          exact h1
    refine .inr ⟨x, ?_, h2⟩
    unfold guardB at h1 ⊢
    cases hj : ops[j]? with
    | none => rw [hj] at h1; cases h1
    | some y =>
      rw [hj] at h1
      simp only at h1 ⊢
      cases hdst : y.dst with
      | none => rw [hdst] at h1; cases h1
      | some d =>
        rw [hdst] at h1
        simp only at h1 ⊢
        rw [hsame d (by unfold readsOf; rw [hn]; simp [hj, hdst])]
        exact h1
/-- ONE OPERATION, WHENEVER ITS TURN COMES -/
theorem exec_one (hd : drawOk ops = true) (hL : Lex P Γ ops R ts0 os0 ops.length) {σ : List Nat} (hσ : Hist ops σ) {k : Nat} {o : Oper} (ho : ops[k]? = some o) (hk : k ∉ σ) (hw : ∀ i, waits o i = true → i ∈ σ) {a : Act} {w : World}
    (hr : RelG Γ (tsH ops R ts0 σ) (osH R os0 σ) a w) {K : Act → World → Prop} {Q : Exit → Act → World → Prop} (hK : ∀ a' w', RelG Γ (tsH ops R ts0 (k :: σ)) (osH R os0 (k :: σ)) a' w' → K a' w') : wpOp P ops.toArray Q k K a w := by
  have hkl : k < ops.length := (List.getElem?_eq_some_iff.1 ho).1
  have hdst := hL.dst k o hkl ho
  obtain ⟨c, hrel⟩ := hr
  have hts := hrel.rel.ts
  unfold wpOp
  have ho' : ops.toArray[k]? = some o := by simpa using ho
  simp only [ho']
  have ets : ∀ v, RelG Γ (putT o.dst (R k).av (tsH ops R ts0 σ)) ((R k).upd ++ osH R os0 σ) (a.put o.dst v) w → True := fun _ _ => trivial
  have tsc : tsH ops R ts0 (k :: σ) = putT o.dst (R k).av (tsH ops R ts0 σ) := by
    rw [tsH, ho]
    cases hdd : o.dst <;> simp [putT, hdd]
  rcases hL.did k o hkl ho with D | S
  · rw [(guardIs_same hd hσ ho hk hw D.guard).run hts, if_pos rfl]
    left
    have hev : ∀ x ∈ o.op.operands.toList, Rd c w (a.eval x) (evO (tsH ops R ts0 (down k)) x) := fun x hx => by
      have e : evO (tsH ops R ts0 (down k)) x = evO (tsH ops R ts0 σ) x := by
        cases x with
        | tmp t =>
          unfold evO
          simp only
          rw [slot_same hd hσ ho hk hw (by unfold readsOf; rw [List.mem_append]; left; rw [List.mem_filterMap]; exact ⟨.tmp t, hx, rfl⟩)]
        | _ => rfl
      rw [e]
      exact evO_rd hts x
    have hneed : ∀ id ob, lk (R k).need id = some ob → lk (osH R os0 σ) id = some ob := fun id ob h => by
      rw [obj_same (n := 0) hL hσ ho hk hw (lk_keys (by rw [h]; rfl))]
      exact D.need id ob h
    -- what has been done ahead of its place does not speak of what it makes
    have later : ∀ j ∈ σ, ¬ j < k → ∀ x ∈ (R k).news, x ∉ mentions (R j) := fun j hj hjk x hx => by
      have hne : j ≠ k := fun e => hk (e ▸ hj)
      have hjl := hσ.lt j hj
      have hjo : ops[j]? = some ops[j] := List.getElem?_eq_getElem hjl
      cases hwt : waits2 ops ops[j] k with
      | true =>
        obtain ⟨pre, post, he⟩ := List.append_of_mem hj
        have := hσ.wait2 he hjo hwt
        exact absurd (by rw [he]; simp [this]) hk
      | false => exact (hL.comm k j _ (by omega) hjl hjo hwt).nm x hx
    have memd : ∀ j, j < k → ∀ p : Nat × AV, True := fun _ _ _ => trivial
    have tsmem : ∀ j, j < k → (∃ d, (ops[j]?).bind (·.dst) = some d ∧ (d, (R j).av) ∈ tsH ops R ts0 (down k)) ∨ (ops[j]?).bind (·.dst) = none := by
      have : ∀ n j, j < n → (∃ d, (ops[j]?).bind (·.dst) = some d ∧ (d, (R j).av) ∈ tsH ops R ts0 (down n)) ∨ (ops[j]?).bind (·.dst) = none := by
        intro n
        induction n with
        | zero => intro j h; omega
        | succ n ih =>
          intro j h
          rcases Nat.lt_or_eq_of_le (Nat.le_of_lt_succ h) with h | h
          · rcases ih j h with ⟨d, h1, h2⟩ | h1
            · refine .inl ⟨d, h1, ?_⟩
              simp only [down, tsH]
              split
              · exact List.mem_cons_of_mem _ h2
              · exact h2
            · exact .inr h1
          · subst h
            cases hdd : (ops[j]?).bind (·.dst) with
            | none => exact .inr rfl
            | some d => refine .inl ⟨d, rfl, ?_⟩; simp only [down, tsH, hdd]; simp
      exact fun j h => this k j h
    have tsinit : ∀ p ∈ ts0, p ∈ tsH ops R ts0 (down k) := by
      have : ∀ n, ∀ p ∈ ts0, p ∈ tsH ops R ts0 (down n) := by
        intro n
        induction n with
        | zero => exact fun p h => h
        | succ n ih =>
          intro p h
          simp only [down, tsH]
          split
          · exact List.mem_cons_of_mem _ (ih p h)
          · exact ih p h
      exact this k
    have osmem : ∀ j, j < k → ∀ p ∈ (R j).upd, p ∈ osH R os0 (down k) := by
      have : ∀ n j, j < n → ∀ p ∈ (R j).upd, p ∈ osH R os0 (down n) := by
        intro n
        induction n with
        | zero => intro j h; omega
        | succ n ih =>
          intro j h p hp
          simp only [down, osH]
          rcases Nat.lt_or_eq_of_le (Nat.le_of_lt_succ h) with h | h
          · exact List.mem_append_right _ (ih j h p hp)
          · subst h; exact List.mem_append_left _ hp
      exact fun j h => this k j h
    have osinit : ∀ p ∈ os0, p ∈ osH R os0 (down k) := by
      have : ∀ n, ∀ p ∈ os0, p ∈ osH R os0 (down n) := by
        intro n
        induction n with
        | zero => exact fun p h => h
        | succ n ih => intro p h; simp only [down, osH]; exact List.mem_append_right _ (ih p h)
      exact this k
    have fts : ∀ t x, lk (tsH ops R ts0 σ) t = some x → ∀ id ∈ (R k).news, id ∉ x.ids := by
      intro t x hl id hid
      have key : ∀ p ∈ tsH ops R ts0 (down k), id ∉ p.2.ids := fun p hp => by
        have hf := D.fts
        unfold freshTs at hf
        split at hf
        · rename_i e; rw [e] at hid; cases hid
        · exact freshIn_spec (List.all_eq_true.1 hf p hp) id hid
      rw [lk_tsH] at hl
      cases hf : σ.find? (wrT ops t) with
      | none => rw [hf] at hl; exact key _ (tsinit _ (lk_mem hl))
      | some j =>
        rw [hf] at hl
        simp only [Option.some.injEq] at hl
        subst hl
        have hj := List.mem_of_find?_eq_some hf
        by_cases hjk : j < k
        · rcases tsmem j hjk with ⟨d, _, hm⟩ | hnn
          · exact key _ hm
          · have := List.find?_some hf
            unfold wrT at this
            rw [hnn] at this
            simp at this
        · intro hm
          exact later j hj hjk id hid (by unfold mentions; simp [hm])
    have fos : (∀ id ob, lk (osH R os0 σ) id = some ob → lk (R k).upd id = none → ∀ x ∈ (R k).news, x ∉ ob.ids) ∧ ∀ x ∈ (R k).news, x < top := by
      refine ⟨fun id ob hl hu x hx hm => ?_, (freshOs_spec D.fos).2⟩
      have key : ∀ p ∈ osH R os0 (down k), p.1 = id → x ∉ p.2.ids := fun p hp he => by
        have hf := D.fos
        unfold freshOs at hf
        split at hf
        · rename_i e; rw [e] at hx; cases hx
        · simp only [Bool.and_eq_true] at hf
          have := List.all_eq_true.1 hf.2 p hp
          rw [he, hu] at this
          simp only [Option.isSome_none, Bool.false_or] at this
          exact freshIn_spec this x hx
      rw [lk_osH] at hl
      cases hf : σ.find? (wrO R id) with
      | none => rw [hf] at hl; exact key _ (osinit _ (lk_mem hl)) rfl hm
      | some j =>
        rw [hf] at hl
        simp only at hl
        have hj := List.mem_of_find?_eq_some hf
        by_cases hjk : j < k
        · exact key _ (osmem j hjk _ (lk_mem hl)) rfl hm
        · refine later j hj hjk x hx ?_
          unfold mentions
          rw [List.mem_append]
          right
          rw [List.mem_flatMap]
          exact ⟨_, lk_mem hl, hm⟩
    have hgo := D.tri c w a.eval (hrel.rel.hok.sub hneed) hev
    unfold Oper.wp
    refine hgo.upon fun v w' ⟨c', hp, hv⟩ => hK _ _ ⟨c', ?_, ?_⟩
    · have hn := hrel.rel.n
      refine ⟨by rw [put_defers]; exact hrel.rel.defers, by rw [put_size]; exact hn, ?_, ?_, ?_⟩
      · rw [tsc]
        exact hts.put (hrel.rel.hok.sub hneed) hp fts hv (by rw [hn]; exact hdst)
      · exact hrel.rel.hok.frame hneed hp D.news fos.1
      · exact hrel.rel.inv.post hrel.rel.hok hneed hp D.news
    · intro id hid
      have hno : id ∉ (R k).news := fun hm => by have := fos.2 id hm; omega
      have h1 := hp.ctx id hno
      have h2 := hrel.same id hid
      exact ⟨h1.1.trans h2.1, h1.2.trans h2.2⟩
  · rw [(guardIs_same hd hσ ho hk hw S.guard).run hts, if_neg (by simp)]
    have hs := skip_rel (o := o) ⟨c, hrel⟩ hdst
    refine hK _ _ ?_
    rw [tsc, osH, S.eq]
    exact hs
theorem exec_all (hd : drawOk ops = true) (hL : Lex P Γ ops R ts0 os0 ops.length) {Q : Exit → Act → World → Prop} (hQ : ∀ a w, RelG Γ (tsH ops R ts0 (down ops.length)) (osH R os0 (down ops.length)) a w → Q .normal a w) :
    ∀ (fuel : Nat) (listed : Array Bool) (σ : List Nat) (a : Act) (w : World), Hist ops σ → (∀ i, i < ops.length → (listed.getD i true = true ↔ i ∈ σ)) → listed.size = ops.length → σ.length + fuel = ops.length →
      RelG Γ (tsH ops R ts0 σ) (osH R os0 σ) a w → wpAny P .any ops.toArray Q fuel listed a w := by
  -- what is not done yet has a first one, and that one is ready
  have least : ∀ (listed : Array Bool) (σ : List Nat), Hist ops σ → (∀ i, i < ops.length → (listed.getD i true = true ↔ i ∈ σ)) → listed.size = ops.length → Region.ready .any ops.toArray listed = [] → ∀ i, i < ops.length → i ∈ σ := by
    intro listed σ hσ hl hs hr i
    induction i using Nat.strongRecOn with
    | _ i ih =>
      intro hi
      cases hb : listed.getD i true with
      | true => exact (hl i hi).1 hb
      | false =>
        exfalso
        have hm : i ∈ Region.ready .any ops.toArray listed := by
          rw [mem_ready]
          refine ⟨hb, ops[i], by simp [hi], fun e he hbind => ?_⟩
          have h1 := hd
          unfold drawOk at h1
          simp only [Bool.and_eq_true] at h1
          have h2 := List.all_eq_true.1 h1.1.1 (ops[i], i) (by rw [List.mem_zipIdx_iff_getElem?]; exact List.getElem?_eq_getElem hi)
          simp only [List.all_eq_true] at h2
          have h3 := h2 e (by simpa using he)
          rw [hbind] at h3
          simp only [Bool.not_true, Bool.false_or] at h3
          have hlt : e.on < i := Nat.le_of_ble_eq_true h3
          have h4 := (hl e.on (by omega)).2 (ih e.on hlt (by omega))
          have hsz : e.on < listed.size := by omega
          simp only [Array.getD_eq_getD_getElem?, Array.getElem?_eq_getElem hsz, Option.getD_some] at h4 ⊢
          exact h4
        rw [hr] at hm
        cases hm
  have fin : ∀ (σ : List Nat) (a : Act) (w : World), Hist ops σ → (∀ i, i < ops.length → i ∈ σ) → RelG Γ (tsH ops R ts0 σ) (osH R os0 σ) a w → Q .normal a w := fun σ a w hσ hall hr => by
    obtain ⟨e1, e2⟩ := all_same hd hL hσ hall
    exact hQ a w (hr.congr (fun t => (e1 t).symm) fun id => (e2 id).symm)
  intro fuel
  induction fuel with
  | zero =>
    intro listed σ a w hσ hl hs hlen hr
    have hall : ∀ i, i < ops.length → i ∈ σ := fun i hi => Classical.byContradiction fun hn => by
      have := nodup_le ops.length (i :: σ) (List.nodup_cons.2 ⟨hn, hσ.nodup⟩) fun j hj => by
        rcases List.mem_cons.1 hj with rfl | hj
        · exact hi
        · exact hσ.lt j hj
      simp at this
      omega
    refine ⟨?_, fin σ a w hσ hall hr⟩
    apply List.eq_nil_iff_forall_not_mem.2
    intro i hi
    rw [mem_ready] at hi
    obtain ⟨h0, o, ho, _⟩ := hi
    have hil : i < ops.length := by
      have := (Array.getElem?_eq_some_iff.1 ho).1
      simpa using this
    have := (hl i hil).2 (hall i hil)
    rw [h0] at this
    cases this
  | succ fuel ih =>
    intro listed σ a w hσ hl hs hlen hr
    refine ⟨fun hre => fin σ a w hσ (least listed σ hσ hl hs hre) hr, fun i hi => ?_⟩
    rw [mem_ready] at hi
    obtain ⟨h0, o, ho, hedges⟩ := hi
    have hil : i < ops.length := by
      have := (Array.getElem?_eq_some_iff.1 ho).1
      simpa using this
    have ho' : ops[i]? = some o := by simpa using ho
    have hiσ : i ∉ σ := fun h => by
      have := (hl i hil).2 h
      rw [h0] at this
      cases this
    have hw : ∀ j, waits o j = true → j ∈ σ := fun j hj => by
      obtain ⟨e, he, hb, rfl⟩ := waits_iff.1 hj
      have h1 := hedges e he hb
      have hsz : e.on < listed.size := Classical.byContradiction fun hge => by
        simp only [Array.getD_eq_getD_getElem?, Array.getElem?_eq_none (Nat.le_of_not_lt hge), Option.getD_none] at h1
        cases h1
      have h2 : listed.getD e.on true = true := by
        simp only [Array.getD_eq_getD_getElem?, Array.getElem?_eq_getElem hsz, Option.getD_some] at h1 ⊢
        exact h1
      exact (hl e.on (by omega)).1 h2
    refine exec_one hd hL hσ ho' hiσ hw hr fun a' w' hr' => ih _ (i :: σ) a' w' (hσ.cons ho' hiσ hw) (fun j hj => ?_) (by simpa using hs) (by simp; omega) hr'
    by_cases hij : i = j
    · subst hij
      have : i < listed.size := by omega
      simp [this]
    · rw [getD_set_ne true hij]
      rw [hl j hj, List.mem_cons]
      exact ⟨.inr, fun h => h.resolve_left fun e => hij e.symm⟩
end
end Go.Proofs.Ytioalgofaiideaa
