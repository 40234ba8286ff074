/- THE WALK OVER READINGS: a region walked in parts; steps in the mind alone (ghosts), between operations too; rows within rows. No program in sight. -/
import Derived.Test.YtioalgofaiideaaAi
namespace Go.Proofs.Ytioalgofaiideaa
open Go.RowKit
set_option linter.unusedVariables false

section
variable {P : Program} {tab : Tab} {et : EqTab} {Γ : Fun}
/-- what is to be shown of the operations that are left of a region -/
structure OOk (P : Program) (Γ : Fun) (ops l : List Oper) (ts : Ts) (os : Os) (Q : Qt) : Prop where
  run : ∀ a w, RelG Γ ts os a w → wpList P ops.toArray (fun e a' w' => ∃ ex ts' os', exM e ex ∧ Q ex ts' os' ∧ RelG Γ ts' os' a' w') l a w
theorem COk.ops {id : Nat} {l : Array Oper} {ts : Ts} {os : Os} {Q : Qt} (h : OOk P Γ l.toList l.toList ts os Q) : COk P Γ (.region id l false) ts os Q :=
  ⟨fun a w hr => wp_region_list (by simpa using h.run a w hr)⟩
theorem OOk.chunk (hT : TabOk P tab) (hE : EqTabOk P et) {n : Nat} (hn : Γ.n = n) (k : Nat) {ops l : List Oper} {ts : Ts} {os : Os} {Q : Qt}
    (h : forceT ts fun ts => vcOps P tab et n ops (l.take k) ts os fun ts os => OOk P Γ ops (l.drop k) ts os Q) : OOk P Γ ops l ts os Q := by
  subst hn
  refine ⟨fun a w hr => ?_⟩
  have := vcOps_app hT hE (l2 := l.drop k) (l.take k) ts os _ a w ((forceT_eq ts _).1 h) hr fun ts' os' a' w' hk hr' => hk.run a' w' hr'
  rwa [List.take_append_drop] at this
theorem OOk.done {ops : List Oper} {ts : Ts} {os : Os} {Q : Qt} (h : Q .normal ts os) : OOk P Γ ops [] ts os Q := ⟨fun a w hr => ⟨.normal, ts, os, trivial, h, hr⟩⟩

theorem COk.seq {x y : Code} {ts : Ts} {os : Os} {Q : Qt} (h : COk P Γ x ts os fun e ts' os' => match e with
    | .normal => COk P Γ y ts' os' Q
    | .exit id => Q (.exit id) ts' os'
    | .ret => Q .ret ts' os') : COk P Γ (.seq x y) ts os Q := by
  refine ⟨fun a w hr => wp_seq (wp_mono (h.run a w hr) fun e a' w' ⟨ex, ts', os', h1, h2, h3⟩ => ?_)⟩
  cases e <;> cases ex <;> simp only [exM] at h1 <;> first | exact h1.elim | skip
  · exact h2.run a' w' h3
  · subst h1; exact ⟨.exit _, ts', os', rfl, h2, h3⟩
  · exact ⟨.ret, ts', os', trivial, h2, h3⟩
/-- two ways meet -/
theorem COk.cut {ι : Type} (St : ι → Ts) (So : ι → Os) {x y : Code} {ts : Ts} {os : Os} {Q : Qt} (h : COk P Γ x ts os fun e ts' os' => match e with
    | .normal => ∃ i rl, SubP ts' os' (St i) (So i) rl
    | .exit id => Q (.exit id) ts' os'
    | .ret => Q .ret ts' os') (hn : ∀ i, ((St i).all fun p => Nat.blt p.1 Γ.n) = true) (h2 : ∀ i, COk P Γ y (St i) (So i) Q) : COk P Γ (.seq x y) ts os Q := by
  refine COk.seq ⟨fun a w hr => wp_mono (h.run a w hr) fun e a' w' ⟨ex, ts', os', h1, h2', h3⟩ => ⟨ex, ts', os', h1, ?_, h3⟩⟩
  cases ex with
  | normal =>
    obtain ⟨i, rl, hs⟩ := h2'
    exact COk.sub rl hs (hn i) (h2 i)
  | exit id => exact h2'
  | ret => exact h2'
/-- A GHOST: nothing is done; what is known is told otherwise -/
def Gh (Γ : Fun) (ts : Ts) (os : Os) {ι : Type} (T : ι → Ts) (O : ι → Os) : Prop := ∀ a w, RelG Γ ts os a w → ∃ x, RelG Γ (T x) (O x) a w
theorem COk.gh {ι : Type} {c : Code} {ts : Ts} {os : Os} {T : ι → Ts} {O : ι → Os} {Q : Qt} (g : Gh Γ ts os T O) (h : ∀ x, COk P Γ c (T x) (O x) Q) : COk P Γ c ts os Q :=
  ⟨fun a w hr => let ⟨x, hx⟩ := g a w hr; (h x).run a w hx⟩
theorem OOk.gh {ι : Type} {ops l : List Oper} {ts : Ts} {os : Os} {T : ι → Ts} {O : ι → Os} {Q : Qt} (g : Gh Γ ts os T O) (h : ∀ x, OOk P Γ ops l (T x) (O x) Q) : OOk P Γ ops l ts os Q :=
  ⟨fun a w hr => let ⟨x, hx⟩ := g a w hr; (h x).run a w hx⟩
/-- at the end of a piece of code: ghosts alone are left -/
structure EOk (Γ : Fun) (ts : Ts) (os : Os) (Q : Qt) : Prop where
  run : ∀ a w, RelG Γ ts os a w → ∃ ts' os', Q .normal ts' os' ∧ RelG Γ ts' os' a w
theorem EOk.done {ts : Ts} {os : Os} {Q : Qt} (h : Q .normal ts os) : EOk Γ ts os Q := ⟨fun a w hr => ⟨ts, os, h, hr⟩⟩
theorem EOk.gh {ι : Type} {ts : Ts} {os : Os} {T : ι → Ts} {O : ι → Os} {Q : Qt} (g : Gh Γ ts os T O) (h : ∀ x, EOk Γ (T x) (O x) Q) : EOk Γ ts os Q :=
  ⟨fun a w hr => let ⟨x, hx⟩ := g a w hr; (h x).run a w hx⟩
theorem COk.snoc {c : Code} {ts : Ts} {os : Os} {Q : Qt} (h : COk P Γ c ts os fun e ts' os' => match e with
    | .normal => EOk Γ ts' os' Q
    | .exit id => Q (.exit id) ts' os'
    | .ret => Q .ret ts' os') : COk P Γ c ts os Q := by
  refine ⟨fun a w hr => wp_mono (h.run a w hr) fun e a' w' ⟨ex, ts', os', h1, h2, h3⟩ => ?_⟩
  cases e <;> cases ex <;> simp only [exM] at h1 <;> first | exact h1.elim | skip
  · obtain ⟨ts2, os2, q1, q2⟩ := h2.run a' w' h3
    exact ⟨.normal, ts2, os2, trivial, q1, q2⟩
  · subst h1; exact ⟨.exit _, ts', os', rfl, h2, h3⟩
  · exact ⟨.ret, ts', os', trivial, h2, h3⟩
theorem Gh.of {ι : Type} {ts : Ts} {os need : Os} {ex : ι → Ts} {upd : ι → Os} {news : List Nat} (hneed : subP need os) (hf1 : freshTs news ts = true) (hf2 : ∀ x, freshOs news (upd x) os = true) (hnews : ∀ x, (news.all fun i => (lk (upd x) i).isSome) = true)
    (hp : ∀ c w, HOk c w need → (∃ a, TsOk c w ts a) → ∃ x c', Post c w c' w need (upd x) news ∧ ∀ t y, lk (ex x) t = some y → ∃ z, lk ts t = some z ∧ ∀ v, Rd c w v z → Rd c' w v y) : Gh Γ ts os (fun x => ex x ++ ts) (fun x => upd x ++ os) := by
  rintro a w ⟨c, ⟨h1, h2, h3, h4, h5⟩, h6⟩
  have hn := subP_spec hneed
  obtain ⟨x, c', hpost, hex⟩ := hp c w (h4.sub hn) ⟨a, h3⟩
  have hnw : ∀ id ∈ news, (lk (upd x) id).isSome = true := fun id h => by simpa using List.all_eq_true.1 (hnews x) id h
  obtain ⟨g1, g2⟩ := freshOs_spec (hf2 x)
  refine ⟨x, c', ⟨h1, h2, fun t y hl => ?_, h4.frame hn hpost hnw g1, h5.post h4 hn hpost hnw⟩, fun id hid => ?_⟩
  · rw [lk_append] at hl
    cases he : lk (ex x) t with
    | some y' =>
      rw [he] at hl
      simp at hl
      subst hl
      obtain ⟨z, hz, hzv⟩ := hex t y' he
      obtain ⟨v, q1, q2⟩ := h3 t z hz
      exact ⟨v, q1, hzv v q2⟩
    | none =>
      rw [he] at hl
      simp at hl
      obtain ⟨v, q1, q2⟩ := h3 t y hl
      exact ⟨v, q1, q2.post hpost (h4.sub hn) (freshTs_spec hf1 t y hl)⟩
  · have hno : id ∉ news := fun hm => by have := g2 id hm; omega
    have q1 := hpost.ctx id hno
    have q2 := h6 id hid
    exact ⟨q1.1.trans q2.1, q1.2.trans q2.2⟩
/-- a ghost's own step -/
theorem Post.same {c c' : Ctx} {w : World} {need upd : Os} {news : List Nat} (h : HOk c w need) (hΦ : c'.Φ = c.Φ) (hctx : ∀ id, id ∉ news → c'.μ id = c.μ id ∧ c'.hd id = c.hd id) (rep : ∀ id o, lk upd id = some o → ORep c' w id o)
    (feet : ∀ id o b, lk upd id = some o → foot c' id o b → Touch c need upd b) (sep : ∀ id id' o o' b, id ≠ id' → lk upd id = some o → lk upd id' = some o' → foot c' id o b → ¬ foot c' id' o' b) : Post c w c' w need upd news := by
  refine ⟨rfl, rfl, rfl, Nat.le_refl _, fun b hb => by rw [hΦ]; exact hb, fun b hb => .inl (by rw [hΦ] at hb; exact hb), fun _ _ _ => rfl, hctx, ⟨rep, fun id o b hl hf => ?_, sep, by rw [hΦ]; exact h.phi⟩, fun id o b hl hf => .inr (feet id o b hl hf)⟩
  obtain ⟨i, o', h1, _, h3⟩ := feet id o b hl hf
  rw [hΦ]
  exact h.lt i o' b h1 h3
theorem lk1 {β : Type} {a i : Nat} {x o : β} (h : lk [(a, x)] i = some o) : i = a ∧ o = x := by
  rw [lk_cons] at h
  split at h
  · rename_i e; cases h; exact ⟨e.symm, rfl⟩
  · cases h
theorem lk2 {β : Type} {a b i : Nat} {x y o : β} (h : lk [(a, x), (b, y)] i = some o) : (i = a ∧ o = x) ∨ (i ≠ a ∧ i = b ∧ o = y) := by
  rw [lk_cons] at h
  split at h
  · rename_i e; cases h; exact .inl ⟨e.symm, rfl⟩
  · rename_i e; exact .inr ⟨fun h => e h.symm, lk1 h⟩
theorem lk3 {β : Type} {a b c i : Nat} {x y z o : β} (h : lk [(a, x), (b, y), (c, z)] i = some o) : (i = a ∧ o = x) ∨ (i ≠ a ∧ i = b ∧ o = y) ∨ (i ≠ a ∧ i ≠ b ∧ i = c ∧ o = z) := by
  rw [lk_cons] at h
  split at h
  · rename_i e; cases h; exact .inl ⟨e.symm, rfl⟩
  · rename_i e
    rcases lk2 h with h | ⟨h1, h2, h3⟩
    · exact .inr (.inl ⟨fun h => e h.symm, h⟩)
    · exact .inr (.inr ⟨fun h => e h.symm, h1, h2, h3⟩)
theorem beq_ne {i j : Nat} (h : Nat.beq i j = false) : i ≠ j := fun e => by rw [e] at h; simp at h
theorem RowRep.hdr {Φ : Nat → Prop} {w : World} {v : Value} {sz e : Nat} {ls : List (List AV)} (h : RowRep Φ w v sz ls e) : ∃ h : Hd, v = h.v ∧ h.n = ls.length ∧ h.n ≤ h.c ∧ h.c ≤ maxLen := by
  obtain ⟨css, q1, q2, q3⟩ := h
  obtain ⟨A, cap, e1, e2, e3⟩ := q1.head
  exact ⟨⟨A, css.length, cap⟩, e1, q2, e2, e3⟩
theorem PinsRep.cons {Φ : Nat → Prop} {w : World} {sz e : Nat} {p : Hd × List (List AV)} {l : List (Hd × List (List AV))} : PinsRep Φ w sz (p :: l) e ↔ RowRep Φ w p.1.v sz p.2 e ∧ PinsRep Φ w sz l e ∧ ∀ q ∈ l, ∀ b, p.1.v.ownBlock = some b → q.1.v.ownBlock = some b → False := by
  constructor
  · rintro ⟨h1, h2⟩
    obtain ⟨h3, h4⟩ := List.pairwise_cons.1 h2
    exact ⟨h1 p (by simp), ⟨fun q hq => h1 q (by simp [hq]), h4⟩, h3⟩
  · rintro ⟨h1, h2, h3⟩
    exact ⟨fun q hq => by rcases List.mem_cons.1 hq with rfl | hq; exact h1; exact h2.1 q hq, List.pairwise_cons.2 ⟨h3, h2.2⟩⟩
theorem PinsRep.perm {Φ : Nat → Prop} {w : World} {sz e : Nat} {l l' : List (Hd × List (List AV))} (h : PinsRep Φ w sz l e) (hp : l.Perm l') : PinsRep Φ w sz l' e :=
  ⟨fun p hm => h.1 p (hp.mem_iff.2 hm), (hp.pairwise_iff fun h b h1 h2 => h b h2 h1).1 h.2⟩

/-- there are no rows yet -/
theorem Gh.pins0 {ts : Ts} {os : Os} (k sz e : Nat) (hf1 : freshTs [k] ts = true) (hf2 : freshOs [k] [(k, .pins sz [] e)] os = true) : Gh Γ ts os (fun _ : Unit => ts) (fun _ => (k, .pins sz [] e) :: os) :=
  Gh.of (need := []) (upd := fun _ => [(k, .pins sz [] e)]) (ex := fun _ => []) (news := [k]) trivial hf1 (fun _ => hf2) (fun _ => by simp [lk_self]) fun c w hok _ => ⟨(), c, Post.same hok rfl (fun _ _ => ⟨rfl, rfl⟩)
    (fun id o h => by obtain ⟨rfl, rfl⟩ := lk1 h; exact ⟨fun _ h => (by cases h), .nil⟩) (fun id o b h hf => by obtain ⟨rfl, rfl⟩ := lk1 h; obtain ⟨p, h, _⟩ := hf; cases h)
    (fun id id' o o' b hne h1 h2 => by obtain ⟨rfl, rfl⟩ := lk1 h1; obtain ⟨rfl, rfl⟩ := lk1 h2; exact absurd rfl hne), fun t y h => by cases h⟩
/-- a row is put to the others; its header is a value now -/
theorem Gh.pin {ts : Ts} {os : Os} (t j k : Nat) {sz e : Nat} {ls : List (List AV)} {l : List (Hd × List (List AV))} (hl : lk ts t = some (.own j)) (hj : lk os j = some (.row sz ls e)) (hk : lk os k = some (.pins sz l e)) (hne : Nat.beq j k = false) :
    Gh Γ ts os (fun h : Hd => (t, .con h.v) :: ts) (fun h => (k, .pins sz (l ++ [(h, ls)]) e) :: (j, .gone) :: os) := by
  have hne := beq_ne hne
  refine Gh.of (need := [(j, .row sz ls e), (k, .pins sz l e)]) (upd := fun h => [(k, .pins sz (l ++ [(h, ls)]) e), (j, .gone)]) (ex := fun h => [(t, .con h.v)]) (news := []) ⟨hj, hk, trivial⟩ rfl (fun _ => rfl) (fun _ => rfl) fun c w hok _ => ?_
  have rj : RowRep c.Φ w (c.hd j) sz ls e := hok.rep j (.row sz ls e) (lk_self _ _ _)
  have rk : PinsRep c.Φ w sz l e := hok.rep k (.pins sz l e) (by rw [lk_ne _ _ hne, lk_self])
  obtain ⟨h, e1, -⟩ := rj.hdr
  refine ⟨h, c, Post.same hok rfl (fun _ _ => ⟨rfl, rfl⟩) (fun id o hl => ?_) (fun id o b hl hf => ?_) (fun id id' o o' b hdis hl hl' hf hf' => ?_), fun t' y hy => ?_⟩
  · rcases lk2 hl with ⟨rfl, rfl⟩ | ⟨_, rfl, rfl⟩
    · refine PinsRep.perm (l := (h, ls) :: l) (PinsRep.cons.2 ⟨e1 ▸ rj, rk, fun q hq b h1 h2 => ?_⟩) (List.perm_append_comm (l₁ := [(h, ls)]))
      exact hok.sep j id (.row sz ls e) (.pins sz l e) b hne (lk_self _ _ _) (by rw [lk_ne _ _ hne, lk_self]) (show (c.hd j).ownBlock = some b by rw [e1]; exact h1) ⟨q, hq, h2⟩
    · trivial
  · rcases lk2 hl with ⟨rfl, rfl⟩ | ⟨_, rfl, rfl⟩
    · obtain ⟨p, hp, hb⟩ := hf
      rcases List.mem_append.1 hp with hp | hp
      · exact ⟨id, .pins sz l e, by rw [lk_ne _ _ hne, lk_self], by rw [lk_self]; rfl, ⟨p, hp, hb⟩⟩
      · obtain rfl := List.mem_singleton.1 hp
        exact ⟨j, _, lk_self _ _ _, by rw [lk_ne _ _ (Ne.symm hne), lk_self]; rfl, by show (c.hd j).ownBlock = _; rw [e1]; exact hb⟩
    · exact hf.elim
  · rcases lk2 hl with ⟨rfl, rfl⟩ | ⟨_, rfl, rfl⟩ <;> rcases lk2 hl' with ⟨rfl, rfl⟩ | ⟨_, rfl, rfl⟩ <;> first | exact hdis rfl | exact hf.elim | exact hf'.elim
  · obtain ⟨rfl, rfl⟩ := lk1 hy
    refine ⟨_, hl, fun v hv => ?_⟩
    obtain ⟨A, n, cap, e2, e3, -⟩ := hv.own_
    rw [e2, ← e3, e1]
    exact .fz (.con _)
/-- the same of a row that a box holds -/
theorem Gh.pinB {ts : Ts} {os : Os} (b0 off j k : Nat) {sz e e2 : Nat} {cs : List AV} {ls : List (List AV)} {l : List (Hd × List (List AV))} (hb : lk os b0 = some (.box cs e2)) (hat : cs[off]? = some (.own j)) (hj : lk os j = some (.row sz ls e)) (hk : lk os k = some (.pins sz l e))
    (hne : Nat.beq j k = false) (hne2 : Nat.beq b0 j = false) (hne3 : Nat.beq b0 k = false) :
    Gh Γ ts os (fun h : Hd => ts) (fun h => (b0, .box (cs.set off (.con h.v)) e2) :: (k, .pins sz (l ++ [(h, ls)]) e) :: (j, .gone) :: os) := by
  have hne := beq_ne hne
  have hne2 := beq_ne hne2
  have hne3 := beq_ne hne3
  refine Gh.of (need := [(j, .row sz ls e), (k, .pins sz l e), (b0, .box cs e2)]) (upd := fun h => [(b0, .box (cs.set off (.con h.v)) e2), (k, .pins sz (l ++ [(h, ls)]) e), (j, .gone)]) (ex := fun h => []) (news := []) ⟨hj, hk, hb, trivial⟩ rfl (fun _ => rfl) (fun _ => rfl) fun c w hok _ => ?_
  have lj : lk [(j, Obj.row sz ls e), (k, .pins sz l e), (b0, .box cs e2)] j = some (.row sz ls e) := lk_self _ _ _
  have lkk : lk [(j, Obj.row sz ls e), (k, .pins sz l e), (b0, .box cs e2)] k = some (.pins sz l e) := by rw [lk_ne _ _ hne, lk_self]
  have lb : lk [(j, Obj.row sz ls e), (k, .pins sz l e), (b0, .box cs e2)] b0 = some (.box cs e2) := by rw [lk_ne _ _ (Ne.symm hne2), lk_ne _ _ (Ne.symm hne3), lk_self]
  have rj : RowRep c.Φ w (c.hd j) sz ls e := hok.rep j _ lj
  have rk : PinsRep c.Φ w sz l e := hok.rep k _ lkk
  obtain ⟨us, u1, u2⟩ := hok.rep b0 _ lb
  obtain ⟨h, e1, -⟩ := rj.hdr
  refine ⟨h, c, Post.same hok rfl (fun _ _ => ⟨rfl, rfl⟩) (fun id o hl => ?_) (fun id o b hl hf => ?_) (fun id id' o o' b hdis hl hl' hf hf' => ?_), fun t' y hy => (by cases hy)⟩
  · rcases lk3 hl with ⟨rfl, rfl⟩ | ⟨_, rfl, rfl⟩ | ⟨_, _, rfl, rfl⟩
    · refine ⟨us, u1, ?_⟩
      obtain ⟨v, v1, v2⟩ := u2.get hat
      obtain ⟨A, n, cap, e2, e3, -⟩ := v2.own_
      have := u2.set off (v := v) (a := .con h.v) (by rw [e2, ← e3, e1]; exact .fz (.con _))
      rwa [show us.set off v = us by
        apply List.ext_getElem?
        intro i
        rw [List.getElem?_set]
        split
        · rename_i e4
          subst e4
          split
          · exact v1.symm
          · rw [List.getElem?_eq_none (by omega)]
        · rfl] at this
    · refine PinsRep.perm (l := (h, ls) :: l) (PinsRep.cons.2 ⟨e1 ▸ rj, rk, fun q hq b h1 h2 => ?_⟩) (List.perm_append_comm (l₁ := [(h, ls)]))
      exact hok.sep j id _ _ b hne lj lkk (show (c.hd j).ownBlock = some b by rw [e1]; exact h1) ⟨q, hq, h2⟩
    · trivial
  · rcases lk3 hl with ⟨rfl, rfl⟩ | ⟨_, rfl, rfl⟩ | ⟨_, _, rfl, rfl⟩
    · exact ⟨id, _, lb, by rw [lk_self]; rfl, hf⟩
    · obtain ⟨p, hp, hb⟩ := hf
      rcases List.mem_append.1 hp with hp | hp
      · exact ⟨id, _, lkk, by rw [hl]; rfl, ⟨p, hp, hb⟩⟩
      · obtain rfl := List.mem_singleton.1 hp
        exact ⟨j, _, lj, by rw [lk_ne _ _ hne2, lk_ne _ _ (Ne.symm hne), lk_self]; rfl, by show (c.hd j).ownBlock = _; rw [e1]; exact hb⟩
    · exact hf.elim
  · -- pins and the box
    have apart : ∀ b, (∃ p ∈ l ++ [(h, ls)], p.1.v.ownBlock = some b) → b ≠ c.μ b0 := by
      rintro b ⟨p, hp, hb⟩ rfl
      rcases List.mem_append.1 hp with hp | hp
      · exact hok.sep k b0 _ _ _ (Ne.symm hne3) lkk lb ⟨p, hp, hb⟩ rfl
      · obtain rfl := List.mem_singleton.1 hp
        exact hok.sep j b0 _ _ _ (Ne.symm hne2) lj lb (show (c.hd j).ownBlock = _ by rw [e1]; exact hb) rfl
    rcases lk3 hl with ⟨rfl, rfl⟩ | ⟨_, rfl, rfl⟩ | ⟨_, _, rfl, rfl⟩ <;> rcases lk3 hl' with ⟨rfl, rfl⟩ | ⟨_, rfl, rfl⟩ | ⟨_, _, rfl, rfl⟩ <;> first | exact hdis rfl | exact hf.elim | exact hf'.elim | exact apart b hf hf' | exact apart b hf' hf
/-- a row is taken out of the others; its header is remembered -/
theorem Gh.unpin {ts : Ts} {os : Os} (k j j' : Nat) {sz e : Nat} {h : Hd} {ls : List (List AV)} {l l' : List (Hd × List (List AV))} (hk : lk os k = some (.pins sz l e)) (hperm : l.Perm ((h, ls) :: l'))
    (hn1 : Nat.beq j j' = false) (hn2 : Nat.beq j k = false) (hn3 : Nat.beq j' k = false) (hf1 : freshTs [j, j'] ts = true) (hf2 : freshOs [j, j'] [(j, .row sz ls e), (j', .eqv j h.v), (k, .pins sz l' e)] os = true) :
    Gh Γ ts os (fun _ : Unit => ts) (fun _ => (j, .row sz ls e) :: (j', .eqv j h.v) :: (k, .pins sz l' e) :: os) := by
  have hn1 := beq_ne hn1
  have hn2 := beq_ne hn2
  have hn3 := beq_ne hn3
  refine Gh.of (need := [(k, .pins sz l e)]) (upd := fun _ => [(j, .row sz ls e), (j', .eqv j h.v), (k, .pins sz l' e)]) (ex := fun _ => []) (news := [j, j']) ⟨hk, trivial⟩ hf1 (fun _ => hf2) (fun _ => by simp [lk_cons, hn1]) fun c w hok _ => ?_
  have rk : PinsRep c.Φ w sz l e := hok.rep k _ (lk_self _ _ _)
  obtain ⟨r1, r2, r3⟩ := PinsRep.cons.1 (rk.perm hperm)
  have e1 : (c.setHd j h.v).hd j = h.v := by simp [Ctx.setHd]
  have tk : ∀ b, (∃ p ∈ l, p.1.v.ownBlock = some b) → Touch c [(k, .pins sz l e)] [(j, .row sz ls e), (j', .eqv j h.v), (k, .pins sz l' e)] b := fun b hb => ⟨k, _, lk_self _ _ _, by rw [lk_ne _ _ hn2, lk_ne _ _ hn3, lk_self]; rfl, hb⟩
  refine ⟨(), c.setHd j h.v, Post.same hok rfl (fun id hid => ⟨rfl, by simp [Ctx.setHd, show id ≠ j by rintro rfl; simp at hid]⟩) (fun id o hl => ?_) (fun id o b hl hf => ?_) (fun id id' o o' b hdis hl hl' hf hf' => ?_), fun t' y hy => (by cases hy)⟩
  · rcases lk3 hl with ⟨rfl, rfl⟩ | ⟨_, rfl, rfl⟩ | ⟨_, _, rfl, rfl⟩
    · show RowRep _ w ((c.setHd id h.v).hd id) sz ls e
      rw [e1]
      exact r1
    · exact e1
    · exact r2
  · rcases lk3 hl with ⟨rfl, rfl⟩ | ⟨_, rfl, rfl⟩ | ⟨_, _, rfl, rfl⟩
    · exact tk b ⟨(h, ls), hperm.mem_iff.2 (by simp), by have : ((c.setHd id h.v).hd id).ownBlock = some b := hf; rwa [e1] at this⟩
    · exact hf.elim
    · obtain ⟨p, hp, hb⟩ := hf
      exact tk b ⟨p, hperm.mem_iff.2 (by simp [hp]), hb⟩
  · have apart : ∀ b, ((c.setHd j h.v).hd j).ownBlock = some b → (∃ p ∈ l', p.1.v.ownBlock = some b) → False := fun b h1 ⟨p, hp, hb⟩ => r3 p hp b (by rwa [e1] at h1) hb
    rcases lk3 hl with ⟨rfl, rfl⟩ | ⟨_, rfl, rfl⟩ | ⟨_, _, rfl, rfl⟩ <;> rcases lk3 hl' with ⟨rfl, rfl⟩ | ⟨_, rfl, rfl⟩ | ⟨_, _, rfl, rfl⟩ <;> first | exact hdis rfl | exact hf.elim | exact hf'.elim | exact apart b hf hf' | exact apart b hf' hf
/-- it is put back -/
theorem Gh.repin {ts : Ts} {os : Os} (j j' k : Nat) {sz e : Nat} {h : Hd} {ls : List (List AV)} {l l' : List (Hd × List (List AV))} (hj : lk os j = some (.row sz ls e)) (hj' : lk os j' = some (.eqv j h.v)) (hk : lk os k = some (.pins sz l e)) (hperm : l'.Perm ((h, ls) :: l))
    (hn1 : Nat.beq j j' = false) (hn2 : Nat.beq j k = false) (hn3 : Nat.beq j' k = false) :
    Gh Γ ts os (fun _ : Unit => ts) (fun _ => (k, .pins sz l' e) :: (j, .gone) :: (j', .gone) :: os) := by
  have hn1 := beq_ne hn1
  have hn2 := beq_ne hn2
  have hn3 := beq_ne hn3
  refine Gh.of (need := [(j, .row sz ls e), (j', .eqv j h.v), (k, .pins sz l e)]) (upd := fun _ => [(k, .pins sz l' e), (j, .gone), (j', .gone)]) (ex := fun _ => []) (news := []) ⟨hj, hj', hk, trivial⟩ rfl (fun _ => rfl) (fun _ => rfl) fun c w hok _ => ?_
  have lj : lk [(j, Obj.row sz ls e), (j', .eqv j h.v), (k, .pins sz l e)] j = some (.row sz ls e) := lk_self _ _ _
  have lkk : lk [(j, Obj.row sz ls e), (j', .eqv j h.v), (k, .pins sz l e)] k = some (.pins sz l e) := by rw [lk_ne _ _ hn2, lk_ne _ _ hn3, lk_self]
  have rj : RowRep c.Φ w (c.hd j) sz ls e := hok.rep j _ lj
  have e1 : c.hd j = h.v := hok.rep j' (.eqv j h.v) (by rw [lk_ne _ _ hn1, lk_self])
  have rk : PinsRep c.Φ w sz l e := hok.rep k _ lkk
  rw [e1] at rj
  refine ⟨(), c, Post.same hok rfl (fun _ _ => ⟨rfl, rfl⟩) (fun id o hl => ?_) (fun id o b hl hf => ?_) (fun id id' o o' b hdis hl hl' hf hf' => ?_), fun t' y hy => (by cases hy)⟩
  · rcases lk3 hl with ⟨rfl, rfl⟩ | ⟨_, rfl, rfl⟩ | ⟨_, _, rfl, rfl⟩
    · exact PinsRep.perm (PinsRep.cons.2 ⟨rj, rk, fun q hq b h1 h2 => hok.sep j id _ _ b hn2 lj lkk (show (c.hd j).ownBlock = some b by rw [e1]; exact h1) ⟨q, hq, h2⟩⟩) hperm.symm
    · trivial
    · trivial
  · rcases lk3 hl with ⟨rfl, rfl⟩ | ⟨_, rfl, rfl⟩ | ⟨_, _, rfl, rfl⟩
    · obtain ⟨p, hp, hb⟩ := hf
      rcases List.mem_cons.1 (hperm.mem_iff.1 hp) with rfl | hp
      · exact ⟨j, _, lj, by rw [lk_ne _ _ (Ne.symm hn2), lk_self]; rfl, by show (c.hd j).ownBlock = _; rw [e1]; exact hb⟩
      · exact ⟨id, _, lkk, by rw [hl]; rfl, ⟨p, hp, hb⟩⟩
    · exact hf.elim
    · exact hf.elim
  · rcases lk3 hl with ⟨rfl, rfl⟩ | ⟨_, rfl, rfl⟩ | ⟨_, _, rfl, rfl⟩ <;> rcases lk3 hl' with ⟨rfl, rfl⟩ | ⟨_, rfl, rfl⟩ | ⟨_, _, rfl, rfl⟩ <;> first | exact hdis rfl | exact hf.elim | exact hf'.elim
/-- a nest is opened -/
theorem Gh.open {ts : Ts} {os : Os} (t id j k : Nat) {sz e isz ie : Nat} {l : List (List AV × List (List AV))} (hl : lk ts t = some (.nst id)) (hid : lk os id = some (.nest sz e isz ie l)) (hn1 : Nat.beq j k = false) (hn2 : Nat.beq j id = false) (hn3 : Nat.beq k id = false)
    (hf1 : freshTs [j, k] ts = true) (hf2 : ∀ z, freshOs [j, k] [(j, .row sz (nOut z) e), (k, .pins isz (nIn z) ie), (id, .gone)] os = true) :
    Gh Γ ts os (fun _ : { z : List (Hd × List AV × List (List AV)) // z.map (·.2) = l } => (t, .own j) :: ts) (fun z => (j, .row sz (nOut z.1) e) :: (k, .pins isz (nIn z.1) ie) :: (id, .gone) :: os) := by
  have hn1 := beq_ne hn1
  have hn2 := beq_ne hn2
  have hn3 := beq_ne hn3
  refine Gh.of (ι := { z : List (Hd × List AV × List (List AV)) // z.map (·.2) = l }) (need := [(id, .nest sz e isz ie l)]) (upd := fun z => [(j, .row sz (nOut z.1) e), (k, .pins isz (nIn z.1) ie), (id, .gone)]) (ex := fun _ => [(t, .own j)]) (news := [j, k]) ⟨hid, trivial⟩ hf1 (fun _ => hf2 _) (fun _ => by simp [lk_cons, hn1]) fun c w hok _ => ?_
  obtain ⟨h, z, e0, e1, r1, r2, r3⟩ := hok.rep id _ (lk_self _ _ _)
  have e2 : (c.setHd j h.v).hd j = h.v := by simp [Ctx.setHd]
  have tk : ∀ b, (∃ v ∈ hdsOf (c.hd id), v.ownBlock = some b) → Touch c [(id, .nest sz e isz ie l)] [(j, .row sz (nOut z) e), (k, .pins isz (nIn z) ie), (id, .gone)] b := fun b hb => ⟨id, _, lk_self _ _ _, by rw [lk_ne _ _ hn2, lk_ne _ _ hn3, lk_self]; rfl, hb⟩
  rw [e0] at tk
  refine ⟨⟨z, e1⟩, c.setHd j h.v, Post.same hok rfl (fun i hi => ⟨rfl, by simp [Ctx.setHd, show i ≠ j by rintro rfl; simp at hi]⟩) (fun i o hl => ?_) (fun i o b hl hf => ?_) (fun i i' o o' b hdis hl hl' hf hf' => ?_), fun t' y hy => ?_⟩
  · rcases lk3 hl with ⟨rfl, rfl⟩ | ⟨_, rfl, rfl⟩ | ⟨_, _, rfl, rfl⟩
    · show RowRep _ w ((c.setHd i h.v).hd i) sz (nOut z) e
      rw [e2]
      exact r1
    · exact r2
    · trivial
  · rcases lk3 hl with ⟨rfl, rfl⟩ | ⟨_, rfl, rfl⟩ | ⟨_, _, rfl, rfl⟩
    · exact tk b ⟨h.v, by simp [hdsOf], by have : ((c.setHd i h.v).hd i).ownBlock = some b := hf; rwa [e2] at this⟩
    · obtain ⟨p, hp, hb⟩ := hf
      obtain ⟨q, hq, rfl⟩ := List.mem_map.1 hp
      exact tk b ⟨q.1.v, by show _ ∈ (h.v :: z.map (·.1.v)).toArray.toList; exact List.mem_cons_of_mem _ (List.mem_map.2 ⟨q, hq, rfl⟩), hb⟩
    · exact hf.elim
  · have apart : ∀ b, ((c.setHd j h.v).hd j).ownBlock = some b → (∃ p ∈ nIn z, p.1.v.ownBlock = some b) → False := fun b h1 ⟨p, hp, hb⟩ => by
      obtain ⟨q, hq, rfl⟩ := List.mem_map.1 hp
      exact r3 b q (by rwa [e2] at h1) hq hb
    rcases lk3 hl with ⟨rfl, rfl⟩ | ⟨_, rfl, rfl⟩ | ⟨_, _, rfl, rfl⟩ <;> rcases lk3 hl' with ⟨rfl, rfl⟩ | ⟨_, rfl, rfl⟩ | ⟨_, _, rfl, rfl⟩ <;> first | exact hdis rfl | exact hf.elim | exact hf'.elim | exact apart b hf hf' | exact apart b hf' hf
  · obtain ⟨rfl, rfl⟩ := lk1 hy
    refine ⟨_, hl, fun v hv => ?_⟩
    obtain ⟨A, n, cap, vs, f1, f2, f3, f4⟩ := hv.nst_
    rw [e0] at f2
    have f5 : h.v :: z.map (·.1.v) = Value.slice A n cap :: vs := by simpa using f2
    rw [f1]
    exact .own (e2.trans (List.cons.inj f5).1) f3 f4
/-- a nest is closed -/
theorem Gh.close {ts : Ts} {os : Os} (t j k id : Nat) {sz e isz ie : Nat} {ls : List (List AV)} {li : List (Hd × List (List AV))} (z : List (Hd × List AV × List (List AV))) (hl : lk ts t = some (.own j)) (hj : lk os j = some (.row sz ls e)) (hk : lk os k = some (.pins isz li ie)) (h1 : ls = nOut z) (h2 : li = nIn z)
    {l : List (List AV × List (List AV))} (h3 : z.map (·.2) = l) (hn1 : Nat.beq j k = false) (hn2 : Nat.beq j id = false) (hn3 : Nat.beq k id = false) (hf1 : freshTs [id] ts = true) (hf2 : freshOs [id] [(id, .nest sz e isz ie l), (j, .gone), (k, .gone)] os = true) :
    Gh Γ ts os (fun _ : Unit => (t, .nst id) :: ts) (fun _ => (id, .nest sz e isz ie l) :: (j, .gone) :: (k, .gone) :: os) := by
  have hn1 := beq_ne hn1
  have hn2 := beq_ne hn2
  have hn3 := beq_ne hn3
  subst h1 h2
  refine Gh.of (need := [(j, .row sz (nOut z) e), (k, .pins isz (nIn z) ie)]) (upd := fun _ => [(id, .nest sz e isz ie l), (j, .gone), (k, .gone)]) (ex := fun _ => [(t, .nst id)]) (news := [id]) ⟨hj, hk, trivial⟩ hf1 (fun _ => hf2) (fun _ => by simp [lk_cons]) fun c w hok _ => ?_
  have lj : lk [(j, Obj.row sz (nOut z) e), (k, .pins isz (nIn z) ie)] j = some (.row sz (nOut z) e) := lk_self _ _ _
  have lkk : lk [(j, Obj.row sz (nOut z) e), (k, .pins isz (nIn z) ie)] k = some (.pins isz (nIn z) ie) := by rw [lk_ne _ _ hn1, lk_self]
  have rj : RowRep c.Φ w (c.hd j) sz (nOut z) e := hok.rep j _ lj
  have rk : PinsRep c.Φ w isz (nIn z) ie := hok.rep k _ lkk
  obtain ⟨h, e1, -⟩ := rj.hdr
  have e2 : (c.setHd id (.tuple (h.v :: z.map (·.1.v)).toArray)).hd id = .tuple (h.v :: z.map (·.1.v)).toArray := by simp [Ctx.setHd]
  refine ⟨(), c.setHd id (.tuple (h.v :: z.map (·.1.v)).toArray), Post.same hok rfl (fun i hi => ⟨rfl, by simp [Ctx.setHd, show i ≠ id by simpa using hi]⟩) (fun i o hl => ?_) (fun i o b hl hf => ?_) (fun i i' o o' b hdis hl hl' hf hf' => ?_), fun t' y hy => ?_⟩
  · rcases lk3 hl with ⟨rfl, rfl⟩ | ⟨_, rfl, rfl⟩ | ⟨_, _, rfl, rfl⟩
    · show NestRep _ w _ sz e isz ie l
      rw [e2]
      refine ⟨h, z, rfl, h3, e1 ▸ rj, rk, fun b p h1 h2 h3 => ?_⟩
      exact hok.sep j k _ _ b hn1 lj lkk (show (c.hd j).ownBlock = some b by rw [e1]; exact h1) ⟨(p.1, p.2.2), List.mem_map.2 ⟨p, h2, rfl⟩, h3⟩
    · trivial
    · trivial
  · rcases lk3 hl with ⟨rfl, rfl⟩ | ⟨_, rfl, rfl⟩ | ⟨_, _, rfl, rfl⟩
    · obtain ⟨v, hv, hb⟩ := hf
      rw [e2] at hv
      have hv' : v ∈ h.v :: z.map (·.1.v) := hv
      rcases List.mem_cons.1 hv' with rfl | hv'
      · exact ⟨j, _, lj, by rw [lk_ne _ _ (Ne.symm hn2), lk_self]; rfl, by show (c.hd j).ownBlock = _; rw [e1]; exact hb⟩
      · obtain ⟨p, hp, rfl⟩ := List.mem_map.1 hv'
        exact ⟨k, _, lkk, by rw [lk_ne _ _ (Ne.symm hn3), lk_ne _ _ hn1, lk_self]; rfl, ⟨(p.1, p.2.2), List.mem_map.2 ⟨p, hp, rfl⟩, hb⟩⟩
    · exact hf.elim
    · exact hf.elim
  · rcases lk3 hl with ⟨rfl, rfl⟩ | ⟨_, rfl, rfl⟩ | ⟨_, _, rfl, rfl⟩ <;> rcases lk3 hl' with ⟨rfl, rfl⟩ | ⟨_, rfl, rfl⟩ | ⟨_, _, rfl, rfl⟩ <;> first | exact hdis rfl | exact hf.elim | exact hf'.elim
  · obtain ⟨rfl, rfl⟩ := lk1 hy
    refine ⟨_, hl, fun v hv => ?_⟩
    obtain ⟨A, n, cap, f1, f2, f3, f4⟩ := hv.own_
    have f5 : h.v = .slice A n cap := e1.symm.trans f2
    rw [f1]
    exact .nst (vs := z.map (·.1.v)) (by rw [e2, f5]) f3 f4
/-- a nil slice that lies in a row is a row of its own without elements -/
theorem Gh.unnil {ts : Ts} {os : Os} (r i off j j' : Nat) {sz e isz ie : Nat} {ls : List (List AV)} {cs : List AV} (hr : lk os r = some (.row sz ls e)) (hi : ls[i]? = some cs) (ho : cs[off]? = some .nilsl) (hn1 : Nat.beq j j' = false) (hn2 : Nat.beq r j = false) (hn3 : Nat.beq r j' = false)
    (hf1 : freshTs [j, j'] ts = true) (hf2 : freshOs [j, j'] [(r, .row sz (ls.set i (cs.set off (.con (Hd.v ⟨none, 0, 0⟩)))) e), (j, .row isz [] ie), (j', .eqv j (Hd.v ⟨none, 0, 0⟩))] os = true) :
    Gh Γ ts os (fun _ : Unit => ts) (fun _ => (r, .row sz (ls.set i (cs.set off (.con (Hd.v ⟨none, 0, 0⟩)))) e) :: (j, .row isz [] ie) :: (j', .eqv j (Hd.v ⟨none, 0, 0⟩)) :: os) := by
  have hn1 := beq_ne hn1
  have hn2 := beq_ne hn2
  have hn3 := beq_ne hn3
  refine Gh.of (need := [(r, .row sz ls e)]) (upd := fun _ => [(r, .row sz (ls.set i (cs.set off (.con (Hd.v ⟨none, 0, 0⟩)))) e), (j, .row isz [] ie), (j', .eqv j (Hd.v ⟨none, 0, 0⟩))]) (ex := fun _ => []) (news := [j, j']) ⟨hr, trivial⟩ hf1 (fun _ => hf2) (fun _ => by simp [lk_cons, hn1, hn2, hn3]) fun c w hok _ => ?_
  obtain ⟨css, q1, q2, q3⟩ := hok.rep r _ (lk_self _ _ _)
  have e1 : (c.setHd j (Hd.v ⟨none, 0, 0⟩)).hd j = Hd.v ⟨none, 0, 0⟩ := by simp [Ctx.setHd]
  have e2 : (c.setHd j (Hd.v ⟨none, 0, 0⟩)).hd r = c.hd r := by simp [Ctx.setHd, hn2]
  have hnof : ∀ b, ((c.setHd j (Hd.v ⟨none, 0, 0⟩)).hd j).ownBlock = some b → False := fun b hb => by
    rw [e1] at hb
    cases hb
  refine ⟨(), c.setHd j (Hd.v ⟨none, 0, 0⟩), Post.same hok rfl (fun id hid => ⟨rfl, by simp [Ctx.setHd, show id ≠ j by rintro rfl; simp at hid]⟩) (fun id o hl => ?_) (fun id o b hl hf => ?_) (fun id id' o o' b hdis hl hl' hf hf' => ?_), fun t' y hy => (by cases hy)⟩
  · rcases lk3 hl with ⟨rfl, rfl⟩ | ⟨_, rfl, rfl⟩ | ⟨_, _, rfl, rfl⟩
    · show RowRep c.Φ w ((c.setHd j (Hd.v ⟨none, 0, 0⟩)).hd id) sz _ e
      rw [e2]
      refine ⟨css, q1, by simpa using q2, fun n us cs' hu hc => ?_⟩
      rw [List.getElem?_set] at hc
      split at hc
      · rename_i en
        subst en
        split at hc
        · cases hc
          have h0 := q3 i us cs hu hi
          obtain ⟨v, v1, v2⟩ := h0.get ho
          have hv : v = Hd.v ⟨none, 0, 0⟩ := by cases v2; rfl
          have hset := (Rds.of_rfs (c := c) h0).set off (v := v) (a := .con (Hd.v ⟨none, 0, 0⟩)) (by rw [hv]; exact .fz (.con _))
          have hus : us.set off v = us := by
            apply List.ext_getElem?
            intro k
            rw [List.getElem?_set]
            split
            · rename_i e4
              subst e4
              split
              · exact v1.symm
              · rw [List.getElem?_eq_none (by omega)]
            · rfl
          rw [hus] at hset
          exact hset.rfs (idss_nil.2 fun a ha => by
            rcases List.mem_or_eq_of_mem_set ha with h | h
            · exact idss_nil.1 h0.ids a h
            · rw [h]; rfl)
        · cases hc
      · exact q3 n us cs' hu hc
    · show RowRep c.Φ w ((c.setHd id (Hd.v ⟨none, 0, 0⟩)).hd id) isz [] ie
      rw [e1]
      exact ⟨[], ⟨.inl ⟨rfl, rfl⟩, by simp, by simp⟩, rfl, fun i us cs h => by simp at h⟩
    · exact e1
  · rcases lk3 hl with ⟨rfl, rfl⟩ | ⟨_, rfl, rfl⟩ | ⟨_, _, rfl, rfl⟩
    · exact ⟨id, _, lk_self _ _ _, by rw [lk_self]; rfl, by have : ((c.setHd j (Hd.v ⟨none, 0, 0⟩)).hd id).ownBlock = some b := hf; rw [e2] at this; exact this⟩
    · exact (hnof b hf).elim
    · exact hf.elim
  · rcases lk3 hl with ⟨rfl, rfl⟩ | ⟨_, rfl, rfl⟩ | ⟨_, _, rfl, rfl⟩ <;> rcases lk3 hl' with ⟨rfl, rfl⟩ | ⟨_, rfl, rfl⟩ | ⟨_, _, rfl, rfl⟩ <;> first | exact hdis rfl | exact hf.elim | exact hf'.elim | exact hnof b hf | exact hnof b hf'
/-- a slice is nil, or it is not -/
theorem Gh.nil {ts : Ts} {os : Os} (t : Nat) {sz : Nat} {ls : List (List AV)} (hl : lk ts t = some (.sl sz ls)) : Gh Γ ts os (fun b : { b : Bool // b = true → ls = [] } => (t, .slb b.1) :: ts) (fun _ => os) := by
  rintro a w ⟨c, ⟨h1, h2, h3, h4, h5⟩, h6⟩
  obtain ⟨v, g1, g2⟩ := h3 t _ hl
  obtain ⟨A, k, us, b, o, e1, e2, e3, e4, _⟩ := g2.sl_
  have hb : Rd c w v (.slb A.isNone) := by rw [e1]; exact .fz (.slb _ _ _)
  refine ⟨⟨A.isNone, fun hn => ?_⟩, c, ⟨h1, h2, fun t' x hx => ?_, h4, h5⟩, h6⟩
  · cases ls with
    | nil => rfl
    | cons p r =>
      rw [(e4 (by simp)).1] at hn
      cases hn
  · rw [lk_cons] at hx
    split at hx
    · rename_i e; subst e; cases hx
      exact ⟨v, g1, hb⟩
    · exact h3 t' x hx
/-- a header that was laid into a row -/
theorem Gh.rowx {ts : Ts} {os : Os} (j0 j' : Nat) {sz e i off x : Nat} {ls : List (List AV)} (hj : lk os j0 = some (.rowx sz ls e i off x)) (hne : Nat.beq j0 j' = false) (hf1 : freshTs [j'] ts = true) (hf2 : ∀ h : Hd, freshOs [j'] [(j0, .row sz (patch ls i off (.con h.v)) e), (j', .eqv x h.v)] os = true) (hx : Nat.beq x j' = false) :
    Gh Γ ts os (fun _ : Hd => ts) (fun h => (j0, .row sz (patch ls i off (.con h.v)) e) :: (j', .eqv x h.v) :: os) := by
  have hne := beq_ne hne
  have hx := beq_ne hx
  refine Gh.of (need := [(j0, .rowx sz ls e i off x)]) (upd := fun h : Hd => [(j0, .row sz (patch ls i off (.con h.v)) e), (j', .eqv x h.v)]) (ex := fun _ => []) (news := [j']) ⟨hj, trivial⟩ hf1 hf2 (fun _ => by simp [lk_cons, hne]) fun c w hok _ => ?_
  obtain ⟨v, h1, h2⟩ := hok.rep j0 _ (lk_self _ _ _)
  obtain ⟨A, n, cap, e1, e2, -⟩ := h1.own_
  refine ⟨⟨A, n, cap⟩, c, Post.same hok rfl (fun _ _ => ⟨rfl, rfl⟩) (fun id o hl => ?_) (fun id o b hl hf => ?_) (fun id id' o o' b hdis hl hl' hf hf' => ?_), fun t' y hy => (by cases hy)⟩
  · rcases lk2 hl with ⟨rfl, rfl⟩ | ⟨_, rfl, rfl⟩
    · rw [e1] at h2; exact h2
    · exact e2
  · rcases lk2 hl with ⟨rfl, rfl⟩ | ⟨_, rfl, rfl⟩
    · exact ⟨id, _, lk_self _ _ _, by rw [lk_self]; rfl, hf⟩
    · exact hf.elim
  · rcases lk2 hl with ⟨rfl, rfl⟩ | ⟨_, rfl, rfl⟩ <;> rcases lk2 hl' with ⟨rfl, rfl⟩ | ⟨_, rfl, rfl⟩ <;> first | exact hdis rfl | exact hf.elim | exact hf'.elim
/-- a box is frozen that a slot points to -/
theorem Gh.fzBox {ts : Ts} {os : Os} (t id : Nat) {cs : List AV} {e : Nat} (hl : lk ts t = some (.ptr id 0)) (hid : lk os id = some (.box cs e)) (hc : AV.idss cs = []) : Gh Γ ts os (fun _ : Unit => (t, .fp cs) :: ts) (fun _ => (id, .gone) :: os) :=
  Gh.of (need := [(id, .box cs e)]) (upd := fun _ => [(id, .gone)]) (ex := fun _ => [(t, .fp cs)]) (news := []) ⟨hid, trivial⟩ rfl (fun _ => rfl) (fun _ => rfl) fun c w hok _ => ⟨(), c.fz [(id, .box cs e)], Post.freeze hok, fun t' y hy => by
    obtain ⟨rfl, rfl⟩ := lk1 hy
    refine ⟨_, hl, fun v hv => ?_⟩
    obtain ⟨us, u1, u2⟩ := hok.rep id _ (lk_self _ _ _)
    rw [hv.ptr_]
    refine .fz (.fp (us := us) (.inr ⟨id, _, lk_self _ _ _, rfl⟩) (fun j u hj => ?_) (Rfs.mono (fun _ _ => rfl) (fun b hb => .inl hb) (Rds.rfs hc u2)))
    unfold World.cell?
    simp only [Nat.zero_add, u1]
    simpa using hj⟩
end
end Go.Proofs.Ytioalgofaiideaa
