/- THE WALK OVER READINGS: rows begun, rows frozen; a function's contract out of its code. No program in sight. -/
import Derived.Test.YtioalgofaiideaaAe
namespace Go.Proofs.Ytioalgofaiideaa
open Go.RowKit
set_option linter.unusedVariables false

section
variable {P : Program} {tab : Tab} {et : EqTab} {Γ : Fun}
/-- something is done to objects, in the mind alone -/
theorem RelG.ghost {ts : Ts} {os need upd : Os} {news : List Nat} {a : Act} {w : World} (ex : Ts) (hr : RelG Γ ts os a w) (hneed : subP need os) (hf1 : freshTs news ts = true) (hf2 : freshOs news upd os = true) (hnews : (news.all fun i => (lk upd i).isSome) = true)
    (hp : ∀ c, HOk c w need → ∃ c', Post c w c' w need upd news ∧ ∀ t x, lk ex t = some x → ∃ y, lk ts t = some y ∧ ∀ v, Rd c w v y → Rd c' w v x) : RelG Γ (ex ++ ts) (upd ++ os) a w := by
  obtain ⟨c, ⟨h1, h2, h3, h4, h5⟩, h6⟩ := hr
  have hn := subP_spec hneed
  have hnw : ∀ id ∈ news, (lk upd id).isSome = true := fun id h => by simpa using List.all_eq_true.1 hnews id h
  obtain ⟨c', hpost, hex⟩ := hp c (h4.sub hn)
  obtain ⟨g1, g2⟩ := freshOs_spec hf2
  refine ⟨c', ⟨h1, h2, fun t x hl => ?_, h4.frame hn hpost hnw g1, h5.post h4 hn hpost hnw⟩, fun id hid => ?_⟩
  · rw [lk_append] at hl
    cases he : lk ex t with
    | some y =>
      rw [he] at hl
      simp at hl
      subst hl
      obtain ⟨z, hz, hzv⟩ := hex t y he
      obtain ⟨v, q1, q2⟩ := h3 t z hz
      exact ⟨v, q1, hzv v q2⟩
    | none =>
      rw [he] at hl
      simp at hl
      obtain ⟨v, q1, q2⟩ := h3 t x hl
      exact ⟨v, q1, q2.post hpost (h4.sub hn) (freshTs_spec hf1 t x hl)⟩
  · have hno : id ∉ news := fun hm => by have := g2 id hm; omega
    have q1 := hpost.ctx id hno
    have q2 := h6 id hid
    exact ⟨q1.1.trans q2.1, q1.2.trans q2.2⟩
theorem one_entry {t0 t : Nat} {x y : AV} (h : lk [(t0, x)] t = some y) : t = t0 ∧ y = x := by
  rw [lk_cons] at h
  split at h
  · rename_i e; cases h; exact ⟨e.symm, rfl⟩
  · cases h
/-- a nil slice is a row of one's own without elements -/
theorem RelG.nilrow {ts : Ts} {os : Os} (t id sz e : Nat) (hl : lk ts t = some .nilsl) (hf1 : freshTs [id] ts = true) (hf2 : freshOs [id] [(id, .row sz [] e)] os = true) {a : Act} {w : World} (hr : RelG Γ ts os a w) : RelG Γ ((t, .own id) :: ts) ((id, .row sz [] e) :: os) a w := by
  refine RelG.ghost (need := []) (upd := [(id, .row sz [] e)]) (news := [id]) [(t, .own id)] hr trivial hf1 hf2 (by simp [lk_self]) fun c hok => ⟨c.setHd id (.slice none 0 0), ?_, fun t' x hx => ?_⟩
  · have hm : (c.setHd id (.slice none 0 0)).hd id = .slice none 0 0 := by simp [Ctx.setHd]
    have hno : ∀ b, ¬ foot (c.setHd id (.slice none 0 0)) id (.row sz [] e) b := fun b hb => by
      have hb' : ((c.setHd id (.slice none 0 0)).hd id).ownBlock = some b := hb
      rw [hm] at hb'
      cases hb'
    refine ⟨rfl, rfl, rfl, Nat.le_refl _, fun _ h => h, fun _ h => .inl h, fun _ _ _ => rfl, fun i hi => ⟨rfl, by have : i ≠ id := (by simpa using hi); simp [Ctx.setHd, this]⟩, ⟨fun i o hl => ?_, fun i o b hl hf => ?_, fun i i' o o' b hne hl hl' hf => ?_, hok.phi⟩, fun i o b hl hf => ?_⟩ <;> rw [lk_cons] at hl <;> split at hl <;> first | (rename_i e1; subst e1; cases hl) | cases hl
    · exact ⟨[], by rw [hm]; exact ⟨.inl ⟨rfl, rfl⟩, by simp, by simp⟩, rfl, fun i us cs h => by simp at h⟩
    · exact absurd hf (hno b)
    · exact absurd hf (hno b)
    · exact absurd hf (hno b)
  · obtain ⟨rfl, rfl⟩ := one_entry hx
    exact ⟨_, hl, fun v hv => by rw [hv.nilsl_]; exact .own (n := 0) (cap := 0) (A := none) (by simp [Ctx.setHd]) (Nat.le_refl _) (by simp [maxLen])⟩
theorem COk.nilrow {c : Code} {ts : Ts} {os : Os} {Q : Qt} (t id sz e : Nat) (hl : lk ts t = some .nilsl) (hf1 : freshTs [id] ts = true) (hf2 : freshOs [id] [(id, .row sz [] e)] os = true) (h : COk P Γ c ((t, .own id) :: ts) ((id, .row sz [] e) :: os) Q) : COk P Γ c ts os Q :=
  ⟨fun a w hr => h.run a w (RelG.nilrow t id sz e hl hf1 hf2 hr)⟩
/-- a row is frozen: a slice that a slot holds -/
theorem COk.freeze {c : Code} {ts : Ts} {os : Os} {Q : Qt} (t id : Nat) {sz e : Nat} {ls : List (List AV)} (hl : lk ts t = some (.own id)) (hid : lk os id = some (.row sz ls e)) (h : COk P Γ c ((t, .sl sz ls) :: ts) ((id, .gone) :: os) Q) : COk P Γ c ts os Q := by
  refine ⟨fun a w hr => h.run a w (RelG.ghost (need := [(id, .row sz ls e)]) (upd := [(id, .gone)]) (news := []) [(t, .sl sz ls)] hr ⟨hid, trivial⟩ rfl rfl rfl fun c hok => ⟨c.fz [(id, .row sz ls e)], Post.freeze hok, fun t' x hx => ?_⟩)⟩
  obtain ⟨rfl, rfl⟩ := one_entry hx
  exact ⟨_, hl, fun v hv => own_fz hok (lk_self _ _ _) hv⟩
/-- a row is frozen: a slice that a box holds -/
theorem COk.freezeB {c : Code} {ts : Ts} {os : Os} {Q : Qt} (k off id : Nat) {sz e e2 : Nat} {ls : List (List AV)} {cs : List AV} (hk : lk os k = some (.box cs e2)) (hat : cs[off]? = some (.own id)) (hid : lk os id = some (.row sz ls e)) (hne : Nat.beq id k = false)
    (h : COk P Γ c ts ((k, .box (cs.set off (.sl sz ls)) e2) :: (id, .gone) :: os) Q) : COk P Γ c ts os Q := by
  have hne' : id ≠ k := fun e => by rw [e] at hne; simp at hne
  have hg : ∀ i o, lk [(id, Obj.row sz ls e)] i = some o → lk [(id, Obj.row sz ls e), (k, .box cs e2)] i = some o := fun i o h => by
    rw [lk_cons] at h ⊢
    split at h
    · rename_i e1; rw [if_pos e1]; exact h
    · cases h
  have hb : ∀ i o, lk [(k, Obj.box cs e2)] i = some o → lk [(id, Obj.row sz ls e), (k, .box cs e2)] i = some o := fun i o h => by
    rw [lk_cons] at h
    split at h
    · rename_i e1; rw [lk_ne _ _ (by omega), lk_cons, if_pos e1]; exact h
    · cases h
  refine ⟨fun a w hr => h.run a w (RelG.ghost (need := [(id, .row sz ls e), (k, .box cs e2)]) (upd := [(k, .box (cs.set off (.sl sz ls)) e2), (id, .gone)]) (news := []) [] hr ⟨hid, hk, trivial⟩ rfl rfl rfl fun c hok => ⟨c.fz [(id, .row sz ls e)], ?_, fun t' x hx => (by cases hx)⟩)⟩
  have p1 := (Post.freeze (hok.sub hg)).widen hg
  have okf : HOk (c.fz [(id, .row sz ls e)]) w [(k, .box cs e2)] := by
    have := hok.frame (fun _ _ h => h) p1 (fun _ h => (by cases h)) (fun _ _ _ _ _ h => (by cases h))
    refine this.sub fun i o h => ?_
    rw [lk_cons] at h
    split at h
    · rename_i e1
      cases h
      simp only [goneOf, List.cons_append, List.nil_append]
      rw [lk_ne _ _ (by omega), lk_ne _ _ (by omega), lk_cons, if_pos e1]
    · cases h
  obtain ⟨us, hu1, hu2⟩ := okf.rep k _ (lk_self _ _ _)
  have hu3 : Rds (c.fz [(id, .row sz ls e)]) w us (cs.set off (.sl sz ls)) := by
    obtain ⟨v, hv1, hv2⟩ := hu2.get hat
    have hv3 : Rd (c.fz [(id, .row sz ls e)]) w v (.sl sz ls) := by
      have hv4 : Rd c w v (.own id) := Rd.mono (c := c.fz [(id, .row sz ls e)]) (c' := { c with Φ := fzΦ c [(id, .row sz ls e)] }) (fun _ _ => rfl) (fun _ h => h) (fun _ _ => ⟨rfl, rfl⟩) hv2 |> fun h => by
        obtain ⟨A, n, cap, e1, e3, e4, e5⟩ := h.own_
        rw [e1]
        exact .own e3 e4 e5
      exact own_fz (hok.sub hg) (lk_self _ _ _) hv4
    have := hu2.set off hv3
    have hset : us.set off v = us := by
      apply List.ext_getElem?
      intro j
      rw [List.getElem?_set]
      split
      · rename_i e1
        subst e1
        split
        · exact hv1.symm
        · rw [List.getElem?_eq_none (by omega)]
      · rfl
    rwa [hset] at this
  have p2 := Post.write (w' := w) okf hu1 hu3 (fun _ _ => rfl) rfl rfl rfl rfl
  have := Post.trans hok p1 p2 (fun _ h => (by cases h)) (fun _ h => (by cases h)) (fun i o h => by
    rw [lk_cons] at h
    split at h
    · rename_i e1
      cases h
      simp only [goneOf, List.cons_append, List.nil_append]
      rw [lk_ne _ _ (by omega), lk_ne _ _ (by omega), lk_cons, if_pos e1]
    · cases h) (fun _ _ _ _ _ h => (by cases h)) (fun _ _ _ _ _ h => (by cases h))
  exact this

/-! ### a function's contract -/
def entry : Nat → List AV → Ts
  | _, [] => []
  | k, a :: l => (k, a) :: entry (k + 1) l
theorem entry_at : ∀ (l : List AV) (k t : Nat) (x : AV), lk (entry k l) t = some x → k ≤ t ∧ l[t - k]? = some x
  | [], k, t, x, h => by cases h
  | a :: l, k, t, x, h => by
    unfold entry at h
    rw [lk_cons] at h
    split at h
    · rename_i e; subst e; cases h; exact ⟨Nat.le_refl _, by simp⟩
    · obtain ⟨h1, h2⟩ := entry_at l (k + 1) t x h
      refine ⟨by omega, ?_⟩
      rw [show t - k = (t - (k + 1)) + 1 by omega]
      simpa using h2
def entryL : List AV → Ts
  | [] => []
  | [a] => [(0, a)]
  | [a, b] => [(0, a), (1, b)]
  | [a, b, c] => [(0, a), (1, b), (2, c)]
  | [a, b, c, d] => [(0, a), (1, b), (2, c), (3, d)]
  | [a, b, c, d, e] => [(0, a), (1, b), (2, c), (3, d), (4, e)]
  | [a, b, c, d, e, f] => [(0, a), (1, b), (2, c), (3, d), (4, e), (5, f)]
  | [a, b, c, d, e, f, g] => [(0, a), (1, b), (2, c), (3, d), (4, e), (5, f), (6, g)]
  | [a, b, c, d, e, f, g, h] => [(0, a), (1, b), (2, c), (3, d), (4, e), (5, f), (6, g), (7, h)]
  | l => entry 0 l
theorem entryL_eq (l : List AV) : entryL l = entry 0 l := by
  unfold entryL
  split <;> rfl
/-- what the results read as -/
def resA (tab : Tab) (ts : Ts) (os : Os) : List ResultVar → Option (List AV)
  | [] => some []
  | .tmp t :: r => match lk ts t, resA tab ts os r with
    | some a, some l => some (a :: l)
    | _, _ => none
  | .cell t ty :: r => match lk ts t, lk tab ty, resA tab ts os r with
    | some (.ptr id off), some ti, some l => match lk os id with
      | some (.box cs _) => match loadAV ti cs off with
        | some a => some (a :: l)
        | none => none
      | _ => none
    | _, _, _ => none
def outA : List AV → AV
  | [a] => a
  | l => .tup l
theorem resA_run (hT : TabOk P tab) {c : Ctx} {w : World} {ts : Ts} {os : Os} {a : Act} (hts : TsOk c w ts a) (hok : HOk c w os) : ∀ (l : List ResultVar) (r : List AV), resA tab ts os l = some r →
    ∃ vs : List Value, (l.mapM (fun x => match x with
          | ResultVar.tmp t => pure (a.tmps.getD t undef)
          | ResultVar.cell ad t => do loadVar t (← asAddr (a.tmps.getD ad undef)) : ResultVar → Sem Value)).run P w = .ok vs w ∧ Rds c w vs r
  | [], r, h => by cases h; exact ⟨[], by simp, .nil⟩
  | .tmp t :: l, r, h => by
    unfold resA at h
    split at h
    · rename_i x rl hx hrl
      cases h
      obtain ⟨vs, h1, h2⟩ := resA_run hT hts hok l rl hrl
      obtain ⟨v, h3, h4⟩ := hts t x hx
      refine ⟨v :: vs, ?_, .cons h4 h2⟩
      have hg : a.tmps.getD t undef = v := by simp [Array.getD_eq_getD_getElem?, h3]
      rw [List.mapM_cons]
      simp only [Sem.run_bind, Sem.run_pure, Result.andThen_ok, h1, hg]
    · cases h
  | .cell t ty :: l, r, h => by
    unfold resA at h
    split at h
    · rename_i id off ti rl hx hti hrl
      split at h
      · rename_i cs e hid
        split at h
        · rename_i x hld
          cases h
          obtain ⟨vs, h1, h2⟩ := resA_run hT hts hok l rl hrl
          obtain ⟨v, h3, h4⟩ := hts t _ hx
          obtain ⟨us, h5, h6⟩ := hok.rep id _ hid
          obtain ⟨y, h7, h8⟩ := loadAV_run (b := c.μ id) (p := 0) (hT ty ti hti) hld h6 (fun j u hj => by
            unfold World.cell?
            simp only [Nat.zero_add, h5]
            simpa using hj)
          rw [Nat.zero_add] at h7
          refine ⟨y :: vs, ?_, .cons h8 h2⟩
          rw [h4.ptr_] at h3
          simp only [Instr.loadAt, Instr.sureAddr, pure_bind] at h7
          have hg : a.tmps.getD t undef = .pointer (some ⟨c.μ id, off, none⟩) := by simp [Array.getD_eq_getD_getElem?, h3]
          rw [List.mapM_cons]
          have ha : ∀ x : Addr, asAddr (.pointer (some x)) = pure x := fun _ => rfl
          simp only [Sem.run_bind, Sem.run_pure, Result.andThen_ok, hg, ha, h7, h1]
        · cases h
      · cases h
    · cases h
def outV : List Value → Value
  | [v] => v
  | l => .tuple l.toArray
theorem outV_rd {c : Ctx} {w : World} : ∀ {vs : List Value} {r : List AV}, Rds c w vs r → Rd c w (outV vs) (outA r)
  | _, _, .nil => .tup .nil
  | _, _, .cons h .nil => h
  | _, _, .cons h (.cons k t) => .tup (.cons h (.cons k t))
theorem results_run {fn : Func} {tmps : Array Value} {w : World} {vs : List Value} (h : (fn.results.toList.mapM (fun x => match x with
          | ResultVar.tmp t => pure (tmps.getD t undef)
          | ResultVar.cell ad t => do loadVar t (← asAddr (tmps.getD ad undef)) : ResultVar → Sem Value)).run P w = .ok vs w) : (results fn tmps).run P w = .ok (outV vs) w := by
  unfold results
  rw [Array.mapM_eq_mapM_toList]
  simp only [Sem.run_bind, Sem.run_map, Sem.run_pure]
  refine Eq.trans (congrArg (fun r : Result (List Value) => (r.andThen fun a w' => Result.ok a.toArray w').andThen fun a w' => Result.ok (if h : a.size = 1 then a[0] else Value.tuple a) w') h) ?_
  simp only [Result.andThen_ok]
  congr 1
  cases vs with
  | nil => rfl
  | cons v vs => cases vs with
    | nil => rfl
    | cons u vs => rfl
/-- THE END: what the results read as, and what is left of objects, is what the contract says -/
structure Fin (tab : Tab) (rs : List ResultVar) (ts : Ts) (os : Os) (av : AV) (upd : Os) (news : List Nat) (rl : List (Nat × Nat)) (r : List AV) : Prop where
  res : resA tab ts os rs = some r
  out : leA (outA r) (av.ren (rn rl))
  obj : subO (rn rl) os upd
  inj : injB (rn rl) upd = true
  top : rnOk rl = true
  mem : (upd.all fun p => news.elem p.1 || Nat.ble Go.Proofs.Ytioalgofaiideaa.top p.1) = true
  ids : (av.ids.all fun i => (lk upd i).isSome) = true
  oids : (upd.all fun p => p.2.ids.all fun i => (lk upd i).isSome) = true
def FinAt (tab : Tab) (rs : List ResultVar) (av : AV) (upd : Os) (news : List Nat) : Qt := fun e ts os =>
  match e with
  | .exit _ => False
  | .normal => ∃ rl r, Fin tab rs ts os av upd news rl r
  | .ret => ∃ rl r, Fin tab rs ts os av upd news rl r
theorem Spec.of (hT : TabOk P tab) {f n : Nat} {fn : Func} {c : Code} (hf : P.funcs[f]? = some fn) (hb : fn.body = some c) (hn : fn.ntmps = n) (hc : callable P f = true) {need upd : Os} {ins : List AV} {av : AV} {news : List Nat}
    (hl : Nat.ble ins.length n = true) (hneed : (need.all fun p => Nat.ble top p.1 && (lk upd p.1).isSome) = true) (hnews : (news.all fun i => (lk upd i).isSome) = true)
    (h : ∀ Γ : Fun, Γ.n = n → COk P Γ c (entryL ins) need (FinAt tab fn.results.toList av upd news)) : Spec P f need ins av upd news := by
  refine ⟨hc, fun id hid => by simpa using List.all_eq_true.1 hnews id hid, fun cx w args hok hargs => calls_of_wp hf hb ?_⟩
  have hsz : args.size = ins.length := by simpa using hargs.length
  have hle := Nat.le_of_ble_eq_true hl
  let Γ : Fun := ⟨cx, w, need, n⟩
  have hrel : RelG Γ (entry 0 ins) need { tmps := args ++ Array.replicate (fn.ntmps - args.size) undef, defers := [] } w := by
    refine ⟨cx, ⟨rfl, ?_, fun t x hx => ?_, hok, ⟨rfl, rfl, rfl, Nat.le_refl _, fun _ h => h, fun _ h => .inl h, fun _ _ => rfl, fun id o b h1 h2 => .inr ⟨id, o, h1, h2⟩⟩⟩, fun _ _ => ⟨rfl, rfl⟩⟩
    · show (args ++ Array.replicate (fn.ntmps - args.size) undef).size = n
      rw [Array.size_append, Array.size_replicate, hn]
      omega
    · obtain ⟨_, h2⟩ := entry_at ins 0 t x hx
      rw [Nat.sub_zero] at h2
      obtain ⟨v, h3, h4⟩ := hargs.get h2
      refine ⟨v, ?_, h4⟩
      have h3' : args[t]? = some v := by simpa using h3
      have hlt : t < args.size := (Array.getElem?_eq_some_iff.1 h3').1
      show (args ++ Array.replicate (fn.ntmps - args.size) undef)[t]? = some v
      rw [Array.getElem?_append_left hlt, h3']
  rw [← entryL_eq] at hrel
  refine wp_mono ((h Γ rfl).run _ w hrel) fun e a' w' ⟨ex, ts', os', hm, hq, hrel'⟩ => ?_
  -- the end
  have fin : (∃ rl r, Fin tab fn.results.toList ts' os' av upd news rl r) → a'.defers = [] ∧ ∃ v, (results fn a'.tmps).run P w' = .ok v w' ∧ ∃ v_1 c', Ending.returned v = .returned v_1 ∧ Post cx w c' w' need upd news ∧ Rd c' w' v_1 av := by
    rintro ⟨rl, r, hfin⟩
    obtain ⟨c1, ⟨h1, h2, h3, h4, h5⟩, h6⟩ := hrel'
    obtain ⟨vs, g1, g2⟩ := resA_run hT h3 h4 fn.results.toList r hfin.res
    have hso := subO_spec hfin.obj
    have hu := h4.unren hfin.obj hfin.inj
    have hids : ∀ id o, lk upd id = some o → id ∈ news ∨ top ≤ id := fun id o hl => by
      have := List.all_eq_true.1 hfin.mem _ (lk_mem hl)
      simp only [Bool.or_eq_true] at this
      exact this.imp (fun h => by simpa using h) fun h => Nat.le_of_ble_eq_true h
    let c' : Ctx := { Φ := c1.Φ, μ := fun i => if (lk upd i).isSome then c1.μ (rn rl i) else cx.μ i, hd := fun i => if (lk upd i).isSome then c1.hd (rn rl i) else cx.hd i }
    have hc' : ∀ i, (lk upd i).isSome = true → c'.μ i = (c1.com (rn rl)).μ i ∧ c'.hd i = (c1.com (rn rl)).hd i := fun i hi => by simp [c', Ctx.com, hi]
    have hfoot : ∀ id o b, lk upd id = some o → (foot c' id o b ↔ foot (c1.com (rn rl)) id o b) := fun id o b hl => foot_ctx (hc' id (by rw [hl]; rfl))
    have own_touch : ∀ b, Γ.own b → w.heap.size ≤ b ∨ Touch cx need upd b := fun b hb => hb.imp (fun h => h) fun ⟨id, o, q1, q2⟩ => ⟨id, o, q1, by
      have := List.all_eq_true.1 hneed _ (lk_mem q1)
      simp only [Bool.and_eq_true] at this
      exact this.2, q2⟩
    have ids_of : ∀ l : List Nat, (l.all fun i => (lk upd i).isSome) = true → ∀ x ∈ l, c'.μ x = (c1.com (rn rl)).μ x ∧ c'.hd x = (c1.com (rn rl)).hd x := fun l hl x hx => hc' x (by simpa using List.all_eq_true.1 hl x hx)
    refine ⟨h1, outV vs, ?_, outV vs, c', rfl, ⟨h5.wos, h5.tape, h5.output, h5.size, h5.phi, fun b hb => ?_, fun b hb hnt => h5.keep b fun ho => ?_, fun id hid => ?_, ⟨fun id o hl => ?_, fun id o b hl hf => ?_, fun id id' o o' b hne hl hl' hf hf' => ?_, h4.phi⟩, fun id o b hl hf => ?_⟩, ?_⟩
    · exact results_run g1
    · exact (h5.phiNew b hb).imp (fun h => h) (own_touch b)
    · rcases own_touch b ho with h | h
      · exact absurd hb (Nat.not_lt.2 h)
      · exact hnt h
    · by_cases hs : (lk upd id).isSome = true
      · obtain ⟨o, ho⟩ := Option.isSome_iff_exists.1 hs
        rcases hids id o ho with hx | hx
        · exact absurd hx hid
        · have := h6 id hx
          rw [(hc' id hs).1, (hc' id hs).2]
          simpa [Ctx.com, rn_top hfin.top hx] using this
      · simp [c', hs]
    · exact (hu.rep id o hl).keep (hc' id (by rw [hl]; rfl)) (fun _ _ => rfl) (fun _ h => h) (fun _ _ => rfl) (ids_of _ (List.all_eq_true.1 hfin.oids _ (lk_mem hl)))
    · exact hu.lt id o b hl ((hfoot id o b hl).1 hf)
    · exact hu.sep id id' o o' b hne hl hl' ((hfoot id o b hl).1 hf) ((hfoot id' o' b hl').1 hf')
    · exact own_touch b (h5.feet _ _ b (hso id o hl) (foot_ren.1 ((hfoot id o b hl).1 hf)))
    · have q := (leA_rd hfin.out (outV_rd g2)).unren
      exact Rd.mono (c := c1.com (rn rl)) (c' := c') (fun _ _ => rfl) (fun _ h => h) (ids_of _ hfin.ids) q
  match e, ex, hm, hq with
  | .normal, .normal, _, hq => exact fin hq
  | .ret, .ret, _, hq => exact fin hq
end
end Go.Proofs.Ytioalgofaiideaa
