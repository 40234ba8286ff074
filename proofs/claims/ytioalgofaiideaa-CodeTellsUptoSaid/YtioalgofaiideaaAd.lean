/- THE WALK OVER READINGS: regions, branches, loops, a whole function's contract. No program in sight; types are told by the table. -/
import Derived.Test.YtioalgofaiideaaAc
namespace Go.Proofs.Ytioalgofaiideaa
open Go.RowKit
set_option linter.unusedVariables false

theorem bsel_dec {p : Prop} [Decidable p] {X Y : Prop} (h1 : p → X) (h2 : ¬ p → Y) : bsel (decide p) X Y := by
  by_cases h : p
  · rw [decide_eq_true h]; exact h1 h
  · rw [decide_eq_false h]; exact h2 h
theorem bsel_ndec {p : Prop} [Decidable p] {X Y : Prop} (h1 : ¬ p → X) (h2 : p → Y) : bsel (!decide p) X Y := by
  by_cases h : p
  · rw [decide_eq_true h]; exact h2 h
  · rw [decide_eq_false h]; exact h1 h
theorem bsel_b {b : Bool} {X Y : Prop} (h1 : b = true → X) (h2 : b = false → Y) : bsel b X Y := by
  cases b
  · exact h2 rfl
  · exact h1 rfl
def freshTs (nw : List Nat) (ts : Ts) : Bool := match nw with
  | [] => true
  | _ => ts.all fun p => freshIn nw p.2.ids
def freshOs (nw : List Nat) (up os : Os) : Bool := match nw with
  | [] => true
  | _ => nw.all (fun i => Nat.blt i top) && os.all fun p => (lk up p.1).isSome || freshIn nw p.2.ids
def dstOk (n : Nat) : Option Tmp → Bool
  | none => true
  | some d => Nat.blt d n
def putT : Option Tmp → AV → Ts → Ts
  | none, _, ts => ts
  | some d, av, ts => (d, av) :: ts
def dOf : Option Tmp → Nat
  | none => 0
  | some d => d
/-- the same, reckoned first -/
def force (a : AV) (K : AV → Prop) : Prop :=
  match a with
  | .any => K .any
  | .int n => K (.int n)
  | .ik k n => K (.ik k n)
  | .bool b => K (.bool b)
  | .str s => K (.str s)
  | .sl sz ls => K (.sl sz ls)
  | .ptr id off => K (.ptr id off)
  | .fp cs => K (.fp cs)
  | .own id => K (.own id)
  | .osl id n => K (.osl id n)
  | .ep id i sz off => K (.ep id i sz off)
  | .fn f cs => K (.fn f cs)
  | .agg cs => K (.agg cs)
  | .tup cs => K (.tup cs)
  | .nilsl => K .nilsl
  | .slb b => K (.slb b)
  | .nilp => K .nilp
  | .nilf => K .nilf
  | .mp id => K (.mp id)
  | .nst id => K (.nst id)
  | .con v => K (.con v)
theorem force_eq (a : AV) (K : AV → Prop) : force a K ↔ K a := by cases a <;> exact Iff.rfl
def appK : Os → Os → (Os → Prop) → Prop
  | [], os, K => K os
  | (k, o) :: r, os, K => appK r os fun x => K ((k, o) :: x)
theorem appK_eq : ∀ (up os : Os) (K : Os → Prop), appK up os K ↔ K (up ++ os)
  | [], _, _ => Iff.rfl
  | (k, o) :: r, os, K => by rw [appK, appK_eq r os]; rfl
def forceT : Ts → (Ts → Prop) → Prop
  | [], K => K []
  | (k, a) :: r, K => forceT r fun x => K ((k, a) :: x)
theorem forceT_eq : ∀ (ts : Ts) (K : Ts → Prop), forceT ts K ↔ K ts
  | [], _ => Iff.rfl
  | (k, a) :: r, K => by rw [forceT, forceT_eq r]
/-- what a guard reads -/
def guardB (ops : List Oper) (ts : Ts) (j : Nat) : Option Bool :=
  match ops[j]? with
  | some o => match o.dst with
    | some d => match lk ts d with
      | some (.bool b) => some b
      | _ => none
    | none => none
  | none => none
/-- the guard's own operation was passed over -/
def guardU (ops : List Oper) (ts : Ts) (j : Nat) : Bool :=
  match ops[j]? with
  | some o => match o.dst with
    | some d => match lk ts d with
      | some (.tup []) => true
      | _ => false
    | none => false
  | none => false
def guardK (ops : List Oper) (o : Oper) (ts : Ts) (X Y : Prop) : Prop :=
  match o.guard with
  | none => X
  | some (j, true) => match guardU ops ts j with
    | true => Y
    | false => match guardB ops ts j with
      | some b => bsel b X Y
      | none => False
  | some (j, false) => match guardU ops ts j with
    | true => Y
    | false => match guardB ops ts j with
      | some b => bsel b Y X
      | none => False
/-- A REGION's OPERATIONS IN A ROW -/
def vcOps (P : Program) (tab : Tab) (et : EqTab) (n : Nat) (ops : List Oper) : List Oper → Ts → Os → (Ts → Os → Prop) → Prop
  | [], ts, os, K => K ts os
  | o :: rest, ts, os, K => match o.dst with
    | some d => match Nat.blt d n with
      | true => guardK ops o ts
        (stepOp P tab et d o.op (evO ts) os fun av _ nw up => match freshTs nw ts && freshOs nw up os with
          | true => force av fun av => appK up os fun os => vcOps P tab et n ops rest ((d, av) :: ts) os K
          | false => False)
        (vcOps P tab et n ops rest ((d, .tup []) :: ts) os K)
      | false => False
    | none => guardK ops o ts
      (stepOp P tab et 0 o.op (evO ts) os fun av _ nw up => match freshTs nw ts && freshOs nw up os with
        | true => appK up os fun os => vcOps P tab et n ops rest ts os K
        | false => False)
      (vcOps P tab et n ops rest ts os K)

section
variable {P : Program} {tab : Tab} {et : EqTab} {Γ : Fun}
theorem TsOk.put {c c' : Ctx} {w w' : World} {ts : Ts} {a : Act} {need upd : Os} {news : List Nat} {v : Value} {av : AV} {dst : Option Tmp} (h : TsOk c w ts a) (hn : HOk c w need) (hp : Post c w c' w' need upd news) (hf : ∀ t x, lk ts t = some x → ∀ id ∈ news, id ∉ x.ids)
    (hv : Rd c' w' v av) (hd : dstOk a.tmps.size dst = true) : TsOk c' w' (putT dst av ts) (a.put dst v) := by
  cases dst with
  | none =>
    intro t x hl
    obtain ⟨u, h1, h2⟩ := h t x hl
    exact ⟨u, h1, h2.post hp hn (hf t x hl)⟩
  | some d =>
    intro t x hl
    have hdl : d < a.tmps.size := Nat.le_of_ble_eq_true hd
    simp only [putT, lk_cons] at hl
    by_cases hdt : d = t
    · rw [if_pos hdt] at hl
      cases hl
      subst hdt
      exact ⟨v, by simp [Act.put, hdl], hv⟩
    · rw [if_neg hdt] at hl
      obtain ⟨u, h1, h2⟩ := h t x hl
      exact ⟨u, by simp [Act.put, Array.getElem?_setIfInBounds_ne hdt, h1], h2.post hp hn (hf t x hl)⟩
theorem freshTs_spec {nw : List Nat} {ts : Ts} (h : freshTs nw ts = true) : ∀ t x, lk ts t = some x → ∀ id ∈ nw, id ∉ x.ids := by
  intro t x hl id hid
  unfold freshTs at h
  split at h
  · cases hid
  · exact freshIn_spec (List.all_eq_true.1 h _ (lk_mem hl)) id hid
theorem freshOs_spec {nw : List Nat} {up os : Os} (h : freshOs nw up os = true) : (∀ id o, lk os id = some o → lk up id = none → ∀ x ∈ nw, x ∉ o.ids) ∧ ∀ x ∈ nw, x < top := by
  unfold freshOs at h
  split at h
  · exact ⟨fun _ _ _ _ _ h => (by cases h), fun _ h => (by cases h)⟩
  · simp only [Bool.and_eq_true] at h
    refine ⟨fun id o hl hu x hx => ?_, fun x hx => ?_⟩
    · have := List.all_eq_true.1 h.2 _ (lk_mem hl)
      simp only [hu, Option.isSome_none, Bool.false_or] at this
      exact freshIn_spec this x hx
    · exact Nat.le_of_ble_eq_true (List.all_eq_true.1 h.1 x hx)
/-- the objects that came in lie where they lay -/
def Same (Γ : Fun) (c : Ctx) : Prop := ∀ id, top ≤ id → c.μ id = Γ.c.μ id ∧ c.hd id = Γ.c.hd id
structure RelF (Γ : Fun) (ts : Ts) (os : Os) (c : Ctx) (a : Act) (w : World) : Prop where
  rel : RelC Γ ts os c a w
  same : Same Γ c
def RelG (Γ : Fun) (ts : Ts) (os : Os) (a : Act) (w : World) : Prop := ∃ c, RelF Γ ts os c a w

theorem Goes.inst {r : Result Next} {R : Value → World → Prop} (h : Goes P r R) : ∃ v w, R v w := by
  unfold Goes at h
  split at h
  · exact ⟨_, _, h⟩
  · exact ⟨_, _, h⟩
  · obtain ⟨e, w', fr, ⟨v, _, hr⟩, _⟩ := h []
    exact ⟨v, w', hr⟩
  · exact h.elim

theorem guardB_spec {c : Ctx} {w : World} {ops : List Oper} {ts : Ts} {a : Act} {j : Nat} {b : Bool} (h : TsOk c w ts a) (hg : guardB ops ts j = some b) : yielded ops.toArray a.tmps j = some b := by
  unfold guardB at hg
  split at hg
  · rename_i o ho
    split at hg
    · rename_i d hd
      split at hg
      · rename_i b' hb
        cases hg
        obtain ⟨v, h1, h2⟩ := h d _ hb
        rw [h2.bool_] at h1
        unfold yielded
        simp [ho, hd, h1]
      · cases hg
    · cases hg
  · cases hg
theorem guardU_spec {c : Ctx} {w : World} {ops : List Oper} {ts : Ts} {a : Act} {j : Nat} (h : TsOk c w ts a) (hg : guardU ops ts j = true) : yielded ops.toArray a.tmps j = none := by
  unfold guardU at hg
  split at hg
  · rename_i o ho
    split at hg
    · rename_i d hd
      split at hg
      · rename_i hb
        obtain ⟨v, h1, h2⟩ := h d _ hb
        obtain ⟨us, rfl, _⟩ := h2.tup_
        unfold yielded
        simp [ho, hd, h1]
      · cases hg
    · cases hg
  · cases hg
theorem guardK_way {c : Ctx} {w : World} {ops : List Oper} {o : Oper} {ts : Ts} {a : Act} {X Y : Prop} (h : TsOk c w ts a) (hg : guardK ops o ts X Y) : (Region.wanted o (yielded ops.toArray a.tmps) = true ∧ X) ∨ (Region.wanted o (yielded ops.toArray a.tmps) = false ∧ Y) := by
  unfold guardK at hg
  unfold Region.wanted
  split at hg
  · rename_i hn
    rw [hn]
    exact .inl ⟨rfl, hg⟩
  · rename_i j hn
    rw [hn]
    split at hg
    · rename_i hu
      have := guardU_spec h hu
      exact .inr ⟨by simp [this], hg⟩
    split at hg
    · rename_i b hb
      have := guardB_spec h hb
      cases b
      · exact .inr ⟨by simp [this], hg⟩
      · exact .inl ⟨by simp [this], hg⟩
    · exact hg.elim
  · rename_i j hn
    rw [hn]
    split at hg
    · rename_i hu
      have := guardU_spec h hu
      exact .inr ⟨by simp [this], hg⟩
    split at hg
    · rename_i b hb
      have := guardB_spec h hb
      cases b
      · exact .inl ⟨by simp [this], hg⟩
      · exact .inr ⟨by simp [this], hg⟩
    · exact hg.elim

theorem put_size (a : Act) (dst : Option Tmp) (v : Value) : (a.put dst v).tmps.size = a.tmps.size := by cases dst <;> simp [Act.put]
theorem put_defers (a : Act) (dst : Option Tmp) (v : Value) : (a.put dst v).defers = a.defers := by cases dst <;> simp [Act.put]
/-- one operation that is carried out -/
theorem step_rel {o : Oper} {ts : Ts} {os : Os} {a : Act} {w : World} {K : Kt} (h : Ans P o (evO ts) os K) (hr : RelG Γ ts os a w)
    {K' : Act → World → Prop} {Q : Exit → Act → World → Prop} (hK : ∀ av rd nw up, K av rd nw up → (∀ v w' c', freshTs nw ts = true → freshOs nw up os = true → dstOk Γ.n o.dst = true → RelF Γ (putT o.dst av ts) (up ++ os) c' (a.put o.dst v) w' → K' (a.put o.dst v) w') ∧ freshTs nw ts = true ∧ freshOs nw up os = true ∧ dstOk Γ.n o.dst = true) :
    o.wp P a w K' Q := by
  obtain ⟨c, ⟨hd, hn, hts, hok, hinv⟩, hsame⟩ := hr
  have hev : ∀ x ∈ o.op.operands.toList, Rd c w (a.eval x) (evO ts x) := fun x _ => evO_rd hts x
  obtain ⟨av, need, upd, news, htri, hneed, hnews, hKK⟩ := h ⟨c, w, a.eval, hok, hev⟩
  obtain ⟨hcont, f1, f2, f3⟩ := hK _ _ _ _ hKK
  have hgo := htri c w a.eval (hok.sub hneed) hev
  unfold Oper.wp
  refine hgo.upon fun v w' ⟨c', hp, hv⟩ => ?_
  obtain ⟨g1, g2⟩ := freshOs_spec f2
  refine hcont v w' c' f1 f2 f3 ⟨⟨by rw [put_defers]; exact hd, by rw [put_size]; exact hn, hts.put (hok.sub hneed) hp (freshTs_spec f1) hv (by rw [hn]; exact f3), hok.frame hneed hp hnews g1, hinv.post hok hneed hp hnews⟩, fun id hid => ?_⟩
  have hno : id ∉ news := fun hm => by have := g2 id hm; omega
  have h1 := hp.ctx id hno
  have h2 := hsame id hid
  exact ⟨h1.1.trans h2.1, h1.2.trans h2.2⟩
theorem skip_rel {o : Oper} {ts : Ts} {os : Os} {a : Act} {w : World} (hr : RelG Γ ts os a w) (hd : dstOk Γ.n o.dst = true) : RelG Γ (putT o.dst (.tup []) ts) os (a.put o.dst undef) w := by
  obtain ⟨c, ⟨h1, h2, h3, h4, h5⟩, h6⟩ := hr
  exact ⟨c, ⟨by rw [put_defers]; exact h1, by rw [put_size]; exact h2, h3.put (need := []) (upd := []) (news := []) (h4.sub fun _ _ h => by cases h) (Post.refl h4.phi) (fun _ _ _ _ h => by cases h) (Rd.tup (us := []) .nil) (by rw [h2]; exact hd), h4, h5⟩, h6⟩
theorem vcOps_app (hT : TabOk P tab) (hE : EqTabOk P et) {ops : List Oper} {Q : Exit → Act → World → Prop} {l2 : List Oper} : ∀ (l : List Oper) (ts : Ts) (os : Os) (K : Ts → Os → Prop) (a : Act) (w : World), vcOps P tab et Γ.n ops l ts os K → RelG Γ ts os a w →
    (∀ ts' os' a' w', K ts' os' → RelG Γ ts' os' a' w' → wpList P ops.toArray Q l2 a' w') → wpList P ops.toArray Q (l ++ l2) a w
  | [], ts, os, K, a, w, h, hr, hQ => hQ ts os a w h hr
  | o :: rest, ts, os, K, a, w, h, hr, hQ => by
    obtain ⟨c, hrel⟩ := hr
    have hrg : RelG Γ ts os a w := ⟨c, hrel⟩
    rw [List.cons_append]
    unfold wpList
    unfold vcOps at h
    split at h
    · rename_i d hd
      split at h
      · rename_i hdl
        rcases guardK_way hrel.rel.ts h with ⟨hw, h⟩ | ⟨hw, h⟩
        · rw [if_pos hw]
          refine .inl (step_rel (step_ok hT hE _ h) hrg fun av rd nw up hk => ?_)
          split at hk
          · rename_i hb
            simp only [Bool.and_eq_true] at hb
            rw [force_eq, appK_eq] at hk
            refine ⟨fun v w' c' _ _ _ hR => vcOps_app hT hE rest _ _ K _ _ hk ⟨c', by rw [hd] at hR ⊢; exact hR⟩ hQ, hb.1, hb.2, by rw [hd]; exact hdl⟩
          · exact hk.elim
        · rw [if_neg (by rw [hw]; simp)]
          have := skip_rel (o := o) hrg (by rw [hd]; exact hdl)
          exact vcOps_app hT hE rest _ _ K _ _ h (by rw [hd] at this ⊢; exact this) hQ
      · exact h.elim
    · rename_i hd
      rcases guardK_way hrel.rel.ts h with ⟨hw, h⟩ | ⟨hw, h⟩
      · rw [if_pos hw]
        refine .inl (step_rel (step_ok hT hE _ h) hrg fun av rd nw up hk => ?_)
        split at hk
        · rename_i hb
          simp only [Bool.and_eq_true] at hb
          rw [appK_eq] at hk
          refine ⟨fun v w' c' _ _ _ hR => vcOps_app hT hE rest _ _ K _ _ hk ⟨c', by rw [hd] at hR ⊢; exact hR⟩ hQ, hb.1, hb.2, by rw [hd]; rfl⟩
        · exact hk.elim
      · rw [if_neg (by rw [hw]; simp)]
        have := skip_rel (o := o) hrg (by rw [hd]; rfl)
        exact vcOps_app hT hE rest _ _ K _ _ h (by rw [hd] at this ⊢; exact this) hQ

theorem vcOps_ok (hT : TabOk P tab) (hE : EqTabOk P et) {ops : List Oper} {Q : Exit → Act → World → Prop} (l : List Oper) (ts : Ts) (os : Os) (K : Ts → Os → Prop) (a : Act) (w : World) (h : vcOps P tab et Γ.n ops l ts os K) (hr : RelG Γ ts os a w)
    (hQ : ∀ ts' os' a' w', K ts' os' → RelG Γ ts' os' a' w' → Q .normal a' w') : wpList P ops.toArray Q l a w := by
  have := vcOps_app hT hE (l2 := []) l ts os K a w h hr fun ts' os' a' w' hk hr' => hQ ts' os' a' w' hk hr'
  rwa [List.append_nil] at this

/-! ### code -/
inductive Ex : Type where
  | normal
  | exit (id : Nat)
  | ret
def exM : Exit → Ex → Prop
  | .normal, .normal => True
  | .exit i, .exit j => i = j
  | .ret, .ret => True
  | _, _ => False
abbrev Qt := Ex → Ts → Os → Prop
/-- WHAT IS TO BE SHOWN OF A PIECE OF CODE -/
structure COk (P : Program) (Γ : Fun) (c : Code) (ts : Ts) (os : Os) (Q : Qt) : Prop where
  run : ∀ a w, RelG Γ ts os a w → c.wp P (fun e a' w' => ∃ ex ts' os', exM e ex ∧ Q ex ts' os' ∧ RelG Γ ts' os' a' w') a w

def vcC (P : Program) (tab : Tab) (et : EqTab) (Γ : Fun) (n : Nat) : Code → Ts → Os → Qt → Prop
  | .skip, ts, os, Q => Q .normal ts os
  | .seq x y, ts, os, Q => vcC P tab et Γ n x ts os fun e ts' os' => match e with
    | .normal => COk P Γ y ts' os' Q
    | .exit id => Q (.exit id) ts' os'
    | .ret => Q .ret ts' os'
  | .cond c x y, ts, os, Q => match evO ts c with
    | .bool b => bsel b (COk P Γ x ts os Q) (COk P Γ y ts os Q)
    | _ => False
  | .block id c, ts, os, Q => vcC P tab et Γ n c ts os fun e ts' os' => match e with
    | .normal => Q .normal ts' os'
    | .exit id' => match Nat.beq id' id with
      | true => Q .normal ts' os'
      | false => Q (.exit id') ts' os'
    | .ret => Q .ret ts' os'
  | .loop c, ts, os, Q => COk P Γ (.loop c) ts os Q
  | .region id ops false, ts, os, Q => forceT ts fun ts => vcOps P tab et n ops.toList ops.toList ts os (Q .normal)
  | .region id ops true, ts, os, Q => COk P Γ (.region id ops true) ts os Q
  | .exit id, ts, os, Q => Q (.exit id) ts os
  | .ret, ts, os, Q => Q .ret ts os
  | _, _, _, _ => False

theorem COk.mono {c : Code} {ts : Ts} {os : Os} {Q Q' : Qt} (h : COk P Γ c ts os Q) (hq : ∀ e ts os, Q e ts os → Q' e ts os) : COk P Γ c ts os Q' :=
  ⟨fun a w hr => wp_mono (h.run a w hr) fun e a' w' ⟨ex, ts', os', h1, h2, h3⟩ => ⟨ex, ts', os', h1, hq _ _ _ h2, h3⟩⟩
theorem vcC_ok (hT : TabOk P tab) (hE : EqTabOk P et) : ∀ (c : Code) (ts : Ts) (os : Os) (Q : Qt), vcC P tab et Γ Γ.n c ts os Q → COk P Γ c ts os Q
  | .skip, ts, os, Q, h => ⟨fun a w hr => wp_skip ⟨.normal, ts, os, trivial, h, hr⟩⟩
  | .seq x y, ts, os, Q, h => by
    refine ⟨fun a w hr => wp_seq (wp_mono ((vcC_ok hT hE x ts os _ h).run a w hr) fun e a' w' ⟨ex, ts', os', h1, h2, h3⟩ => ?_)⟩
    cases e <;> cases ex <;> simp only [exM] at h1 <;> first | exact h1.elim | skip
    · exact h2.run a' w' h3
    · subst h1; exact ⟨.exit _, ts', os', rfl, h2, h3⟩
    · exact ⟨.ret, ts', os', trivial, h2, h3⟩
  | .cond c x y, ts, os, Q, h => by
    unfold vcC at h
    split at h
    · rename_i b hb
      refine ⟨fun a w hr => ?_⟩
      obtain ⟨cx, hrel⟩ := hr
      have hev := evO_rd hrel.rel.ts c
      rw [hb] at hev
      cases b
      · exact wp_cond_false hev.bool_ (h.run a w ⟨cx, hrel⟩)
      · exact wp_cond_true hev.bool_ (h.run a w ⟨cx, hrel⟩)
    · exact h.elim
  | .block id c, ts, os, Q, h => by
    refine ⟨fun a w hr => wp_block (wp_mono ((vcC_ok hT hE c ts os _ h).run a w hr) fun e a' w' ⟨ex, ts', os', h1, h2, h3⟩ => ?_)⟩
    match e, ex, h1, h2 with
    | .normal, .normal, _, h2 => exact ⟨.normal, ts', os', trivial, h2, h3⟩
    | .exit i, .exit j, h1, h2 =>
      have h1' : i = j := h1
      subst h1'
      simp only at h2
      split at h2
      · rename_i hb
        have he := Nat.eq_of_beq_eq_true hb
        simp only [Exit.inBlock, if_pos he]
        exact ⟨.normal, ts', os', trivial, h2, h3⟩
      · rename_i hb
        have hne : ¬ i = id := fun e => by rw [e] at hb; simp at hb
        simp only [Exit.inBlock, if_neg hne]
        exact ⟨.exit i, ts', os', rfl, h2, h3⟩
    | .ret, .ret, _, h2 => exact ⟨.ret, ts', os', trivial, h2, h3⟩
  | .loop c, ts, os, Q, h => h
  | .region id ops false, ts, os, Q, h => ⟨fun a w hr => wp_region_list (by
      have := vcOps_ok hT hE (Q := fun e a' w' => ∃ ex ts' os', exM e ex ∧ Q ex ts' os' ∧ RelG Γ ts' os' a' w') ops.toList ts os (Q .normal) a w ((forceT_eq ts _).1 h) hr fun ts' os' a' w' hq hr' => ⟨.normal, ts', os', trivial, hq, hr'⟩
      simpa using this)⟩
  | .region id ops true, ts, os, Q, h => h
  | .exit id, ts, os, Q, h => ⟨fun a w hr => wp_exit ⟨.exit id, ts, os, rfl, h, hr⟩⟩
  | .ret, ts, os, Q, h => ⟨fun a w hr => wp_ret ⟨.ret, ts, os, trivial, h, hr⟩⟩
  | .rangeFunc _ _ _ _, _, _, _, h => h.elim
  | .scope _, _, _, _, h => h.elim
  | .label _, _, _, _, h => h.elim
  | .goto _, _, _, _, h => h.elim
  | .refuse _, _, _, _, h => h.elim
end
end Go.Proofs.Ytioalgofaiideaa
