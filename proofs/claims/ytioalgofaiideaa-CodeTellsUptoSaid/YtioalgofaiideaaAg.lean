/- THE WALK OVER READINGS: a region that draws its order: one walk in the text's order serves every order. No program in sight. -/
import Derived.Test.YtioalgofaiideaaAf
import Derived.Orders
import Derived.Still
namespace Go.Proofs.Ytioalgofaiideaa
open Go.RowKit
set_option linter.unusedVariables false

/-- an operation waits for another one -/
def waits (o : Oper) (i : Nat) : Bool := o.after.toList.any fun e => Region.binds .any e && Nat.beq e.on i
/-- .. for it, or for one that waits for it -/
def waits2 (ops : List Oper) (o : Oper) (i : Nat) : Bool := waits o i || ops.zipIdx.any fun p => waits o p.2 && waits p.1 i
theorem waits2_of {ops : List Oper} {o : Oper} {i : Nat} (h : waits o i = true) : waits2 ops o i = true := by unfold waits2; rw [h]; rfl
def readsOf (ops : List Oper) (o : Oper) : List Nat :=
  (o.op.operands.toList.filterMap fun | .tmp t => some t | _ => none) ++
  (match o.guard with
   | some (g, _) => match ops[g]? with
     | some x => x.dst.toList
     | none => []
   | none => [])
/-- two operations that one may not exchange -/
def clash (ops : List Oper) (x y : Oper) : Bool :=
  (match x.dst with
   | some d => (readsOf ops y).elem d || (y.dst == some d)
   | none => false) ||
  (match y.dst with
   | some d => (readsOf ops x).elem d
   | none => false)
/-- A CLOSED FACT on a region: its edges lead back; what clashes waits; no operation is a select -/
def drawOk (ops : List Oper) : Bool :=
  (ops.zipIdx.all fun (o, k) => o.after.toList.all fun e => !Region.binds .any e || Nat.blt e.on k) &&
  (ops.zipIdx.all fun (y, k) => ops.zipIdx.all fun (x, i) => !Nat.blt i k || !clash ops x y || waits y i) &&
  (ops.all fun o => match o.op with | .select _ _ => false | _ => true)

/-! ### Histories: what has been carried out, the last one first -/
structure Hist (ops : List Oper) (σ : List Nat) : Prop where
  nodup : σ.Nodup
  lt : ∀ i ∈ σ, i < ops.length
  wait : ∀ pre j post, σ = pre ++ j :: post → ∀ o, ops[j]? = some o → ∀ i, waits o i = true → i ∈ post
theorem Hist.cons {ops : List Oper} {σ : List Nat} {k : Nat} {o : Oper} (h : Hist ops σ) (ho : ops[k]? = some o) (hk : k ∉ σ) (hw : ∀ i, waits o i = true → i ∈ σ) : Hist ops (k :: σ) := by
  refine ⟨List.nodup_cons.2 ⟨hk, h.nodup⟩, fun i hi => ?_, fun pre j post he x hx i hi => ?_⟩
  · rcases List.mem_cons.1 hi with rfl | hi
    · exact (List.getElem?_eq_some_iff.1 ho).1
    · exact h.lt i hi
  · cases pre with
    | nil =>
      simp at he
      obtain ⟨rfl, rfl⟩ := he
      rw [ho] at hx
      cases hx
      exact hw i hi
    | cons p pre =>
      simp at he
      exact h.wait pre j post he.2 x hx i hi
theorem Hist.wait2 {ops : List Oper} {σ : List Nat} (h : Hist ops σ) {pre post : List Nat} {j : Nat} (he : σ = pre ++ j :: post) {o : Oper} (ho : ops[j]? = some o) {i : Nat} (hw : waits2 ops o i = true) : i ∈ post := by
  unfold waits2 at hw
  rw [Bool.or_eq_true] at hw
  rcases hw with hw | hw
  · exact h.wait pre j post he o ho i hw
  · obtain ⟨⟨m, k⟩, hm, hw⟩ := List.any_eq_true.1 hw
    rw [List.mem_zipIdx_iff_getElem?] at hm
    simp only [Bool.and_eq_true] at hw
    have hk := h.wait pre j post he o ho k hw.1
    obtain ⟨p1, p2, hp⟩ := List.append_of_mem hk
    have := h.wait (pre ++ j :: p1) k p2 (by rw [he, hp]; simp) m hm i hw.2
    rw [hp]
    simp [this]
theorem Hist.in2 {ops : List Oper} {σ : List Nat} (h : Hist ops σ) {o : Oper} (hw : ∀ i, waits o i = true → i ∈ σ) {i : Nat} (h2 : waits2 ops o i = true) : i ∈ σ := by
  unfold waits2 at h2
  rw [Bool.or_eq_true] at h2
  rcases h2 with h2 | h2
  · exact hw i h2
  · obtain ⟨⟨m, k⟩, hm, h2⟩ := List.any_eq_true.1 h2
    rw [List.mem_zipIdx_iff_getElem?] at hm
    simp only [Bool.and_eq_true] at h2
    obtain ⟨p1, p2, hp⟩ := List.append_of_mem (hw k h2.1)
    have := h.wait p1 k p2 hp m hm i h2.2
    rw [hp]
    simp [this]
/-- the text's own order, up to one place -/
def down : Nat → List Nat
  | 0 => []
  | k + 1 => k :: down k
theorem mem_down {k i : Nat} : i ∈ down k ↔ i < k := by
  induction k with
  | zero => simp [down]
  | succ k ih => simp only [down, List.mem_cons, ih]; omega
theorem hist_down {ops : List Oper} (h : drawOk ops = true) : ∀ k, k ≤ ops.length → Hist ops (down k)
  | 0, _ => ⟨by simp [down], by simp [down], fun pre j post he => by simp [down] at he⟩
  | k + 1, hk => by
    have ih := hist_down h k (by omega)
    have ho : ops[k]? = some ops[k] := List.getElem?_eq_getElem (by omega)
    refine ih.cons ho (by rw [mem_down]; omega) fun i hi => ?_
    rw [mem_down]
    unfold drawOk at h
    simp only [Bool.and_eq_true] at h
    have h1 := List.all_eq_true.1 h.1.1 (ops[k], k) (by rw [List.mem_zipIdx_iff_getElem?]; exact ho)
    simp only [List.all_eq_true] at h1
    unfold waits at hi
    obtain ⟨e, he, hb⟩ := List.any_eq_true.1 hi
    simp only [Bool.and_eq_true] at hb
    have h2 := h1 e he
    rw [hb.1] at h2
    simp only [Bool.not_true, Bool.false_or] at h2
    have := Nat.le_of_ble_eq_true h2
    have := Nat.eq_of_beq_eq_true hb.2
    omega
/-- the last one that wrote: the greatest one -/
theorem Hist.first {ops : List Oper} {σ : List Nat} (h : Hist ops σ) (W : Nat → Bool) {k : Nat} (h1 : ∀ i, i < k → W i = true → i ∈ σ) (h2 : ∀ i ∈ σ, W i = true → i < k)
    (h3 : ∀ i j o, i < j → j < k → W i = true → W j = true → ops[j]? = some o → waits2 ops o i = true) : σ.find? W = (down k).find? W := by
  have hfind : ∀ k, (down k).find? W = none ∨ ∃ j, (down k).find? W = some j ∧ j < k ∧ W j = true ∧ ∀ i, i < k → W i = true → i ≤ j := by
    intro k
    induction k with
    | zero => exact .inl rfl
    | succ k ih =>
      simp only [down, List.find?_cons]
      by_cases hw : W k = true
      · rw [hw]
        exact .inr ⟨k, rfl, by omega, hw, fun i hi _ => by omega⟩
      · simp only [hw]
        rcases ih with ih | ⟨j, q1, q2, q3, q4⟩
        · exact .inl ih
        · refine .inr ⟨j, q1, by omega, q3, fun i hi hwi => ?_⟩
          rcases Nat.lt_or_eq_of_le (Nat.le_of_lt_succ hi) with h | h
          · exact q4 i h hwi
          · subst h; exact absurd hwi hw
  rcases hfind k with hn | ⟨j, q1, q2, q3, q4⟩
  · rw [hn, List.find?_eq_none]
    intro i hi hw
    have hlt := h2 i hi hw
    have := List.find?_eq_none.1 hn i (mem_down.2 hlt)
    exact this hw
  · rw [q1]
    have hj := h1 j q2 q3
    obtain ⟨pre, post, he⟩ := List.append_of_mem hj
    rw [he, List.find?_append]
    have hpre : pre.find? W = none := by
      rw [List.find?_eq_none]
      intro m hm hw
      have hms : m ∈ σ := by rw [he]; simp [hm]
      have hmk := h2 m hms hw
      have hmj := q4 m hmk hw
      have hne : m ≠ j := by
        rintro rfl
        have hnd := h.nodup
        rw [he] at hnd
        have := (List.nodup_append.1 hnd).2.2 m hm m (by simp)
        exact this rfl
      have hjo : ops[j]? = some (ops[j]'(h.lt j hj)) := List.getElem?_eq_getElem _
      have hmp := h.wait2 he hjo (h3 m j _ (by omega) q2 hw q3 hjo)
      have hnd := h.nodup
      rw [he] at hnd
      exact (List.nodup_append.1 hnd).2.2 m hm m (by simp [hmp]) rfl
    rw [hpre]
    simp [q3]

/-! ### What each operation did -/
structure OpR where
  av : AV
  need : Os
  upd : Os
  news : List Nat
  deriving Inhabited
section
variable (ops : List Oper) (R : Nat → OpR) (ts0 : Ts) (os0 : Os)
def tsH : List Nat → Ts
  | [] => ts0
  | k :: σ => match (ops[k]?).bind (·.dst) with
    | some d => (d, (R k).av) :: tsH σ
    | none => tsH σ
def osH : List Nat → Os
  | [] => os0
  | k :: σ => (R k).upd ++ osH σ
def wrT (t : Nat) (k : Nat) : Bool := (ops[k]?).bind (·.dst) == some t
def wrO (id : Nat) (k : Nat) : Bool := (lk (R k).upd id).isSome
theorem lk_tsH (t : Nat) : ∀ σ : List Nat, lk (tsH ops R ts0 σ) t = match σ.find? (wrT ops t) with
    | some k => some (R k).av
    | none => lk ts0 t
  | [] => rfl
  | k :: σ => by
    rw [List.find?_cons]
    unfold tsH
    cases hd : (ops[k]?).bind (·.dst) with
    | none =>
      have : wrT ops t k = false := by unfold wrT; rw [hd]; rfl
      rw [this]
      exact lk_tsH t σ
    | some d =>
      simp only
      rw [lk_cons]
      by_cases h : d = t
      · subst h
        have : wrT ops d k = true := by unfold wrT; rw [hd]; simp
        rw [this, if_pos rfl]
      · have : wrT ops t k = false := by unfold wrT; rw [hd]; simpa using h
        rw [this, if_neg h]
        exact lk_tsH t σ
theorem lk_osH (id : Nat) : ∀ σ : List Nat, lk (osH R os0 σ) id = match σ.find? (wrO R id) with
    | some k => lk (R k).upd id
    | none => lk os0 id
  | [] => rfl
  | k :: σ => by
    rw [List.find?_cons]
    unfold osH
    rw [lk_append]
    cases hw : lk (R k).upd id with
    | none =>
      have : wrO R id k = false := by unfold wrO; rw [hw]; rfl
      rw [this]
      simpa using lk_osH id σ
    | some x =>
      have : wrO R id k = true := by unfold wrO; rw [hw]; rfl
      rw [this]
      simp [hw]
theorem mem_tsH : ∀ {σ : List Nat} {p : Nat × AV}, p ∈ tsH ops R ts0 σ → p ∈ ts0 ∨ ∃ k ∈ σ, p.2 = (R k).av
  | [], p, h => .inl h
  | k :: σ, p, h => by
    unfold tsH at h
    split at h
    · rcases List.mem_cons.1 h with rfl | h
      · exact .inr ⟨k, by simp, rfl⟩
      · rcases mem_tsH h with h | ⟨j, hj, e⟩
        · exact .inl h
        · exact .inr ⟨j, by simp [hj], e⟩
    · rcases mem_tsH h with h | ⟨j, hj, e⟩
      · exact .inl h
      · exact .inr ⟨j, by simp [hj], e⟩
theorem mem_osH : ∀ {σ : List Nat} {p : Nat × Obj}, p ∈ osH R os0 σ → p ∈ os0 ∨ ∃ k ∈ σ, p ∈ (R k).upd
  | [], p, h => .inl h
  | k :: σ, p, h => by
    unfold osH at h
    rcases List.mem_append.1 h with h | h
    · exact .inr ⟨k, by simp, h⟩
    · rcases mem_osH h with h | ⟨j, hj, e⟩
      · exact .inl h
      · exact .inr ⟨j, by simp [hj], e⟩
end

theorem nodup_le : ∀ (n : Nat) (l : List Nat), l.Nodup → (∀ i ∈ l, i < n) → l.length ≤ n
  | 0, l, _, h => by
    cases l with
    | nil => simp
    | cons a l => exact absurd (h a (by simp)) (by omega)
  | n + 1, l, hn, h => by
    have ih := nodup_le n (l.erase n) (hn.erase n) fun i hi => by
      have h1 := h i (List.mem_of_mem_erase hi)
      have h2 : i ≠ n := fun e => by
        subst e
        exact (hn.not_mem_erase hi).elim
      omega
    have : l.length ≤ (l.erase n).length + 1 := by
      rw [List.length_erase]
      split <;> omega
    omega

def mentions (r : OpR) : List Nat := r.av.ids ++ r.upd.flatMap fun p => p.2.ids
def keys (os : Os) : List Nat := os.map (·.1)
theorem lk_keys {os : Os} {id : Nat} (h : (lk os id).isSome = true) : id ∈ keys os := by
  obtain ⟨o, ho⟩ := Option.isSome_iff_exists.1 h
  exact List.mem_map.2 ⟨_, lk_mem ho, rfl⟩
structure Comm (a b : OpR) : Prop where
  wr : ∀ id ∈ keys a.upd, id ∉ keys b.need
  ww : ∀ id ∈ keys a.upd, id ∉ keys b.upd
  rw : ∀ id ∈ keys b.upd, id ∉ keys a.need
  nm : ∀ id ∈ a.news, id ∉ mentions b
/-- what the walk in the text's order shows of one operation -/
def GuardIs (ops : List Oper) (o : Oper) (ts : Ts) (b : Bool) : Prop :=
  match o.guard with
  | none => b = true
  | some (j, want) => (guardU ops ts j = true ∧ b = false) ∨ ∃ x, guardB ops ts j = some x ∧ (x == want) = b
structure DidOk (P : Program) (Γ : Fun) (ops : List Oper) (o : Oper) (ts : Ts) (os : Os) (r : OpR) : Prop where
  guard : GuardIs ops o ts true
  tri : Tri P o (evO ts) r.av r.need r.upd r.news
  need : ∀ id ob, lk r.need id = some ob → lk os id = some ob
  news : ∀ id ∈ r.news, (lk r.upd id).isSome = true
  fts : freshTs r.news ts = true
  fos : freshOs r.news r.upd os = true
structure SkipOk (ops : List Oper) (o : Oper) (ts : Ts) (r : OpR) : Prop where
  guard : GuardIs ops o ts false
  eq : r = ⟨.tup [], [], [], []⟩
theorem GuardIs.run {c : Ctx} {w : World} {ops : List Oper} {o : Oper} {ts : Ts} {a : Act} {b : Bool} (h : TsOk c w ts a) (hg : GuardIs ops o ts b) : Region.wanted o (yielded ops.toArray a.tmps) = b := by
  unfold GuardIs at hg
  unfold Region.wanted
  split at hg
  · rename_i hn
    rw [hn, hg]
  · rename_i j want hn
    rw [hn]
    rcases hg with ⟨h1, rfl⟩ | ⟨x, h1, h2⟩
    · have := guardU_spec h h1
      simp only [this]
      rfl
    have := guardB_spec h h1
    simp only [this]
    rw [← h2]
    cases x <;> cases want <;> rfl

section
variable {P : Program} {Γ : Fun} {ops : List Oper} {R : Nat → OpR} {ts0 : Ts} {os0 : Os}
structure Lex (P : Program) (Γ : Fun) (ops : List Oper) (R : Nat → OpR) (ts0 : Ts) (os0 : Os) (n : Nat) : Prop where
  did : ∀ k o, k < n → ops[k]? = some o → DidOk P Γ ops o (tsH ops R ts0 (down k)) (osH R os0 (down k)) (R k) ∨ SkipOk ops o (tsH ops R ts0 (down k)) (R k)
  dst : ∀ k o, k < n → ops[k]? = some o → dstOk Γ.n o.dst = true
  comm : ∀ i k o, i < k → k < n → ops[k]? = some o → waits2 ops o i = false → Comm (R i) (R k)
theorem clash_waits (hd : drawOk ops = true) {i k : Nat} {x y : Oper} (hx : ops[i]? = some x) (hy : ops[k]? = some y) (hik : i < k) (hc : clash ops x y = true) : waits y i = true := by
  unfold drawOk at hd
  simp only [Bool.and_eq_true] at hd
  have h1 := List.all_eq_true.1 hd.1.2 (y, k) (by rw [List.mem_zipIdx_iff_getElem?]; exact hy)
  have h2 := List.all_eq_true.1 h1 (x, i) (by rw [List.mem_zipIdx_iff_getElem?]; exact hx)
  simp only [hc, Bool.not_true, Bool.or_false, Bool.or_eq_true, Bool.not_eq_true'] at h2
  rcases h2 with h2 | h2
  · have : Nat.blt i k = true := Nat.ble_eq_true_of_le hik
    rw [this] at h2
    cases h2
  · exact h2
/-- slots: what an operation reads now is what it reads in the text's order -/
theorem slot_same (hd : drawOk ops = true) {σ : List Nat} (hσ : Hist ops σ) {k : Nat} {o : Oper} (ho : ops[k]? = some o) (hk : k ∉ σ) (hw : ∀ i, waits o i = true → i ∈ σ) {t : Nat} (ht : t ∈ readsOf ops o) :
    lk (tsH ops R ts0 σ) t = lk (tsH ops R ts0 (down k)) t := by
  have wr_ : ∀ i, wrT ops t i = true → ∃ x, ops[i]? = some x ∧ x.dst = some t := fun i hi => by
    unfold wrT at hi
    cases hx : ops[i]? with
    | none => rw [hx] at hi; simp at hi
    | some x => rw [hx] at hi; exact ⟨x, rfl, by simpa using hi⟩
  have hf := hσ.first (wrT ops t) (k := k) (fun i hi hwi => by
      obtain ⟨x, hx, hxd⟩ := wr_ i hwi
      exact hw i (clash_waits hd hx ho hi (by unfold clash; rw [hxd]; simp [ht]))) (fun i hi hwi => by
      obtain ⟨x, hx, hxd⟩ := wr_ i hwi
      rcases Nat.lt_or_ge i k with h | h
      · exact h
      · have hne : i ≠ k := fun e => hk (e ▸ hi)
        have hwk := clash_waits hd ho hx (by omega) (by
          unfold clash
          rw [hxd]
          cases o.dst <;> simp [ht])
        obtain ⟨pre, post, he⟩ := List.append_of_mem hi
        have := hσ.wait pre i post he x hx k hwk
        exact absurd (by rw [he]; simp [this]) hk) (fun i j x hij hj hwi hwj hx => by
      obtain ⟨y, hy, hyd⟩ := wr_ i hwi
      obtain ⟨z, hz, hzd⟩ := wr_ j hwj
      rw [hx] at hz
      cases hz
      exact waits2_of (clash_waits hd hy hx hij (by unfold clash; rw [hyd, hzd]; simp)))
  rw [lk_tsH, lk_tsH, hf]
/-- objects: the same -/
theorem obj_same {n : Nat} (hL : Lex P Γ ops R ts0 os0 ops.length) {σ : List Nat} (hσ : Hist ops σ) {k : Nat} {o : Oper} (ho : ops[k]? = some o) (hk : k ∉ σ) (hw : ∀ i, waits o i = true → i ∈ σ) {id : Nat} (hid : id ∈ keys (R k).need) :
    lk (osH R os0 σ) id = lk (osH R os0 (down k)) id := by
  have hkl : k < ops.length := (List.getElem?_eq_some_iff.1 ho).1
  have hf := hσ.first (wrO R id) (k := k) (fun i hi hwi => by
      cases hwt : waits2 ops o i with
      | true => exact hσ.in2 hw hwt
      | false => exact absurd hid ((hL.comm i k o hi hkl ho hwt).wr id (lk_keys hwi))) (fun i hi hwi => by
      rcases Nat.lt_or_ge i k with h | h
      · exact h
      · have hne : i ≠ k := fun e => hk (e ▸ hi)
        have hil := hσ.lt i hi
        have hx : ops[i]? = some ops[i] := List.getElem?_eq_getElem hil
        cases hwt : waits2 ops ops[i] k with
        | true =>
          obtain ⟨pre, post, he⟩ := List.append_of_mem hi
          have := hσ.wait2 he hx hwt
          exact absurd (by rw [he]; simp [this]) hk
        | false => exact absurd hid ((hL.comm k i _ (by omega) hil hx hwt).rw id (lk_keys hwi))) (fun i j x hij hj hwi hwj hx => by
      cases hwt : waits2 ops x i with
      | true => rfl
      | false => exact absurd (lk_keys hwj) ((hL.comm i j x hij (by omega) hx hwt).ww id (lk_keys hwi)))
  rw [lk_osH, lk_osH, hf]
theorem all_same (hd : drawOk ops = true) (hL : Lex P Γ ops R ts0 os0 ops.length) {σ : List Nat} (hσ : Hist ops σ) (hall : ∀ i, i < ops.length → i ∈ σ) :
    (∀ t, lk (tsH ops R ts0 σ) t = lk (tsH ops R ts0 (down ops.length)) t) ∧ ∀ id, lk (osH R os0 σ) id = lk (osH R os0 (down ops.length)) id := by
  refine ⟨fun t => ?_, fun id => ?_⟩
  · have wr_ : ∀ i, wrT ops t i = true → ∃ x, ops[i]? = some x ∧ x.dst = some t := fun i hi => by
      unfold wrT at hi
      cases hx : ops[i]? with
      | none => rw [hx] at hi; simp at hi
      | some x => rw [hx] at hi; exact ⟨x, rfl, by simpa using hi⟩
    have hf := hσ.first (wrT ops t) (k := ops.length) (fun i hi _ => hall i hi) (fun i hi _ => hσ.lt i hi) (fun i j x hij hj hwi hwj hx => by
      obtain ⟨y, hy, hyd⟩ := wr_ i hwi
      obtain ⟨z, hz, hzd⟩ := wr_ j hwj
      rw [hx] at hz
      cases hz
      exact waits2_of (clash_waits hd hy hx hij (by unfold clash; rw [hyd, hzd]; simp)))
    rw [lk_tsH, lk_tsH, hf]
  · have hf := hσ.first (wrO R id) (k := ops.length) (fun i hi _ => hall i hi) (fun i hi _ => hσ.lt i hi) (fun i j x hij hj hwi hwj hx => by
      cases hwt : waits2 ops x i with
      | true => rfl
      | false => exact absurd (lk_keys hwj) ((hL.comm i j x hij hj hx hwt).ww id (lk_keys hwi)))
    rw [lk_osH, lk_osH, hf]
theorem RelG.congr {ts ts' : Ts} {os os' : Os} {a : Act} {w : World} (h : RelG Γ ts os a w) (ht : ∀ t, lk ts' t = lk ts t) (ho : ∀ id, lk os' id = lk os id) : RelG Γ ts' os' a w := by
  obtain ⟨c, ⟨h1, h2, h3, h4, h5⟩, h6⟩ := h
  exact ⟨c, ⟨h1, h2, fun t x hl => h3 t x (by rw [← ht]; exact hl), h4.sub fun id o hl => by rw [← ho]; exact hl, ⟨h5.wos, h5.tape, h5.output, h5.size, h5.phi, h5.phiNew, h5.keep, fun id o b hl hf => h5.feet id o b (by rw [← ho]; exact hl) hf⟩⟩, h6⟩
end
end Go.Proofs.Ytioalgofaiideaa
