/- Plain laws of the mirrors: what Heights that come tell; Check as the reference has it. No program in sight. -/
import Derived.Test.YtioalgofaiideaaPl14
namespace Go.Proofs.Ytioalgofaiideaa
open Go.RowKit
set_option linter.unusedVariables false
/-- heights that hold, but for what is still to do -/
structure HInv (m : Me) (h : List Int) (q : List (Int × Int)) : Prop where
  len : h.length = m.code.length
  at_ : ∀ (k : Nat) (y : Int) (i : Ins), h[k]? = some y → 0 ≤ y → m.code[k]? = some i → (nxN i k).1 ≤ y ∧ y ≤ 12 ∧ (i.op = 17 → y = 1) ∧ 0 ≤ wr (y + (nxN i k).2.1) ∧
    ∀ to ∈ (nxN i k).2.2, (to, wr (y + (nxN i k).2.1)) ∈ q ∨ (0 ≤ to ∧ h[to.toNat]? = some (wr (y + (nxN i k).2.1)))
theorem hgt_inv (m : Me) (hm : NegOk m) : ∀ (n : Nat) (h : List Int) (q : List (Int × Int)) (h' : List Int), hgt m n h q = some (.next h') → HInv m h q → hOk q →
    HInv m h' [] ∧ (∀ (k : Nat) y, h[k]? = some y → 0 ≤ y → h'[k]? = some y) ∧ ∀ z ∈ q, 0 ≤ z.1 ∧ h'[z.1.toNat]? = some z.2
  | 0, h, q, h', e, _, _ => by cases e
  | n + 1, h, [], h', e, hi, _ => by
    rw [hgt] at e
    cases e
    exact ⟨hi, fun _ _ h _ => h, fun z hz => by cases hz⟩
  | n + 1, h, (p, x) :: r, h', e, hi, ho => by
    rw [hgt] at e
    have hx := ho (p, x) (by simp)
    have hr : hOk r := fun z hz => ho z (by simp [hz])
    by_cases h1 : (m.code.length : Int) ≤ p ∨ p < 0
    · rw [if_pos h1] at e; cases e
    rw [if_neg h1] at e
    have hl := hi.len
    have hp : p.toNat < m.code.length := by omega
    have hp0 : 0 ≤ p := by omega
    have e1 : h[p.toNat]? = some (h[p.toNat]'(by omega)) := List.getElem?_eq_getElem (by omega)
    have e2 : m.code[p.toNat]? = some m.code[p.toNat] := List.getElem?_eq_getElem hp
    generalize h[p.toNat]'(by omega) = y at e1
    have hin := hm _ (List.getElem_mem hp)
    generalize m.code[p.toNat] = i at e2 hin
    rw [e1, e2] at e
    simp only at e
    by_cases h2 : 0 ≤ y
    · rw [if_pos h2] at e
      by_cases h3 : y = x
      · rw [if_pos h3] at e
        subst h3
        obtain ⟨a1, a2, a3⟩ := hgt_inv m hm n h r h' e ⟨hl, fun k z j hk hz hj => by
          obtain ⟨b1, b2, b3, b4, b5⟩ := hi.at_ k z j hk hz hj
          refine ⟨b1, b2, b3, b4, fun to hto => ?_⟩
          rcases b5 to hto with c | c
          · rcases List.mem_cons.1 c with c | c
            · have c1 := congrArg Prod.fst c
              have c2 := congrArg Prod.snd c
              simp only at c1 c2
              exact .inr ⟨by omega, by rw [c1, c2]; exact e1⟩
            · exact .inl c
          · exact .inr c⟩ hr
        exact ⟨a1, a2, fun z hz => by
          rcases List.mem_cons.1 hz with rfl | hz
          · exact ⟨hp0, a2 _ _ e1 h2⟩
          · exact a3 z hz⟩
      · rw [if_neg h3] at e; cases e
    rw [if_neg h2] at e
    by_cases h3 : x < (nxN i p).1 ∨ (i.op = 17 ∧ x ≠ 1)
    · rw [if_pos h3] at e; cases e
    rw [if_neg h3] at e
    by_cases h4 : 12 < wr (x + (nxN i p).2.1)
    · rw [if_pos h4] at e; cases e
    rw [if_neg h4] at e
    have hb := nx_height hx.1 hx.2 (fun h => h3 (Or.inl h)) h4 hin
    have hpe : ((p.toNat : Nat) : Int) = p := by omega
    have hset : (h.set p.toNat x)[p.toNat]? = some x := List.getElem?_set_self (by omega)
    obtain ⟨a1, a2, a3⟩ := hgt_inv m hm n (h.set p.toNat x) _ h' e ⟨by simpa using hl, fun k z j hk hz hj => by
      by_cases hkp : k = p.toNat
      · subst hkp
        rw [hset] at hk
        cases hk
        rw [e2] at hj
        cases hj
        rw [hpe]
        refine ⟨by have : ¬ x < (nxN i p).1 := fun h => h3 (Or.inl h); omega, hx.2, fun h17 => Decidable.byContradiction fun h => h3 (Or.inr ⟨h17, h⟩), hb.1, fun to hto => .inl ?_⟩
        exact List.mem_append_right _ (List.mem_map.2 ⟨to, hto, rfl⟩)
      · rw [List.getElem?_set_ne (fun h => hkp h.symm)] at hk
        obtain ⟨b1, b2, b3, b4, b5⟩ := hi.at_ k z j hk hz hj
        refine ⟨b1, b2, b3, b4, fun to hto => ?_⟩
        rcases b5 to hto with c | c
        · rcases List.mem_cons.1 c with c | c
          · have c1 := congrArg Prod.fst c
            have c2 := congrArg Prod.snd c
            simp only at c1 c2
            exact .inr ⟨by omega, by rw [c1, c2]; exact hset⟩
          · exact .inl (List.mem_append_left _ c)
        · refine .inr ⟨c.1, ?_⟩
          by_cases ht : to.toNat = p.toNat
          · rw [ht, e1] at c
            have := Option.some.inj c.2
            omega
          · rw [List.getElem?_set_ne (fun h => ht h.symm)]; exact c.2⟩ (fun z hz => by
      rcases List.mem_append.1 hz with hz | hz
      · exact hr z hz
      · obtain ⟨w, _, rfl⟩ := List.mem_map.1 hz
        exact ⟨hb.1, hb.2.1⟩)
    refine ⟨a1, fun k z hk hz => ?_, fun z hz => ?_⟩
    · by_cases hkp : k = p.toNat
      · subst hkp
        rw [e1] at hk
        cases hk
        exact absurd hz h2
      · exact a2 k z (by rw [List.getElem?_set_ne (fun h => hkp h.symm)]; exact hk) hz
    · rcases List.mem_cons.1 hz with rfl | hz
      · exact ⟨hp0, a2 _ _ hset hx.1⟩
      · exact a3 z (List.mem_append_left _ hz)
/-- what is reached lies where it did, were there less code -/
theorem hgt_less (m m' : Me) (hm : NegOk m) (H : List Int) (hH : HInv m' H []) (hpre : ∀ k, k < m'.code.length → m.code[k]? = m'.code[k]?) : ∀ (n : Nat) (h : List Int) (q : List (Int × Int)) (h' : List Int), hgt m n h q = some (.next h') →
    (∀ (k : Nat) y, h[k]? = some y → 0 ≤ y → k < m'.code.length) → (∀ z ∈ q, 0 ≤ z.1 ∧ 0 ≤ z.2 ∧ H[z.1.toNat]? = some z.2) → ∀ (k : Nat) y, h'[k]? = some y → 0 ≤ y → k < m'.code.length
  | 0, h, q, h', e, _, _ => by cases e
  | n + 1, h, [], h', e, hi, _ => by
    rw [hgt] at e
    cases e
    exact hi
  | n + 1, h, (p, x) :: r, h', e, hi, hq => by
    rw [hgt] at e
    obtain ⟨hp0, hx0, hx⟩ := hq (p, x) (by simp)
    have hr : ∀ z ∈ r, 0 ≤ z.1 ∧ 0 ≤ z.2 ∧ H[z.1.toNat]? = some z.2 := fun z hz => hq z (by simp [hz])
    have hpl : p.toNat < m'.code.length := by have := (List.getElem?_eq_some_iff.1 hx).1; rw [hH.len] at this; exact this
    by_cases h1 : (m.code.length : Int) ≤ p ∨ p < 0
    · rw [if_pos h1] at e; cases e
    rw [if_neg h1] at e
    have hp : p.toNat < m.code.length := by omega
    have e2 : m.code[p.toNat]? = some m.code[p.toNat] := List.getElem?_eq_getElem hp
    generalize m.code[p.toNat] = i at e2
    have e3 : m'.code[p.toNat]? = some i := by rw [← hpre _ hpl]; exact e2
    rw [e2] at e
    split at e
    · rename_i y j hy hj
      cases hj
      by_cases h2 : 0 ≤ y
      · rw [if_pos h2] at e
        by_cases h3 : y = x
        · rw [if_pos h3] at e
          exact hgt_less m m' hm H hH hpre n h r h' e hi hr
        · rw [if_neg h3] at e; cases e
      rw [if_neg h2] at e
      by_cases h3 : x < (nxN i p).1 ∨ (i.op = 17 ∧ x ≠ 1)
      · rw [if_pos h3] at e; cases e
      rw [if_neg h3] at e
      by_cases h4 : 12 < wr (x + (nxN i p).2.1)
      · rw [if_pos h4] at e; cases e
      rw [if_neg h4] at e
      have hpe : ((p.toNat : Nat) : Int) = p := by omega
      obtain ⟨b1, b2, b3, b4, b5⟩ := hH.at_ p.toNat x i hx hx0 e3
      rw [hpe] at b4 b5
      refine hgt_less m m' hm H hH hpre n _ _ h' e (fun k y hk hy => ?_) fun z hz => ?_
      · by_cases hkp : k = p.toNat
        · rw [hkp]; exact hpl
        · rw [List.getElem?_set_ne (fun h => hkp h.symm)] at hk
          exact hi k y hk hy
      · rcases List.mem_append.1 hz with hz | hz
        · exact hr z hz
        · obtain ⟨to, hto, rfl⟩ := List.mem_map.1 hz
          rcases b5 to hto with c | c
          · cases c
          · exact ⟨c.1, b4, c.2⟩
    · cases e
theorem hgt_ret (m : Me) : ∀ (n : Nat) (h : List Int) (q : List (Int × Int)) (r : List Int × TFault), hgt m n h q = some (.ret r) → r.2.err ≠ 0
  | 0, h, q, r, e => by cases e
  | n + 1, h, [], r, e => by rw [hgt] at e; cases e
  | n + 1, h, (p, x) :: l, r, e => by
    rw [hgt] at e
    (repeat' split at e) <;> first | (cases e; done) | (cases e; simp; done) | exact hgt_ret m n _ _ r e
theorem rep_neg (m : Me) : HInv m (List.replicate m.code.length (-1)) [(0, 0)] :=
  ⟨by simp, fun k y i hk hy _ => by
    rw [List.getElem?_replicate] at hk
    split at hk
    · cases hk; omega
    · cases hk⟩
theorem hOk_one : hOk [(0, 0)] := by
  intro q hq
  simp only [List.mem_cons, List.not_mem_nil, or_false] at hq
  subst hq; decide
/-- what is wrong with some code's numbers -/
def chkN (w : Wd) (c : Int) (m : Me) : List Ins → Nat → Ctl TFault Unit
  | [], _ => .next ()
  | i :: l, k => if numN w c m i = 0 then chkN w c m l (k + 1) else .ret ⟨numN w c m i, k⟩
theorem chkN_next {w : Wd} {c : Int} {m : Me} : ∀ {l : List Ins} {k : Nat}, chkN w c m l k = .next () → ∀ i ∈ l, numN w c m i = 0
  | [], _, _, i, hi => by cases hi
  | x :: l, k, h, i, hi => by
    rw [chkN] at h
    split at h
    · rename_i h0
      rcases List.mem_cons.1 hi with rfl | hi
      · exact h0
      · exact chkN_next h i hi
    · cases h
theorem chkN_ret {w : Wd} {c : Int} {m : Me} : ∀ {l : List Ins} {k : Nat} {r : TFault}, chkN w c m l k = .ret r → r.err ≠ 0
  | [], _, _, h => by cases h
  | x :: l, k, r, h => by
    rw [chkN] at h
    split at h
    · exact chkN_ret h
    · rename_i h0; cases h; exact h0
theorem numN_send {w : Wd} {c : Int} {m : Me} {i : Ins} (h : numN w c m i = 0) (ho : i.op = 14) : 0 ≤ i.a ∧ i.a ≤ 4 := by
  unfold numN numOkN at h
  simp only [ho] at h
  by_cases h1 : 0 ≤ i.a
  · by_cases h2 : i.a < 5
    · omega
    · simp [h1, h2] at h
  · simp [h1] at h
def checkN (N : Nat) (w : Wd) (c : Int) (m : Me) : Option TFault :=
  if c < 0 ∨ (w.classes.length : Int) ≤ c then some ⟨6, 0⟩ else if nameN m.name = false then some ⟨7, 0⟩
  else if m.args < 0 ∨ 4 < m.args ∨ m.temps < 0 ∨ 6 < m.temps then some ⟨3, 0⟩ else if m.prim ≠ 0 then some ⟨1, 0⟩
  else if m.code.length < 1 ∨ 60 < m.code.length then some ⟨5, 0⟩ else match chkN w c m m.code 0 with
    | .ret r => some r
    | .next () => ((hgt m N (List.replicate m.code.length (-1)) [(0, 0)]).map hgtR).map (·.2)
theorem code_Check_l1_eq (N : Nat) (w : Wd) (c : Int) (m : Me) (hN : 1048578 ≤ N) (hs : w.classes.length ≤ 1048576) : ∀ (l : List Ins) (k : Nat), code_Check_l1 N w c m l k = some (chkN w c m l k)
  | [], k => rfl
  | x :: l, k => by
    rw [code_Check_l1, chkN, code_numbers_eq N w c m x hN hs]
    simp only [Option.bind_some]
    by_cases h : numN w c m x = 0
    · simp only [h, decide_true, Bool.not_true, cond_false, if_true]
      exact code_Check_l1_eq N w c m hN hs l (k + 1)
    · simp only [h, decide_false, Bool.not_false, cond_true, if_false]
theorem code_Check_eq (N : Nat) (w : Wd) (c : Int) (m : Me) (hN : 1048578 ≤ N) (hs : w.classes.length ≤ 1048576) : code_Check N w c m = checkN N w c m := by
  unfold code_Check checkN
  simp only [class_Name_eq, Option.bind_some, code_Check_l1_eq N w c m hN hs]
  by_cases h1 : c < 0
  · simp [h1]
  by_cases h2 : (w.classes.length : Int) ≤ c
  · simp [h1, h2]
  cases h3 : nameN m.name with
  | false => simp [h1, h2]
  | true =>
    by_cases h4 : m.args < 0
    · simp [h1, h2, h4]
    by_cases h5 : 4 < m.args
    · simp [h1, h2, h4, h5]
    by_cases h6 : m.temps < 0
    · simp [h1, h2, h4, h5, h6]
    by_cases h7 : 6 < m.temps
    · simp [h1, h2, h4, h5, h6, h7]
    by_cases h8 : m.prim = 0
    · by_cases h9 : m.code.length < 1
      · have h9' : (m.code.length : Int) < 1 := by omega
        simp only [h1, h2, h4, h5, h6, h7, h8, h9, h9', decide_true, decide_false, cond_true, cond_false, Option.bind_some, or_self, if_false, Bool.not_true, Bool.not_false, or_true, true_or, if_true, ne_eq, not_true, not_false_eq_true, Bool.true_eq_false]
      · have h9' : ¬ (m.code.length : Int) < 1 := by omega
        by_cases h10 : 60 < m.code.length
        · have h10' : (60 : Int) < (m.code.length : Int) := by omega
          simp only [h1, h2, h4, h5, h6, h7, h8, h9, h9', h10, h10', decide_true, decide_false, cond_true, cond_false, Option.bind_some, or_self, if_false, Bool.not_true, Bool.not_false, or_true, true_or, if_true, ne_eq, not_true, not_false_eq_true, Bool.true_eq_false]
        · have h10' : ¬ (60 : Int) < (m.code.length : Int) := by omega
          simp only [h1, h2, h4, h5, h6, h7, h8, h9, h9', h10, h10', decide_true, decide_false, cond_true, cond_false, Option.bind_some, or_self, if_false, Bool.not_true, Bool.not_false, ne_eq, not_true, not_false_eq_true, Bool.true_eq_false]
          cases hc : chkN w c m m.code 0 with
          | ret r => rfl
          | next u =>
            simp only [code_Heights_eq N m (fun i hi ho => numN_send (chkN_next hc i hi) ho) (by omega)]
            generalize (hgt m N (List.replicate m.code.length (-1)) [(0, 0)]).map hgtR = o
            cases o <;> rfl
    · simp [h1, h2, h4, h5, h6, h7, h8]
/-- a method with which nothing is wrong -/
structure Fine (N : Nat) (w : Wd) (c : Int) (m : Me) : Prop where
  cls : 0 ≤ c ∧ c < w.classes.length
  name : nameN m.name = true
  args : 0 ≤ m.args ∧ m.args ≤ 4
  temps : 0 ≤ m.temps ∧ m.temps ≤ 6
  prim : m.prim = 0
  len : 1 ≤ m.code.length ∧ m.code.length ≤ 60
  num : ∀ i ∈ m.code, numN w c m i = 0
  neg : NegOk m
  hgt : ∃ h, hgt m N (List.replicate m.code.length (-1)) [(0, 0)] = some (.next h)
theorem checkN_ok {N : Nat} {w : Wd} {c : Int} {m : Me} {f : TFault} (h : checkN N w c m = some f) (h0 : f.err = 0) : Fine N w c m := by
  unfold checkN at h
  by_cases h1 : c < 0 ∨ (w.classes.length : Int) ≤ c
  · rw [if_pos h1] at h; cases h; cases h0
  rw [if_neg h1] at h
  by_cases h2 : nameN m.name = false
  · rw [if_pos h2] at h; cases h; cases h0
  rw [if_neg h2] at h
  by_cases h3 : m.args < 0 ∨ 4 < m.args ∨ m.temps < 0 ∨ 6 < m.temps
  · rw [if_pos h3] at h; cases h; cases h0
  rw [if_neg h3] at h
  by_cases h4 : m.prim ≠ 0
  · rw [if_pos h4] at h; cases h; cases h0
  rw [if_neg h4] at h
  by_cases h5 : m.code.length < 1 ∨ 60 < m.code.length
  · rw [if_pos h5] at h; cases h; cases h0
  rw [if_neg h5] at h
  cases hc : chkN w c m m.code 0 with
  | ret r => rw [hc] at h; cases h; exact absurd h0 (chkN_ret hc)
  | next u =>
    rw [hc] at h
    simp only at h
    refine ⟨by omega, by cases hn : nameN m.name <;> simp_all, by omega, by omega, Decidable.byContradiction h4, by omega, fun i hi => chkN_next hc i hi, fun i hi ho => numN_send (chkN_next hc i hi) ho, ?_⟩
    cases ho : Go.Proofs.Ytioalgofaiideaa.hgt m N (List.replicate m.code.length (-1)) [(0, 0)] with
    | none => rw [ho] at h; cases h
    | some o =>
      rw [ho] at h
      cases o with
      | ret r => cases h; exact absurd h0 (hgt_ret m _ _ _ _ ho)
      | next h' => exact ⟨h', rfl⟩
theorem checkN_some (N : Nat) (w : Wd) (c : Int) (m : Me) (hN : 4194304 ≤ N) : ∃ f, checkN N w c m = some f := by
  unfold checkN
  (repeat' split) <;> first | exact ⟨_, rfl⟩ | skip
  rename_i h5 _ _ hc
  obtain ⟨o, ho⟩ := hgt_some m (fun i hi ho => numN_send (chkN_next hc i hi) ho) N (List.replicate m.code.length (-1)) [(0, 0)] (by simp) hOk_one (by rw [unset_rep]; simp; omega)
  rw [ho]
  exact ⟨_, rfl⟩
/-! ### the reference's -/
theorem slots_fold {w : Wd} (hw : ∀ x ∈ w.classes, 0 ≤ x.slots ∧ x.slots ≤ 6) : ∀ (l : List Int) (acc : Int), 0 ≤ acc → acc + 6 * l.length ≤ 100000000 →
    0 ≤ l.foldl (fun n k => match w.classes[k.toNat]? with | some x => wr (n + x.slots) | none => n) acc ∧ l.foldl (fun n k => match w.classes[k.toNat]? with | some x => wr (n + x.slots) | none => n) acc ≤ acc + 6 * l.length
  | [], acc, h0, h1 => ⟨by simpa using h0, by simp⟩
  | k :: l, acc, h0, h1 => by
    simp only [List.foldl_cons, List.length_cons] at h1 ⊢
    cases hx : w.classes[k.toNat]? with
    | none =>
      have := slots_fold hw l acc h0 (by omega)
      simp only
      omega
    | some x =>
      have := hw x (List.mem_of_getElem? hx)
      simp only
      rw [wr_in (by unfold InR; omega)]
      have := slots_fold hw l (acc + x.slots) (by omega) (by omega)
      omega
theorem slotsN_in {w : Wd} (hw : ∀ x ∈ w.classes, 0 ≤ x.slots ∧ x.slots ≤ 6) (hs : w.classes.length ≤ 1048576) (c : Int) : 0 ≤ slotsN w c ∧ slotsN w c ≤ 1000000000 := by
  have hl := upsN_len w (w.classes.length + 1) c
  have := slots_fold hw (upsN w (w.classes.length + 1) c) 0 (by omega) (by omega)
  unfold slotsN
  exact ⟨this.1, Int.le_trans this.2 (by omega)⟩
theorem qcref1_Check_l1_eq (N : Nat) (w : Wd) (c : Int) (m : Me) (hn : ∀ i, qcref1_Numbers N w c m i = some (numN w c m i)) : ∀ (l : List Ins) (k : Nat), qcref1_Check_l1 N w c m l k = some (chkN w c m l k)
  | [], k => rfl
  | x :: l, k => by
    rw [qcref1_Check_l1, chkN, hn x]
    simp only [Option.bind_some]
    by_cases h : numN w c m x = 0
    · simp only [h, decide_true, Bool.not_true, cond_false, if_true]
      exact qcref1_Check_l1_eq N w c m hn l (k + 1)
    · simp only [h, decide_false, Bool.not_false, cond_true, if_false]
theorem qcref1_Check_eq (N : Nat) (w : Wd) (c : Int) (m : Me) (hN : 1048578 ≤ N) (hs : w.classes.length ≤ 1048576) (hsl : 0 ≤ slotsN w c ∧ slotsN w c ≤ 1000000000) : qcref1_Check N w c m = checkN N w c m := by
  unfold qcref1_Check checkN
  simp only [qcref1_Name_eq, Option.bind_some]
  by_cases h1 : c < 0
  · simp [h1]
  by_cases h2 : (w.classes.length : Int) ≤ c
  · simp [h1, h2]
  cases h3 : nameN m.name with
  | false => simp [h1, h2]
  | true =>
    by_cases h4 : m.args < 0
    · simp [h1, h2, h4]
    by_cases h5 : 4 < m.args
    · simp [h1, h2, h4, h5]
    by_cases h6 : m.temps < 0
    · simp [h1, h2, h4, h5, h6]
    by_cases h7 : 6 < m.temps
    · simp [h1, h2, h4, h5, h6, h7]
    by_cases h8 : m.prim = 0
    · by_cases h9 : m.code.length < 1
      · have h9' : (m.code.length : Int) = 0 := by omega
        simp only [h1, h2, h4, h5, h6, h7, h8, h9, h9', decide_true, decide_false, cond_true, cond_false, Option.bind_some, or_self, if_false, Bool.not_true, Bool.not_false, or_true, true_or, if_true, ne_eq, not_true, not_false_eq_true, Bool.true_eq_false]
      · have h9' : ¬ (m.code.length : Int) = 0 := by omega
        by_cases h10 : 60 < m.code.length
        · have h10' : (60 : Int) < (m.code.length : Int) := by omega
          simp only [h1, h2, h4, h5, h6, h7, h8, h9, h9', h10, h10', decide_true, decide_false, cond_true, cond_false, Option.bind_some, or_self, if_false, Bool.not_true, Bool.not_false, or_true, true_or, if_true, ne_eq, not_true, not_false_eq_true, Bool.true_eq_false]
        · have h10' : ¬ (60 : Int) < (m.code.length : Int) := by omega
          have hn : ∀ i, qcref1_Numbers N w c m i = some (numN w c m i) := fun i => qcref1_Numbers_eq N w c m i hN hs (by omega) (by omega) (by omega) hsl (by omega)
          simp only [h1, h2, h4, h5, h6, h7, h8, h9, h9', h10, h10', decide_true, decide_false, cond_true, cond_false, Option.bind_some, or_self, if_false, Bool.not_true, Bool.not_false, ne_eq, not_true, not_false_eq_true, Bool.true_eq_false, qcref1_Check_l1_eq N w c m hn]
          cases hc : chkN w c m m.code 0 with
          | ret r => rfl
          | next u =>
            simp only [qcref1_Heights_eq N m (fun i hi ho => numN_send (chkN_next hc i hi) ho) (by omega)]
            generalize (hgt m N (List.replicate m.code.length (-1)) [(0, 0)]).map hgtR = o
            cases o <;> rfl
    · simp [h1, h2, h4, h5, h6, h7, h8]
end Go.Proofs.Ytioalgofaiideaa
