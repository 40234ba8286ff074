/- Plain laws of the mirrors: the reference's Right always answers; what a right world is. No program in sight. -/
import Derived.Test.YtioalgofaiideaaPl4
namespace Go.Proofs.Ytioalgofaiideaa
open Go.RowKit
set_option linter.unusedVariables false
/-! ### something comes -/
theorem tot_some {α : Type} (a : α) : ∃ r, some a = some r := ⟨a, rfl⟩
theorem tot_bif {α : Type} {b : Bool} {x y : Option α} (hx : b = true → ∃ r, x = some r) (hy : b = false → ∃ r, y = some r) : ∃ r, (bif b then x else y) = some r := by
  cases b
  · exact hy rfl
  · exact hx rfl
theorem tot_bind {α β : Type} {x : Option α} {f : α → Option β} (hx : ∃ a, x = some a) (hf : ∀ a, x = some a → ∃ r, f a = some r) : ∃ r, x.bind f = some r := by
  obtain ⟨a, rfl⟩ := hx
  exact hf a rfl
def nmB (u : UInt8) : Bool := !decide ((u.toNat : Int) < 33) && !decide (126 < (u.toNat : Int))
/-- a text that may be a name -/
def nameN (s : ByteArray) : Bool := s.data.toList.all nmB && (decide (0 < s.size) && decide (s.size ≤ 12))
theorem byO_nat (s : ByteArray) (k : Nat) : byO s (k : Int) = s.data.toList[k]? := by
  unfold byO
  rw [decide_eq_true (Int.natCast_nonneg k)]
  show s[k]? = _
  by_cases h : k < s.size
  · rw [getElem?_pos s k h, List.getElem?_eq_getElem (by simpa using h)]
    rfl
  · rw [getElem?_neg s k h, List.getElem?_eq_none (by simpa using h)]
theorem qcref1_Name_l1_eq (N : Nat) (s : ByteArray) : ∀ (n k : Nat), n + k = s.size → qcref1_Name_l1 N s n k = some (if (s.data.toList.drop k).all nmB = true then .next () else .ret false)
  | 0, k, h => by
    rw [List.drop_eq_nil_of_le (by rw [show s.data.toList.length = s.size from rfl]; omega)]
    rfl
  | n + 1, k, h => by
    have hk : k < s.data.toList.length := by rw [show s.data.toList.length = s.size from rfl]; omega
    rw [qcref1_Name_l1, List.drop_eq_getElem_cons hk, byO_nat, List.getElem?_eq_getElem hk, qcref1_Name_l1_eq N s n (k + 1) (by omega)]
    simp only [Option.bind_some, List.all_cons]
    generalize s.data.toList[k] = u
    generalize s.data.toList.drop (k + 1) = b
    by_cases h1 : (u.toNat : Int) < 33
    · have e : nmB u = false := by simp [nmB, h1]
      simp only [h1, e, decide_true, cond_true, Option.bind_some, Bool.false_and]; rfl
    · by_cases h2 : 126 < (u.toNat : Int)
      · have e : nmB u = false := by simp only [nmB, h1, h2, decide_true, decide_false, Bool.not_true, Bool.and_false]
        simp only [h1, h2, e, decide_true, decide_false, cond_true, cond_false, Option.bind_some, Bool.false_and]; rfl
      · have e : nmB u = true := by simp only [nmB, h1, h2, decide_false, Bool.not_false, Bool.and_true]
        simp only [h1, h2, e, decide_false, cond_false, Option.bind_some, Bool.true_and]
theorem qcref1_Name_eq (N : Nat) (s : ByteArray) : qcref1_Name N s = some (nameN s) := by
  unfold qcref1_Name nameN
  have e : ((s.size : Int) - ((0 : Nat) : Int)).toNat = s.size := by omega
  rw [e, qcref1_Name_l1_eq N s s.size 0 (by omega), List.drop_zero]
  cases h : s.data.toList.all nmB
  · simp
  · by_cases h1 : 0 < s.size
    · by_cases h2 : s.size ≤ 12
      · have h1' : (0 : Int) < (s.size : Int) := by omega
        have h2' : (s.size : Int) ≤ 12 := by omega
        simp [h1, h2, h1', h2']
      · have h2' : ¬ (s.size : Int) ≤ 12 := by omega
        have h1' : (0 : Int) < (s.size : Int) := by omega
        simp [h2, h1', h2']
    · have h1' : ¬ (0 : Int) < (s.size : Int) := by omega
      simp [h1, h1']
theorem qcref1_Numbers_some (N : Nat) (w : Wd) (c : Int) (m : Me) (i : Ins) (hN : 1048578 ≤ N) (hs : w.classes.length ≤ 1048576) : ∃ r, qcref1_Numbers N w c m i = some r := by
  unfold qcref1_Numbers
  simp only [qcref1_Slots_eq N w c hN hs, qcref1_Name_eq]
  repeat (first | exact ⟨_, rfl⟩ | refine tot_bif (fun _ => ?_) (fun _ => ?_) | refine tot_bind ?_ (fun a _ => ?_) | split)
theorem qcref1_Numbers_send (N : Nat) (w : Wd) (c : Int) (m : Me) (i : Ins) (h : qcref1_Numbers N w c m i = some 0) (ho : i.op = 14) : 0 ≤ i.a ∧ i.a ≤ 4 := by
  unfold qcref1_Numbers at h
  simp only [ho, qcref1_Name_eq, show ((14 : Int) = 1) = False by decide, show ((14 : Int) = 2) = False by decide, show ((14 : Int) = 3) = False by decide, show ((14 : Int) = 4) = False by decide, show ((14 : Int) = 5) = False by decide, show ((14 : Int) = 6) = False by decide, show ((14 : Int) = 7) = False by decide, show ((14 : Int) = 8) = False by decide, show ((14 : Int) = 9) = False by decide, show ((14 : Int) = 10) = False by decide, show ((14 : Int) = 11) = False by decide, show ((14 : Int) = 12) = False by decide, show ((14 : Int) = 13) = False by decide, show ((14 : Int) = 17) = False by decide, decide_true, decide_false, cond_true, cond_false, Option.bind_some] at h
  by_cases h1 : i.a < 0
  · simp [h1] at h
  · by_cases h2 : 4 < i.a
    · simp [h1, h2] at h
    · omega
/-- what is sent has no more than four arguments -/
def NegOk (m : Me) : Prop := ∀ i ∈ m.code, i.op = 14 → 0 ≤ i.a ∧ i.a ≤ 4
def nxN (i : Ins) (p : Int) : Int × Int × List Int :=
  if i.op = 9 ∨ i.op = 11 ∨ i.op = 12 then (1, -1, [wr (p + 1)]) else if i.op = 10 then (1, 1, [wr (p + 1)])
  else if i.op = 14 then (wr (i.a + 1), -i.a, [wr (p + 1)]) else if i.op = 15 then (0, 0, [i.a])
  else if i.op = 16 then (1, -1, [wr (p + 1), i.a]) else if i.op = 17 then (1, -1, []) else (0, 1, [wr (p + 1)])
theorem nxN_len (i : Ins) (p : Int) : (nxN i p).2.2.length ≤ 2 := by
  unfold nxN
  (repeat' split) <;> simp
theorem qcref1_Next_eq (N : Nat) (i : Ins) (p : Int) (h : i.op = 14 → 0 ≤ i.a ∧ i.a ≤ 4) : qcref1_Next N i p = some (nxN i p) := by
  unfold qcref1_Next nxN
  by_cases h1 : i.op = 9
  · simp [h1]
  by_cases h2 : i.op = 11
  · simp [h2]
  by_cases h3 : i.op = 12
  · simp [h3]
  by_cases h4 : i.op = 10
  · simp [h4]
  by_cases h5 : i.op = 14
  · have := h h5
    have e : decide (InR (-i.a)) = true := decide_eq_true (by unfold InR; omega)
    simp only [h5, e, decide_true, cond_true, show ((14 : Int) = 9) = False by decide, show ((14 : Int) = 11) = False by decide, show ((14 : Int) = 12) = False by decide, show ((14 : Int) = 10) = False by decide, decide_false, cond_false, Option.bind_some, or_self, if_false, if_true]
  by_cases h6 : i.op = 15
  · simp [h6]
  by_cases h7 : i.op = 16
  · simp [h7]
  by_cases h8 : i.op = 17
  · simp [h8]
  simp [h1, h2, h3, h4, h5, h6, h7, h8]
theorem nx_height {i : Ins} {p : Int} {x : Int} (h0 : 0 ≤ x) (h12 : x ≤ 12) (hn : ¬ x < (nxN i p).1) (hm : ¬ 12 < wr (x + (nxN i p).2.1)) (hi : i.op = 14 → 0 ≤ i.a ∧ i.a ≤ 4) :
    0 ≤ wr (x + (nxN i p).2.1) ∧ wr (x + (nxN i p).2.1) ≤ 12 ∧ wr (x + (nxN i p).2.1) = x + (nxN i p).2.1 := by
  unfold nxN at hn hm ⊢
  split at hn
  · rename_i h1
    simp only [h1, if_true] at hm ⊢
    rw [wr_in (by unfold InR; omega)]; omega
  · rename_i h1
    simp only [h1, if_false] at hm ⊢
    split at hn
    · rename_i h2
      simp only [h2, if_true] at hm ⊢
      rw [wr_in (by unfold InR; omega)] at hm ⊢; omega
    · rename_i h2
      simp only [h2, if_false] at hm ⊢
      split at hn
      · rename_i h3
        have hi := hi h3
        simp only [h3, if_true] at hm ⊢
        simp only at hn
        rw [wr_in (by unfold InR; omega)] at hn hm ⊢; omega
      · rename_i h3
        simp only [h3, if_false] at hm ⊢
        split at hn
        · rename_i h4
          simp only [h4, if_true] at hm ⊢
          rw [wr_in (by unfold InR; omega)] at hm ⊢; omega
        · rename_i h4
          simp only [h4, if_false] at hm ⊢
          split at hn
          · rename_i h5
            simp only [h5, if_true] at hm ⊢
            rw [wr_in (by unfold InR; omega)] at hm ⊢; omega
          · rename_i h5
            simp only [h5, if_false] at hm ⊢
            split at hn
            · rename_i h6
              simp only [h6, if_true] at hm ⊢
              rw [wr_in (by unfold InR; omega)] at hm ⊢; omega
            · rename_i h6
              simp only [h6, if_false] at hm ⊢
              rw [wr_in (by unfold InR; omega)] at hm ⊢; omega
theorem qcref1_Heights_l1_eq (N : Nat) : ∀ (n k : Nat) (v : List Int), n + k = v.length → qcref1_Heights_l1 N n k v = some (v.take k ++ List.replicate n (-1))
  | 0, k, v, h => by rw [qcref1_Heights_l1, List.take_of_length_le (by omega)]; simp
  | n + 1, k, v, h => by
    have hk : k < v.length := by omega
    rw [qcref1_Heights_l1, nthO_nat, List.getElem?_eq_getElem hk]
    simp only [Option.bind_some, Int.toNat_natCast]
    rw [qcref1_Heights_l1_eq N n (k + 1) _ (by simp; omega)]
    congr 1
    rw [List.take_add_one, List.take_set_of_le (Nat.le_refl _), List.getElem?_set_self hk, List.replicate_succ]
    simp
theorem qcref1_Heights_l3_eq (N : Nat) (x : Int) (r : Int × Int × List Int) : ∀ (l : List Int) (k : Nat) (a b : List Int), l = r.2.2.drop k → a.length + l.length ≤ 17592186044416 → b.length + l.length ≤ 17592186044416 →
    qcref1_Heights_l3 N x r l k a b = some (a ++ l, b ++ List.replicate l.length (wr (x + r.2.1)))
  | [], k, a, b, _, _, _ => by simp [qcref1_Heights_l3]
  | y :: l, k, a, b, h, ha, hb => by
    obtain ⟨h1, h2, _⟩ := restCons h
    simp only [List.length_cons] at ha hb
    rw [qcref1_Heights_l3]
    have e1 : Nat.ble ((a.length + [y].length) * 8) 140737488355328 = true := ble_true (by simp; omega)
    have e2 : Nat.ble ((b.length + [wr (x + r.2.1)].length) * 8) 140737488355328 = true := ble_true (by simp; omega)
    simp only [nthO_nat, h1, Option.bind_some, e1, e2, cond_true]
    rw [qcref1_Heights_l3_eq N x r l (k + 1) _ _ h2 (by simp; omega) (by simp; omega)]
    simp [List.replicate_succ]
/-- how many are not yet told -/
def unset (h : List Int) : Nat := h.countP fun x => decide (x < 0)
theorem unset_set {h : List Int} {i : Nat} {x y : Int} (hi : h[i]? = some x) (hx : x < 0) (hy : 0 ≤ y) : unset (h.set i y) + 1 = unset h := by
  induction h generalizing i with
  | nil => simp at hi
  | cons a h ih =>
    cases i with
    | zero =>
      simp only [List.getElem?_cons_zero, Option.some.injEq] at hi
      subst hi
      have : ¬ y < 0 := by omega
      simp [unset, List.countP_cons, hx, this]
    | succ i =>
      have := ih (i := i) (by simpa using hi)
      simp only [unset, List.set_cons_succ, List.countP_cons] at this ⊢
      omega
/-- the walk over what is still to do -/
def hgt (m : Me) : Nat → List Int → List (Int × Int) → Option (Ctl (List Int × TFault) (List Int))
  | 0, _, _ => none
  | _ + 1, h, [] => some (.next h)
  | n + 1, h, (p, x) :: r =>
    if (m.code.length : Int) ≤ p ∨ p < 0 then some (.ret ([], ⟨9, m.code.length⟩)) else
    match h[p.toNat]?, m.code[p.toNat]? with
    | some y, some i =>
      if 0 ≤ y then (if y = x then hgt m n h r else some (.ret ([], ⟨8, p⟩)))
      else if x < (nxN i p).1 ∨ (i.op = 17 ∧ x ≠ 1) then some (.ret ([], ⟨8, p⟩))
      else if 12 < wr (x + (nxN i p).2.1) then some (.ret ([], ⟨4, p⟩))
      else hgt m n (h.set p.toNat x) (r ++ (nxN i p).2.2.map fun q => (q, wr (x + (nxN i p).2.1)))
    | _, _ => none
/-- heights that may be -/
def hOk (l : List (Int × Int)) : Prop := ∀ q ∈ l, 0 ≤ q.2 ∧ q.2 ≤ 12
theorem hgt_some (m : Me) (hm : NegOk m) : ∀ (n : Nat) (h : List Int) (l : List (Int × Int)), h.length = m.code.length → hOk l → l.length + 3 * unset h < n → ∃ r, hgt m n h l = some r
  | 0, h, l, _, _, hn => by omega
  | n + 1, h, [], _, _, _ => ⟨_, rfl⟩
  | n + 1, h, (p, x) :: r, hh, hl, hn => by
    rw [hgt]
    simp only [List.length_cons] at hn
    have hx := hl (p, x) (by simp)
    have hr : hOk r := fun q hq => hl q (by simp [hq])
    by_cases h1 : (m.code.length : Int) ≤ p ∨ p < 0
    · rw [if_pos h1]; exact ⟨_, rfl⟩
    rw [if_neg h1]
    have hp : p.toNat < m.code.length := by omega
    have e1 : h[p.toNat]? = some (h[p.toNat]'(by omega)) := List.getElem?_eq_getElem (by omega)
    have e2 : m.code[p.toNat]? = some m.code[p.toNat] := List.getElem?_eq_getElem hp
    generalize h[p.toNat]'(by omega) = y at e1
    have hi := hm _ (List.getElem_mem hp)
    generalize m.code[p.toNat] = i at e2 hi
    rw [e1, e2]
    simp only
    by_cases h2 : 0 ≤ y
    · rw [if_pos h2]
      by_cases h3 : y = x
      · rw [if_pos h3]; exact hgt_some m hm n h r hh hr (by omega)
      · rw [if_neg h3]; exact ⟨_, rfl⟩
    rw [if_neg h2]
    by_cases h3 : x < (nxN i p).1 ∨ (i.op = 17 ∧ x ≠ 1)
    · rw [if_pos h3]; exact ⟨_, rfl⟩
    rw [if_neg h3]
    by_cases h4 : 12 < wr (x + (nxN i p).2.1)
    · rw [if_pos h4]; exact ⟨_, rfl⟩
    rw [if_neg h4]
    have hb := nx_height hx.1 hx.2 (fun h => h3 (Or.inl h)) h4 hi
    have hu := unset_set (y := x) e1 (by omega) hx.1
    have hl2 := nxN_len i p
    refine hgt_some m hm n _ _ (by simpa using hh) (fun q hq => ?_) (by simp; omega)
    rcases List.mem_append.1 hq with hq | hq
    · exact hr q hq
    · obtain ⟨z, _, rfl⟩ := List.mem_map.1 hq
      exact ⟨hb.1, hb.2.1⟩
theorem qcref1_Heights_l2_eq (N : Nat) (m : Me) (hm : NegOk m) (hc : m.code.length ≤ 1048576) : ∀ (n : Nat) (h : List Int) (ats hs : List Int) (k : Nat), ats.length = hs.length → k ≤ ats.length → ats.length + 2 * unset h ≤ 4194304 → h.length = m.code.length →
    hOk ((ats.drop k).zip (hs.drop k)) → qcref1_Heights_l2 N m n h ats hs (k : Int) = hgt m n h ((ats.drop k).zip (hs.drop k))
  | 0, _, _, _, _, _, _, _, _, _ => rfl
  | n + 1, h, ats, hs, k, hl, hk, hb, hh, ho => by
    rw [qcref1_Heights_l2]
    by_cases hlt : k < ats.length
    · have hlt' : (k : Int) < (ats.length : Int) := by omega
      have hlt2 : k < hs.length := by omega
      have ea : ats[k]? = some ats[k] := List.getElem?_eq_getElem hlt
      have eh : hs[k]? = some hs[k] := List.getElem?_eq_getElem hlt2
      have ed : (ats.drop k).zip (hs.drop k) = (ats[k], hs[k]) :: (ats.drop (k + 1)).zip (hs.drop (k + 1)) := by
        rw [List.drop_eq_getElem_cons hlt, List.drop_eq_getElem_cons hlt2]; rfl
      have hx := ho (ats[k], hs[k]) (by rw [ed]; simp)
      have hr : hOk ((ats.drop (k + 1)).zip (hs.drop (k + 1))) := fun q hq => ho q (by rw [ed]; simp [hq])
      have wk : wr ((k : Int) + 1) = ((k + 1 : Nat) : Int) := by rw [wr_in (by unfold InR; omega)]; omega
      rw [ed, hgt]
      generalize hp : ats[k] = p at ea hx
      generalize hxx : hs[k] = x at eh hx
      simp only [hlt', decide_true, cond_true, nthO_nat, ea, eh, Option.bind_some, wk]
      by_cases h1 : (m.code.length : Int) ≤ p
      · simp only [h1, decide_true, cond_true, Option.bind_some, true_or, if_true]
      by_cases h1' : p < 0
      · simp only [h1, h1', decide_true, decide_false, cond_true, cond_false, Option.bind_some, or_true, if_true]
      simp only [h1, h1', decide_false, cond_false, Option.bind_some, or_self, if_false]
      have hpl : p.toNat < m.code.length := by omega
      have hp0 : 0 ≤ p := by omega
      have e1 : h[p.toNat]? = some (h[p.toNat]'(by omega)) := List.getElem?_eq_getElem (by omega)
      have e2 : m.code[p.toNat]? = some m.code[p.toNat] := List.getElem?_eq_getElem hpl
      generalize h[p.toNat]'(by omega) = y at e1
      have hi := hm _ (List.getElem_mem hpl)
      generalize m.code[p.toNat] = i at e2 hi
      have n1 : nthO h p = some y := by rw [nthO_pos hp0, e1]
      have n2 : nthO m.code p = some i := by rw [nthO_pos hp0, e2]
      simp only [n1, n2, e1, e2, Option.bind_some, qcref1_Next_eq N i p hi]
      by_cases h2 : 0 ≤ y
      · simp only [h2, decide_true, cond_true, if_true]
        by_cases h3 : y = x
        · simp only [h3, decide_true, Bool.not_true, cond_false, Option.bind_some, if_true]
          exact qcref1_Heights_l2_eq N m hm hc n h ats hs (k + 1) hl (by omega) hb hh hr
        · simp only [h3, decide_false, Bool.not_false, cond_true, Option.bind_some, if_false]
      simp only [h2, decide_false, cond_false, if_false]
      by_cases h3 : x < (nxN i p).1
      · simp only [h3, decide_true, cond_true, Option.bind_some, true_or, if_true]
      by_cases h4 : i.op = 17 ∧ x ≠ 1
      · simp only [h3, h4.1, h4.2, decide_true, decide_false, cond_true, cond_false, Option.bind_some, Bool.not_false, or_true, if_true, ne_eq, not_false_eq_true, and_self]
      have hq : ((bif decide (i.op = (17 : Int)) then some ((!decide (x = (1 : Int)))) else some (false)) : Option Bool) = some false := by
        by_cases h5 : i.op = 17
        · by_cases h6 : x = 1
          · simp [h6]
          · exact absurd ⟨h5, h6⟩ h4
        · simp [h5]
      simp only [h3, h4, hq, decide_false, cond_false, Option.bind_some, or_self, if_false]
      by_cases h5 : 12 < wr (x + (nxN i p).2.1)
      · simp only [h5, decide_true, cond_true, Option.bind_some, if_true]
      simp only [h5, decide_false, cond_false, if_false]
      have hb2 := nx_height hx.1 hx.2 h3 h5 hi
      have hu := unset_set (y := x) e1 (by omega) hx.1
      have hl2 := nxN_len i p
      rw [qcref1_Heights_l3_eq N x (nxN i p) (nxN i p).2.2 0 ats hs rfl (by omega) (by omega)]
      simp only [Option.bind_some]
      have ez : ((ats ++ (nxN i p).2.2).drop (k + 1)).zip ((hs ++ List.replicate (nxN i p).2.2.length (wr (x + (nxN i p).2.1))).drop (k + 1)) =
          (ats.drop (k + 1)).zip (hs.drop (k + 1)) ++ (nxN i p).2.2.map fun q => (q, wr (x + (nxN i p).2.1)) := by
        rw [List.drop_append_of_le_length (by omega), List.drop_append_of_le_length (by omega), List.zip_append (by simp; omega)]
        congr 1
        generalize (nxN i p).2.2 = L
        induction L with
        | nil => rfl
        | cons a L ih => simp [List.replicate_succ, ih]
      rw [qcref1_Heights_l2_eq N m hm hc n _ _ _ (k + 1) (by simp; omega) (by simp; omega) (by simp; omega) (by simpa using hh) (by
        rw [ez]
        intro q hq
        rcases List.mem_append.1 hq with hq | hq
        · exact hr q hq
        · obtain ⟨z, _, rfl⟩ := List.mem_map.1 hq
          exact ⟨hb2.1, hb2.2.1⟩), ez]
    · have hlt' : ¬ (k : Int) < (ats.length : Int) := by omega
      have ed : (ats.drop k).zip (hs.drop k) = [] := by rw [List.drop_eq_nil_of_le (by omega)]; rfl
      rw [ed, hgt]
      simp only [hlt', decide_false, cond_false]
def hgtR (o : Ctl (List Int × TFault) (List Int)) : List Int × TFault := match o with | .ret r => r | .next h => (h, ⟨0, 0⟩)
theorem unset_rep (n : Nat) : unset (List.replicate n (-1)) = n := by
  induction n with
  | zero => rfl
  | succ n ih => simp only [unset, List.replicate_succ, List.countP_cons] at ih ⊢; rw [ih]; rfl
theorem qcref1_Heights_eq (N : Nat) (m : Me) (hm : NegOk m) (hc : m.code.length ≤ 1048576) : qcref1_Heights N m = (hgt m N (List.replicate m.code.length (-1)) [(0, 0)]).map hgtR := by
  unfold qcref1_Heights
  have e0 : (decide (0 ≤ (m.code.length : Int)) && decide ((m.code.length : Int) ≤ 140737488355328) && decide ((m.code.length : Int) * 8 ≤ 140737488355328)) = true := by
    simp only [Bool.and_eq_true, decide_eq_true_eq]; omega
  have e1 : (((List.replicate (m.code.length : Int).toNat (0 : Int)).length : Int) - ((0 : Nat) : Int)).toNat = m.code.length := by simp
  rw [e0, e1, qcref1_Heights_l1_eq N _ 0 _ (by simp)]
  simp only [cond_true, Option.bind_some, List.take_zero, List.nil_append]
  have h := qcref1_Heights_l2_eq N m hm hc N (List.replicate m.code.length (-1)) [0] [0] 0 rfl (by simp) (by rw [unset_rep]; simp; omega) (by simp) (by
    intro q hq
    simp only [List.drop_zero, List.zip_cons_cons, List.zip_nil_right, List.mem_cons, List.not_mem_nil, or_false] at hq
    subst hq; decide)
  have h' : qcref1_Heights_l2 N m N (List.replicate m.code.length (-1)) [(0 : Int)] [(0 : Int)] (0 : Int) = hgt m N (List.replicate m.code.length (-1)) [(0, 0)] := h
  rw [h']
  cases hgt m N (List.replicate m.code.length (-1)) [(0, 0)] with
  | none => rfl
  | some o => cases o <;> rfl
theorem qcref1_Heights_some (N : Nat) (m : Me) (hN : 4194304 ≤ N) (hm : NegOk m) (hc : m.code.length ≤ 1048576) : ∃ r, qcref1_Heights N m = some r := by
  rw [qcref1_Heights_eq N m hm hc]
  obtain ⟨o, ho⟩ := hgt_some m hm N (List.replicate m.code.length (-1)) [(0, 0)] (by simp) (by
    intro q hq
    simp only [List.mem_cons, List.not_mem_nil, or_false] at hq
    subst hq; decide) (by rw [unset_rep]; simp; omega)
  rw [ho]
  exact ⟨_, rfl⟩
end Go.Proofs.Ytioalgofaiideaa
