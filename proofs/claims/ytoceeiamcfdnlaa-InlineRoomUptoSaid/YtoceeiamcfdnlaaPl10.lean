/- Plain laws of the mirrors: the reference's cells; methods that rise. No program in sight. -/
import Derived.Test.YtoceeiamcfdnlaaPl9
namespace Go.Proofs.Ytoceeiamcfdnlaa
open Go.RowKit
set_option linter.unusedVariables false
theorem Rises_l2_eq (N : Nat) (c : Cl) (hl : c.methods.length ≤ 1048576) : ∀ (l : List Me) (k : Nat), l = c.methods.drop k → ∃ o, qcref1_Rises_l2 N c l k = some o ∧ (match o with | .ret r => r = false | .next () => ∀ i m p, k ≤ i → 0 < i → c.methods[i]? = some m → c.methods[i - 1]? = some p → ltS p.name m.name = true)
  | [], k, h => ⟨.next (), rfl, fun i m p hi _ hm _ => by
      have h1 := (List.getElem?_eq_some_iff.1 hm).1
      have h2 := List.drop_eq_nil_iff.1 h.symm
      omega⟩
  | m :: l, k, h => by
    obtain ⟨hm, hl2, hlt⟩ := restCons h
    have hlt := of_decide_eq_true hlt
    rw [qcref1_Rises_l2]
    by_cases h0 : 0 < k
    · have h0' : (0 : Int) < (k : Int) := by omega
      have wk : wr ((k : Int) - 1) = ((k - 1 : Nat) : Int) := by rw [wr_in (by unfold InR; omega)]; omega
      obtain ⟨p, hp⟩ : ∃ p, c.methods[k - 1]? = some p := ⟨_, List.getElem?_eq_getElem (by omega)⟩
      simp only [h0', decide_true, cond_true, wk, nthO_nat, hp, Option.bind_some]
      cases hq : ltS p.name m.name with
      | false => exact ⟨.ret false, by simp, rfl⟩
      | true =>
        obtain ⟨o, ho, h2⟩ := Rises_l2_eq N c hl l (k + 1) hl2
        refine ⟨o, by simp only [Bool.not_true, cond_false]; exact ho, ?_⟩
        cases o with
        | ret r => exact h2
        | next u =>
          intro i x q hi hi0 hx hq2
          rcases Nat.eq_or_lt_of_le hi with rfl | hi
          · rw [hm] at hx; cases hx; rw [hp] at hq2; cases hq2; exact hq
          · exact h2 i x q hi hi0 hx hq2
    · have h0' : ¬ (0 : Int) < (k : Int) := by omega
      obtain ⟨o, ho, h2⟩ := Rises_l2_eq N c hl l (k + 1) hl2
      refine ⟨o, by simp only [h0', decide_false, cond_false, Option.bind_some]; exact ho, ?_⟩
      cases o with
      | ret r => exact h2
      | next u =>
        intro i x q hi hi0 hx hq2
        exact h2 i x q (by omega) hi0 hx hq2
theorem Rises_l1_eq (N : Nat) : ∀ (l : List Cl) (k : Nat), (∀ c ∈ l, c.methods.length ≤ 1048576) → ∃ o, qcref1_Rises_l1 N l k = some o ∧ (match o with | .ret r => r = false | .next () => ∀ c ∈ l, Rise c.methods)
  | [], k, _ => ⟨.next (), rfl, fun c hc => by cases hc⟩
  | c :: l, k, h => by
    rw [qcref1_Rises_l1]
    obtain ⟨o, ho, h1⟩ := Rises_l2_eq N c (h c (by simp)) c.methods 0 rfl
    rw [ho]
    cases o with
    | ret r => exact ⟨.ret r, rfl, h1⟩
    | next u =>
      obtain ⟨o, ho, h2⟩ := Rises_l1_eq N l (k + 1) fun d hd => h d (by simp [hd])
      refine ⟨o, ho, ?_⟩
      cases o with
      | ret r => exact h2
      | next u =>
        intro d hd
        rcases List.mem_cons.1 hd with rfl | hd
        · exact rise_of fun i m p hi hm hp => h1 i m p (by omega) hi hm hp
        · exact h2 d hd
theorem Rises_some (N : Nat) (w : Wd) (hs : SmallW w) : ∃ b, qcref1_Rises N w = some b ∧ (b = true → RiseW w) := by
  unfold qcref1_Rises
  obtain ⟨o, ho, h1⟩ := Rises_l1_eq N w.classes 0 fun c hc => (hs.2.2.1 c hc).1
  rw [ho]
  cases o with
  | ret r =>
    have h1 : r = false := h1
    exact ⟨false, by rw [h1]; rfl, fun h => by cases h⟩
  | next u => exact ⟨true, rfl, fun _ => h1⟩
theorem qcref1_Get_l2_eq (N : Nat) (e c : Int) (x : Ce) : ∀ (l : List Ln) (k : Nat), ∃ o, qcref1_Get_l2 N e c x l k = some o ∧ (match o with | .ret r => r | .next () => -1) = if x.epoch = e then lineN c l else -1
  | [], k => ⟨.next (), rfl, by simp [lineN]⟩
  | y :: l, k => by
    rw [qcref1_Get_l2, lineN]
    obtain ⟨o, h1, h2⟩ := qcref1_Get_l2_eq N e c x l (k + 1)
    by_cases he : x.epoch = e
    · by_cases hc : y.cls = c
      · exact ⟨.ret y.found, by simp [he, hc], by simp [he, hc]⟩
      · exact ⟨o, by simp [he, hc, h1], by rw [h2]; simp [he, hc]⟩
    · exact ⟨o, by simp [he, h1], by rw [h2]; simp [he]⟩
theorem qcref1_Get_l1_eq (N : Nat) (s : St) (e c : Int) : ∀ (l : List Ce) (k : Nat), ∃ o, qcref1_Get_l1 N s e c l k = some o ∧ (match o with | .ret r => r | .next () => -1) = cgetN s e c l
  | [], k => ⟨.next (), rfl, rfl⟩
  | x :: l, k => by
    rw [qcref1_Get_l1, cgetN, eqAs_St]
    by_cases hs : x.site = s
    · obtain ⟨o, h1, h2⟩ := qcref1_Get_l2_eq N e c x x.lines 0
      simp only [hs, decide_true, cond_true, h1, Option.bind_some, if_true]
      cases o with
      | ret r => exact ⟨.ret r, rfl, h2⟩
      | next u => exact ⟨.ret (-1), rfl, h2⟩
    · obtain ⟨o, h1, h2⟩ := qcref1_Get_l1_eq N s e c l (k + 1)
      exact ⟨o, by simp only [hs, decide_false, cond_false]; exact h1, by simp only [hs, if_false]; exact h2⟩
theorem qcref1_Get_eq (N : Nat) (l : List Ce) (s : St) (e c : Int) : qcref1_Get N l s e c = some (cgetN s e c l) := by
  unfold qcref1_Get
  obtain ⟨o, h1, h2⟩ := qcref1_Get_l1_eq N s e c l 0
  rw [h1, ← h2]
  cases o <;> rfl
theorem ixf_any {α : Type} (p : α → Bool) (l : List α) : (0 ≤ ixf p l) ↔ l.any p = true := by
  rcases ixf_way p l with ⟨k, x, e1, e2, e3, _⟩ | ⟨e1, e2⟩
  · rw [e1, List.any_eq_true]
    exact ⟨fun _ => ⟨x, List.mem_of_getElem? e2, e3⟩, fun _ => by omega⟩
  · rw [e1, List.any_eq_true]
    rw [List.findIdx?_eq_none_iff] at e2
    refine ⟨fun h => by omega, fun ⟨x, hx, hp⟩ => ?_⟩
    rw [e2 x hx] at hp; cases hp
theorem qcref1_Put_1_l1_eq (N : Nat) (c : Int) : ∀ (l : List Ln) (k : Nat) (b : Bool), qcref1_Put_1_l1 N c l k b = some (b || l.any fun y => decide (y.cls = c))
  | [], k, b => by simp [qcref1_Put_1_l1]
  | y :: l, k, b => by
    rw [qcref1_Put_1_l1]
    cases b with
    | true => simp [qcref1_Put_1_l1_eq N c l (k + 1)]
    | false => simp [qcref1_Put_1_l1_eq N c l (k + 1)]
theorem qcref1_Put_1_eq (N : Nat) (x : Ce) (s : St) (e c f : Int) (out : List Ce) (b : Bool) (hs : x.site = s) (hx : x.lines.length ≤ 1048575) (ho : out.length ≤ 1048576) : qcref1_Put_1 N x e s c f out b = some (out ++ [putC e c f x], true) := by
  have hfr : (if x.epoch = e then x else (⟨s, e, false, []⟩ : Ce)) = freshC e x := by unfold freshC; rw [hs]
  have hle : (freshC e x).lines.length ≤ 1048575 := by
    unfold freshC; split
    · exact hx
    · simp
  have hv : (((bif (!decide (x.epoch = e)) then some ((⟨s, e, false, ([] : List Ln)⟩ : Ce)) else some (x)) : Option Ce)) = some (freshC e x) := by
    rw [← hfr]
    by_cases he : x.epoch = e <;> simp [he]
  unfold qcref1_Put_1
  rw [hv]
  unfold putC
  generalize freshC e x = v at hle
  simp only [Option.bind_some, qcref1_Put_1_l1_eq]
  have hb : ∀ q : Ce, Nat.ble ((out.length + [q].length) * 72) 140737488355328 = true := fun q => ble_true (by simp; omega)
  have e1 : Nat.ble ((([] : List Ln).length + v.lines.length) * 16) 140737488355328 = true := ble_true (by simp; omega)
  have e2 : Nat.ble (((([] : List Ln) ++ v.lines).length + [(⟨c, f⟩ : Ln)].length) * 16) 140737488355328 = true := ble_true (by simp; omega)
  by_cases hh : (v.many || v.lines.any fun y => decide (y.cls = c)) = true
  · have hl : lineC c f v = v := by
      unfold lineC
      rw [if_pos]
      rw [Bool.or_eq_true] at hh
      exact hh.imp (fun h => h) fun h => (ixf_any _ _).2 h
    rw [hh, hl]
    simp only [Bool.not_true, cond_false, Option.bind_some, hb, cond_true]
  · have hf : (v.many || v.lines.any fun y => decide (y.cls = c)) = false := by simpa using hh
    have hn : ¬ (v.many = true ∨ 0 ≤ ixf (fun t : Ln => decide (t.cls = c)) v.lines) := by
      rintro (h | h)
      · exact hh (by rw [h]; rfl)
      · exact hh (by rw [(ixf_any _ _).1 h]; simp)
    rw [hf]
    unfold lineC
    rw [if_neg hn]
    by_cases h3 : (3 : Int) ≤ (v.lines.length : Int)
    · simp only [h3, decide_true, cond_true, Bool.not_false, Option.bind_some, hb, if_true]
    · simp only [List.nil_append] at e2
      simp only [h3, decide_false, cond_true, cond_false, Bool.not_false, Option.bind_some, e1, e2, hb, if_false, List.nil_append]
theorem qcref1_Put_l1_true (N : Nat) (s : St) (e c f : Int) : ∀ (l : List Ce) (k : Nat) (acc : List Ce), acc.length + l.length ≤ 1048576 → qcref1_Put_l1 N s e c f l k acc true = some (acc ++ l, true)
  | [], k, acc, _ => by simp [qcref1_Put_l1]
  | x :: l, k, acc, h => by
    simp only [List.length_cons] at h
    have hb : Nat.ble ((acc.length + [x].length) * 72) 140737488355328 = true := ble_true (by simp; omega)
    rw [qcref1_Put_l1, eqAs_St]
    by_cases hs : x.site = s
    · simp only [hs, decide_true, cond_true, Bool.not_true, cond_false, Option.bind_some, hb]
      rw [qcref1_Put_l1_true N s e c f l (k + 1) _ (by simp; omega)]; simp
    · simp only [hs, decide_false, cond_false, Option.bind_some, hb, cond_true]
      rw [qcref1_Put_l1_true N s e c f l (k + 1) _ (by simp; omega)]; simp
theorem qcref1_Put_l1_false (N : Nat) (s : St) (e c f : Int) : ∀ (l : List Ce) (k : Nat) (acc : List Ce), (∀ x ∈ l, x.lines.length ≤ 1048575) → acc.length + l.length ≤ 1048576 →
    ∃ r b, qcref1_Put_l1 N s e c f l k acc false = some (acc ++ r, b) ∧ putN s e c f l = (if b = true then r else r ++ [putC e c f ⟨s, e, false, []⟩]) ∧ r.length = l.length
  | [], k, acc, _, _ => ⟨[], false, by simp [qcref1_Put_l1], rfl, rfl⟩
  | x :: l, k, acc, hl, h => by
    simp only [List.length_cons] at h
    have hb : Nat.ble ((acc.length + [x].length) * 72) 140737488355328 = true := ble_true (by simp; omega)
    rw [qcref1_Put_l1, eqAs_St, putN]
    by_cases hs : x.site = s
    · simp only [hs, decide_true, cond_true, Bool.not_false, Option.bind_some, qcref1_Put_1_eq N x s e c f acc false hs (hl x (by simp)) (by omega), if_true]
      refine ⟨putC e c f x :: l, true, ?_, by simp, by simp⟩
      rw [qcref1_Put_l1_true N s e c f l (k + 1) _ (by simp; omega)]; simp
    · obtain ⟨r, b, h1, h2, h3⟩ := qcref1_Put_l1_false N s e c f l (k + 1) (acc ++ [x]) (fun y hy => hl y (by simp [hy])) (by simp; omega)
      simp only [hs, decide_false, cond_false, Option.bind_some, hb, cond_true, if_false]
      refine ⟨x :: r, b, by rw [h1]; simp, ?_, by simp [h3]⟩
      rw [h2]
      cases b <;> simp
theorem qcref1_Put_eq (N : Nat) (l : List Ce) (s : St) (e c f : Int) (hl : ∀ x ∈ l, x.lines.length ≤ 1048575) (h : l.length ≤ 1048576) : qcref1_Put N l s e c f = some (putN s e c f l) := by
  unfold qcref1_Put
  obtain ⟨r, b, h1, h2, h3⟩ := qcref1_Put_l1_false N s e c f l 0 [] hl (by simpa using h)
  rw [h1, h2]
  simp only [Option.bind_some, List.nil_append]
  cases b with
  | true => simp
  | false =>
    rw [qcref1_Put_1_eq N ⟨s, e, false, []⟩ s e c f r false rfl (by simp) (by omega)]
    simp
theorem SameCells_l1 (N : Nat) (b : List Ce) : ∀ (l : List Ce) (k : Nat), l.length = (b.drop k).length → qcref1_SameCells_l1 N b l k = some (if l = b.drop k then .next () else .ret false)
  | [], k, h => by rw [dropNone h]; rfl
  | x :: l, k, h => by
    obtain ⟨y, hy, hd, hl⟩ := dropMore h
    rw [hd, qcref1_SameCells_l1]
    simp only [Option.bind_some, Option.bind_none, cond_true, cond_false, Bool.cond_decide, eqAs_V, eqAs_St, eqAs_Ln, eqAs_Ins, Bool.not_true, Bool.not_false, nthO_nat, hy, SameCells_l1 N b l (k + 1) hl, SameLines_eq]
    obtain ⟨x1, x2, x3, x4⟩ := x
    obtain ⟨y1, y2, y3, y4⟩ := y
    by_cases e1 : x1 = y1
    · by_cases e2 : x2 = y2
      · by_cases e3 : x3 = y3
        · by_cases e4 : x4 = y4 <;> simp [e1, e2, e3, e4]
        · simp [e1, e2, e3]
      · simp [e1, e2]
    · simp [e1]
theorem SameCells_eq (N : Nat) (a b : List Ce) : qcref1_SameCells N a b = some (decide (a = b)) := by
  unfold qcref1_SameCells
  by_cases h : a.length = b.length
  · rw [SameCells_l1 N b a 0 (by simpa using h)]
    by_cases e : a = b <;> simp [h, e]
  · have : a ≠ b := fun e => h (by rw [e])
    have h' : ¬ ((a.length : Int) = b.length) := by omega
    simp [this, h']
end Go.Proofs.Ytoceeiamcfdnlaa
