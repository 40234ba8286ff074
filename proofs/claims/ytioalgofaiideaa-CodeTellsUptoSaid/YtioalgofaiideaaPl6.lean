/- Plain laws of the mirrors: Check and Right always answer; what a right world is. No program in sight. -/
import Derived.Test.YtioalgofaiideaaPl5
namespace Go.Proofs.Ytioalgofaiideaa
open Go.RowKit
set_option linter.unusedVariables false
theorem qcref1_Check_l1_some (N : Nat) (w : Wd) (c : Int) (m : Me) (hN : 1048578 ≤ N) (hs : w.classes.length ≤ 1048576) : ∀ (l : List Ins) (k : Nat), ∃ o, qcref1_Check_l1 N w c m l k = some o ∧ (o = .next () → ∀ i ∈ l, qcref1_Numbers N w c m i = some 0)
  | [], k => ⟨_, rfl, fun _ i hi => by cases hi⟩
  | x :: l, k => by
    obtain ⟨r, hr⟩ := qcref1_Numbers_some N w c m x hN hs
    rw [qcref1_Check_l1, hr]
    simp only [Option.bind_some]
    by_cases h : r = 0
    · subst h
      simp only [decide_true, Bool.not_true, cond_false]
      obtain ⟨o, h1, h2⟩ := qcref1_Check_l1_some N w c m hN hs l (k + 1)
      refine ⟨o, h1, fun e i hi => ?_⟩
      rcases List.mem_cons.1 hi with rfl | hi
      · exact hr
      · exact h2 e i hi
    · simp only [h, decide_false, Bool.not_false, cond_true]
      exact ⟨_, rfl, fun e => by cases e⟩
theorem qcref1_Check_some (N : Nat) (w : Wd) (c : Int) (m : Me) (hN : 4194304 ≤ N) (hs : w.classes.length ≤ 1048576) (hc : m.code.length ≤ 1048576) : ∃ f, qcref1_Check N w c m = some f := by
  unfold qcref1_Check
  simp only [qcref1_Name_eq, Option.bind_some]
  refine tot_bind ?_ fun a _ => ?_
  · repeat (first | exact ⟨_, rfl⟩ | refine tot_bif (fun _ => ?_) (fun _ => ?_))
  refine tot_bif (fun _ => ⟨_, rfl⟩) fun _ => ?_
  refine tot_bif (fun _ => ⟨_, rfl⟩) fun _ => ?_
  refine tot_bind ?_ fun a _ => ?_
  · repeat (first | exact ⟨_, rfl⟩ | refine tot_bif (fun _ => ?_) (fun _ => ?_))
  refine tot_bif (fun _ => ⟨_, rfl⟩) fun _ => ?_
  refine tot_bif (fun _ => ⟨_, rfl⟩) fun _ => ?_
  refine tot_bind ?_ fun a _ => ?_
  · repeat (first | exact ⟨_, rfl⟩ | refine tot_bif (fun _ => ?_) (fun _ => ?_))
  refine tot_bif (fun _ => ⟨_, rfl⟩) fun _ => ?_
  obtain ⟨o, h1, h2⟩ := qcref1_Check_l1_some N w c m (by omega) hs m.code 0
  rw [h1]
  simp only [Option.bind_some]
  cases o with
  | ret r => exact ⟨_, rfl⟩
  | next u =>
    obtain ⟨r, hr⟩ := qcref1_Heights_some N m hN (fun i hi ho => qcref1_Numbers_send N w c m i (h2 rfl i hi) ho) hc
    simp only [hr, Option.bind_some]
    exact ⟨_, rfl⟩
/-- a way on, that tells so, or an error -/
def Good (x : Option (Ctl Int Unit)) (P : Prop) : Prop := ∃ o, x = some o ∧ (∀ r, o = .ret r → r ≠ 0) ∧ (o = .next () → P)
theorem Good.ret {r : Int} {P : Prop} (h : r ≠ 0) : Good (some (.ret r)) P := ⟨.ret r, rfl, (fun r e => by cases e; exact h), fun e => by cases e⟩
theorem Good.next {P : Prop} (h : P) : Good (some (.next ())) P := ⟨.next (), rfl, (fun r e => by cases e), fun _ => h⟩
theorem Good.bind {x : Option (Ctl Int Unit)} {P Q : Prop} {y : Option (Ctl Int Unit)} (h : Good x P) (hy : P → Good y Q) : Good (x.bind fun o => match o with | .ret r => some (.ret r) | .next () => y) Q := by
  obtain ⟨o, rfl, h1, h2⟩ := h
  cases o with
  | ret r => exact Good.ret (h1 r rfl)
  | next u => exact hy (h2 rfl)
theorem Good.imp {x : Option (Ctl Int Unit)} {P Q : Prop} (h : Good x P) (hq : P → Q) : Good x Q := by
  obtain ⟨o, h0, h1, h2⟩ := h
  exact ⟨o, h0, h1, fun e => hq (h2 e)⟩
theorem Right_l2_good (N : Nat) (x : Cl) : ∀ (l : List Cl) (k : Nat), Good (qcref1_Right_l2 N x l k) (∀ d ∈ l, d.name ≠ x.name)
  | [], k => Good.next fun d hd => by cases hd
  | d :: l, k => by
    rw [qcref1_Right_l2]
    by_cases h : d.name = x.name
    · simp only [h, decide_true, cond_true]; exact Good.ret (by decide)
    · simp only [h, decide_false, cond_false]
      exact (Right_l2_good N x l (k + 1)).imp fun hl e he => by
        rcases List.mem_cons.1 he with rfl | he
        · exact h
        · exact hl e he
/-- a class that is right -/
def clsOk (w : Wd) (k : Nat) (c : Cl) : Prop := nameN c.name = true ∧ (∀ d ∈ w.classes.take k, d.name ≠ c.name) ∧
  (k < 4 → ∃ f, newW.classes[k]? = some f ∧ c.name = f.name ∧ c.super = f.super ∧ c.slots = 0) ∧
  (4 ≤ k → 0 ≤ c.super ∧ c.super < k ∧ (0 < c.super → 4 ≤ c.super)) ∧ 0 ≤ c.slots ∧ c.slots ≤ 6
theorem Right_l1_good (N : Nat) (w : Wd) : ∀ (l : List Cl) (k : Nat), l = w.classes.drop k → Good (qcref1_Right_l1 N w newW l k) (∀ j c, k ≤ j → w.classes[j]? = some c → clsOk w j c)
  | [], k, h => Good.next fun j c hj hc => by
      have h1 := (List.getElem?_eq_some_iff.1 hc).1
      have h2 := List.drop_eq_nil_iff.1 h.symm
      omega
  | c :: l, k, h => by
    obtain ⟨hc, hl, hlt⟩ := restCons h
    have hlt := of_decide_eq_true hlt
    rw [qcref1_Right_l1, qcref1_Name_eq]
    simp only [Option.bind_some]
    cases hn : nameN c.name with
    | false => simp only [Bool.not_false, cond_true, Option.bind_some]; exact Good.ret (by decide)
    | true =>
      simp only [Bool.not_true, cond_false, Option.bind_some]
      have hg : (decide (0 ≤ (k : Int)) && decide ((k : Int) ≤ (w.classes.length : Int))) = true := by simp only [Bool.and_eq_true, decide_eq_true_eq]; omega
      have step : ∀ (P : Prop) (y : Option (Ctl Int Unit)), ((∀ d ∈ w.classes.take k, d.name ≠ c.name) → Good y P) →
          Good ((bif (decide (0 ≤ (k : Int)) && decide ((k : Int) ≤ (w.classes.length : Int))) then ((qcref1_Right_l2 N c (w.classes.take (k : Int).toNat) 0).bind fun o => match o with | .ret r => some (.ret r) | .next () => y) else none)) P := by
        intro P y hy
        rw [hg]
        exact (Right_l2_good N c _ 0).bind fun hd => hy (by simpa using hd)
      have rest : ∀ (P : Prop), clsOk w k c → Good (qcref1_Right_l1 N w newW l (k + 1)) (∀ j c, k ≤ j → w.classes[j]? = some c → clsOk w j c) := fun _ hk =>
        (Right_l1_good N w l (k + 1) hl).imp fun ih j d hj hd => by
          rcases Nat.eq_or_lt_of_le hj with rfl | hj
          · rw [hc] at hd; cases hd; exact hk
          · exact ih j d hj hd
      by_cases h4 : k < 4
      · have h4' : (k : Int) < 4 := by omega
        obtain ⟨f, hf⟩ : ∃ f, newW.classes[k]? = some f := ⟨_, List.getElem?_eq_getElem (by simpa [newW] using h4)⟩
        simp only [h4', decide_true, cond_true, nthO_nat, hf, Option.bind_some]
        by_cases he : c.name = f.name
        · simp only [he, decide_true, Bool.not_true, cond_false, Option.bind_some]
          refine step _ _ fun hd => ?_
          by_cases h5 : c.super = f.super
          · simp only [h5, decide_true, Bool.not_true, cond_false, Option.bind_some]
            by_cases h6 : c.slots < 0
            · simp only [h6, decide_true, cond_true, Option.bind_some]; exact Good.ret (by decide)
            · by_cases h7 : 0 < c.slots
              · simp only [h6, h7, decide_true, decide_false, cond_true, cond_false, Option.bind_some]; exact Good.ret (by decide)
              · simp only [h6, h7, decide_false, cond_false, Option.bind_some]
                exact rest True ⟨hn, hd, fun _ => ⟨f, hf, he, h5, by omega⟩, fun h => by omega, by omega, by omega⟩
          · simp only [h5, decide_false, Bool.not_false, cond_true, Option.bind_some]; exact Good.ret (by decide)
        · simp only [he, decide_false, Bool.not_false, cond_true, Option.bind_some]; exact Good.ret (by decide)
      · have h4' : ¬ (k : Int) < 4 := by omega
        simp only [h4', decide_false, cond_false, Option.bind_some]
        refine step _ _ fun hd => ?_
        by_cases h5 : c.super < 0
        · simp only [h5, decide_true, cond_true, Option.bind_some]; exact Good.ret (by decide)
        by_cases h6 : (k : Int) ≤ c.super
        · simp only [h5, h6, decide_true, decide_false, cond_true, cond_false, Option.bind_some]; exact Good.ret (by decide)
        have tail : (0 < c.super → 4 ≤ c.super) → Good (((bif decide (c.slots < (0 : Int)) then some (true) else some (decide ((6 : Int) < c.slots))) : Option Bool).bind fun v63 => (bif v63 then some (.ret (3 : Int)) else qcref1_Right_l1 N w newW l (k + 1))) (∀ j c, k ≤ j → w.classes[j]? = some c → clsOk w j c) := by
          intro hq
          by_cases h7 : c.slots < 0
          · simp only [h7, decide_true, cond_true, Option.bind_some]; exact Good.ret (by decide)
          · by_cases h8 : 6 < c.slots
            · simp only [h7, h8, decide_true, decide_false, cond_true, cond_false, Option.bind_some]; exact Good.ret (by decide)
            · simp only [h7, h8, decide_false, cond_false, Option.bind_some]
              exact rest True ⟨hn, hd, fun h => by omega, fun _ => ⟨by omega, by omega, hq⟩, by omega, by omega⟩
        by_cases h7 : 0 < c.super
        · by_cases h8 : c.super < 4
          · simp only [h5, h6, h7, h8, decide_true, decide_false, cond_true, cond_false, Option.bind_some]; exact Good.ret (by decide)
          · simp only [h5, h6, h7, h8, decide_true, decide_false, cond_true, cond_false, Option.bind_some]
            exact tail fun _ => by omega
        · simp only [h5, h6, h7, decide_false, cond_false, Option.bind_some]
          exact tail fun h => absurd h h7
/-- one of the methods that are there from the beginning on -/
def primM (k : Nat) (m : Me) : Prop := k = 3 ∧ ∃ p ∈ newMs, p.name = m.name ∧ p.prim = m.prim ∧ m.args = 1 ∧ m.temps = 0 ∧ m.code = []
theorem Right_l5_good (N : Nat) (k : Nat) (m : Me) : ∀ (l : List Me) (j : Nat) (b : Bool), (∀ p ∈ l, p ∈ newMs) → (b = true → primM k m) → ∃ b', qcref1_Right_l5 N k m l j b = some b' ∧ (b' = true → primM k m)
  | [], j, b, _, hb => ⟨b, rfl, hb⟩
  | p :: l, j, b, hl, hb => by
    rw [qcref1_Right_l5]
    have go := Right_l5_good N k m l (j + 1)
    have hl' : ∀ p ∈ l, p ∈ newMs := fun q hq => hl q (by simp [hq])
    cases b with
    | true => simp only [cond_true, Option.bind_some]; exact go true hl' (fun _ => hb rfl)
    | false =>
      have gf := go false hl' (fun h => by cases h)
      simp only [cond_false]
      by_cases h1 : (k : Int) = 3
      · by_cases h2 : p.name = m.name
        · by_cases h3 : p.prim = m.prim
          · by_cases h4 : m.args = 1
            · by_cases h5 : m.temps = 0
              · by_cases h6 : m.code = []
                · simp only [h1, h2, h3, h4, h5, h6, decide_true, cond_true, Option.bind_some]
                  exact go _ hl' fun _ => ⟨by omega, p, hl p (by simp), h2, h3, h4, h5, h6⟩
                · have h6' : ¬ (m.code.length : Int) = 0 := fun e => h6 (List.eq_nil_of_length_eq_zero (by omega))
                  simp only [h1, h2, h3, h4, h5, h6', decide_true, decide_false, cond_true, Option.bind_some]; exact gf
              · simp only [h1, h2, h3, h4, h5, decide_true, decide_false, cond_true, cond_false, Option.bind_some]; exact gf
            · simp only [h1, h2, h3, h4, decide_true, decide_false, cond_true, cond_false, Option.bind_some]; exact gf
          · simp only [h1, h2, h3, decide_true, decide_false, cond_true, cond_false, Option.bind_some]; exact gf
        · simp only [h1, h2, decide_true, decide_false, cond_true, cond_false, Option.bind_some]; exact gf
      · simp only [h1, decide_false, cond_false, Option.bind_some]; exact gf
/-- a method that is right -/
def meOk (N : Nat) (w : Wd) (k : Nat) (m : Me) : Prop := primM k m ∨ ∃ f, qcref1_Check N w (k : Int) m = some f ∧ f.err = 0
theorem Right_l4_good (N : Nat) (w : Wd) (k : Nat) (c : Cl) (hN : 4194304 ≤ N) (hs : SmallW w) (hc : c ∈ w.classes) : ∀ (l : List Me) (j : Nat), l = c.methods.drop j →
    Good (qcref1_Right_l4 N w newW k c l j) (∀ i m, j ≤ i → c.methods[i]? = some m → meOk N w k m ∧ ∀ p, 0 < i → c.methods[i - 1]? = some p → ltS p.name m.name = true)
  | [], j, h => Good.next fun i m hj hm => by
      have h1 := (List.getElem?_eq_some_iff.1 hm).1
      have h2 := List.drop_eq_nil_iff.1 h.symm
      omega
  | m :: l, j, h => by
    obtain ⟨hm, hl, hlt⟩ := restCons h
    have hlt := of_decide_eq_true hlt
    have hml := (hs.2.2.1 c hc).1
    rw [qcref1_Right_l4]
    have h3 : nthO newW.classes 3 = some ⟨⟨#[73, 110, 116]⟩, 0, 0, newMs⟩ := rfl
    have hcl := (hs.2.2.1 c hc).2 m (List.mem_of_getElem? hm)
    obtain ⟨b, hb1, hb2⟩ := Right_l5_good N k m newMs 0 false (fun p hp => hp) (fun h => by cases h)
    obtain ⟨f, hf⟩ := qcref1_Check_some N w (k : Int) m hN hs.1 hcl
    have tail : (∀ p, 0 < j → c.methods[j - 1]? = some p → ltS p.name m.name = true) → Good ((nthO newW.classes (3 : Int)).bind fun x100 => ((qcref1_Right_l5 N k m x100.methods 0 false).bind fun v106 => ((qcref1_Check N w (k : Int) m).bind fun r125 => (((bif (!v106) then some ((!decide (r125.err = (0 : Int)))) else some (false)) : Option Bool).bind fun v127 => (bif v127 then some (.ret r125.err) else qcref1_Right_l4 N w newW k c l (j + 1))))))
        (∀ i m, j ≤ i → c.methods[i]? = some m → meOk N w k m ∧ ∀ p, 0 < i → c.methods[i - 1]? = some p → ltS p.name m.name = true) := by
      intro hp
      have rest : meOk N w k m → Good (qcref1_Right_l4 N w newW k c l (j + 1)) (∀ i m, j ≤ i → c.methods[i]? = some m → meOk N w k m ∧ ∀ p, 0 < i → c.methods[i - 1]? = some p → ltS p.name m.name = true) := fun hk =>
        (Right_l4_good N w k c hN hs hc l (j + 1) hl).imp fun ih i d hj hd => by
          rcases Nat.eq_or_lt_of_le hj with rfl | hj
          · rw [hm] at hd; cases hd; exact ⟨hk, hp⟩
          · exact ih i d hj hd
      rw [h3]
      simp only [Option.bind_some, hb1, hf]
      cases b with
      | true => simp only [Bool.not_true, cond_false, Option.bind_some]; exact rest (Or.inl (hb2 rfl))
      | false =>
        simp only [Bool.not_false, cond_true, Option.bind_some]
        by_cases he : f.err = 0
        · simp only [he, decide_true, Bool.not_true, cond_false]; exact rest (Or.inr ⟨f, hf, he⟩)
        · simp only [he, decide_false, Bool.not_false, cond_true]; exact Good.ret he
    by_cases h0 : 0 < j
    · have h0' : (0 : Int) < (j : Int) := by omega
      have wk : wr ((j : Int) - 1) = ((j - 1 : Nat) : Int) := by rw [wr_in (by unfold InR; omega)]; omega
      obtain ⟨p, hp⟩ : ∃ p, c.methods[j - 1]? = some p := ⟨_, List.getElem?_eq_getElem (by omega)⟩
      simp only [h0', decide_true, cond_true, wk, nthO_nat, hp, Option.bind_some]
      cases hq : ltS p.name m.name with
      | true => simp only [Bool.not_true, cond_false]; exact tail fun p' _ hp' => by rw [hp] at hp'; cases hp'; exact hq
      | false => simp only [Bool.not_false, cond_true]; exact Good.ret (by decide)
    · have h0' : ¬ (0 : Int) < (j : Int) := by omega
      simp only [h0', decide_false, cond_false, Option.bind_some]
      exact tail fun p hp => absurd hp h0
theorem rise_of {ms : List Me} (h : ∀ i m p, 0 < i → ms[i]? = some m → ms[i - 1]? = some p → ltS p.name m.name = true) : Rise ms := by
  have key : ∀ (d i : Nat) (a b : Me), ms[i]? = some a → ms[i + d + 1]? = some b → ltS a.name b.name = true := by
    intro d
    induction d with
    | zero => intro i a b ha hb; exact h (i + 1) b a (by omega) hb (by simpa using ha)
    | succ d ih =>
      intro i a b ha hb
      have hlt := (List.getElem?_eq_some_iff.1 hb).1
      obtain ⟨x, hx⟩ : ∃ x, ms[i + d + 1]? = some x := ⟨_, List.getElem?_eq_getElem (by omega)⟩
      exact lt_trans (ih i a x ha hx) (h (i + (d + 1) + 1) b x (by omega) hb (by rw [show i + (d + 1) + 1 - 1 = i + d + 1 by omega]; exact hx))
  refine List.pairwise_iff_getElem.2 fun i j hi hj hij => ?_
  refine key (j - i - 1) i _ _ (List.getElem?_eq_getElem hi) ?_
  rw [show i + (j - i - 1) + 1 = j by omega]
  exact List.getElem?_eq_getElem hj
theorem Right_l3_good (N : Nat) (w : Wd) (hN : 4194304 ≤ N) (hs : SmallW w) : ∀ (l : List Cl) (k : Nat), l = w.classes.drop k →
    Good (qcref1_Right_l3 N w newW l k) (∀ j c, k ≤ j → w.classes[j]? = some c → slotsN w (j : Int) ≤ 6 ∧ c.methods.length ≤ 8 ∧ Rise c.methods ∧ ∀ m ∈ c.methods, meOk N w j m)
  | [], k, h => Good.next fun j c hj hc => by
      have h1 := (List.getElem?_eq_some_iff.1 hc).1
      have h2 := List.drop_eq_nil_iff.1 h.symm
      omega
  | c :: l, k, h => by
    obtain ⟨hc, hl, hlt⟩ := restCons h
    rw [qcref1_Right_l3, qcref1_Slots_eq N w _ (by omega) hs.1]
    simp only [Option.bind_some]
    by_cases h1 : 6 < slotsN w (k : Int)
    · simp only [h1, decide_true, cond_true]; exact Good.ret (by decide)
    by_cases h2 : (8 : Int) < (c.methods.length : Int)
    · simp only [h1, h2, decide_true, decide_false, cond_true, cond_false]; exact Good.ret (by decide)
    simp only [h1, h2, decide_false, cond_false]
    refine (Right_l4_good N w k c hN hs (List.mem_of_getElem? hc) c.methods 0 rfl).bind fun hm => ?_
    refine (Right_l3_good N w hN hs l (k + 1) hl).imp fun ih j d hj hd => ?_
    rcases Nat.eq_or_lt_of_le hj with rfl | hj
    · rw [hc] at hd; cases hd
      refine ⟨by omega, by omega, rise_of fun i m p hi hmi hpi => (hm i m (by omega) hmi).2 p hi hpi, fun m hmm => ?_⟩
      obtain ⟨i, hi⟩ := List.mem_iff_getElem?.1 hmm
      exact (hm i m (by omega) hi).1
    · exact ih j d hj hd
theorem Right_l7_good (N : Nat) (w : Wd) : ∀ (l : List V) (k : Nat), Good (qcref1_Right_l7 N w l k) (∀ v ∈ l, wrongN v (w.heap.length : Int) = 0)
  | [], k => Good.next fun v hv => by cases hv
  | v :: l, k => by
    rw [qcref1_Right_l7, qcref1_Wrong_eq]
    simp only [Option.bind_some]
    by_cases h : wrongN v (w.heap.length : Int) = 0
    · simp only [h, decide_true, Bool.not_true, cond_false]
      exact (Right_l7_good N w l (k + 1)).imp fun ih u hu => by
        rcases List.mem_cons.1 hu with rfl | hu
        · exact h
        · exact ih u hu
    · simp only [h, decide_false, Bool.not_false, cond_true]; exact Good.ret h
/-- an object that is right -/
def obOk (w : Wd) (o : Ob) : Prop := 0 ≤ o.cls ∧ (0 < o.cls → 4 ≤ o.cls) ∧ o.cls < w.classes.length ∧ (o.slots.length : Int) = slotsN w o.cls ∧ ∀ v ∈ o.slots, wrongN v (w.heap.length : Int) = 0
theorem Right_l6_good (N : Nat) (w : Wd) (hN : 4194304 ≤ N) (hs : SmallW w) : ∀ (l : List Ob) (k : Nat), Good (qcref1_Right_l6 N w l k) (∀ o ∈ l, obOk w o)
  | [], k => Good.next fun o ho => by cases ho
  | o :: l, k => by
    rw [qcref1_Right_l6]
    have rest : (0 ≤ o.cls ∧ (0 < o.cls → 4 ≤ o.cls) ∧ o.cls < w.classes.length ∧ (o.slots.length : Int) = slotsN w o.cls) → Good ((qcref1_Right_l7 N w o.slots 0).bind fun o => match o with | .ret r => some (.ret r) | .next () => qcref1_Right_l6 N w l (k + 1)) (∀ x ∈ o :: l, obOk w x) := fun h =>
      (Right_l7_good N w o.slots 0).bind fun hv => (Right_l6_good N w hN hs l (k + 1)).imp fun ih x hx => by
        rcases List.mem_cons.1 hx with rfl | hx
        · exact ⟨h.1, h.2.1, h.2.2.1, h.2.2.2, hv⟩
        · exact ih x hx
    by_cases h1 : o.cls < 0
    · simp only [h1, decide_true, cond_true, Option.bind_some]; exact Good.ret (by decide)
    have hsl := qcref1_Slots_eq N w o.cls (by omega) hs.1
    by_cases h2 : 0 < o.cls
    · by_cases h3 : o.cls < 4
      · simp only [h1, h2, h3, decide_true, decide_false, cond_true, cond_false, Option.bind_some]; exact Good.ret (by decide)
      · by_cases h4 : (w.classes.length : Int) ≤ o.cls
        · simp only [h1, h2, h3, h4, decide_true, decide_false, cond_true, cond_false, Option.bind_some]; exact Good.ret (by decide)
        · by_cases h5 : (o.slots.length : Int) = slotsN w o.cls
          · simp only [h1, h2, h3, h4, hsl, h5, decide_true, decide_false, cond_true, cond_false, Option.bind_some, Bool.not_true]
            exact rest ⟨by omega, fun _ => by omega, by omega, h5⟩
          · simp only [h1, h2, h3, h4, hsl, h5, decide_true, decide_false, cond_true, cond_false, Option.bind_some, Bool.not_false]; exact Good.ret (by decide)
    · by_cases h4 : (w.classes.length : Int) ≤ o.cls
      · simp only [h1, h2, h4, decide_true, decide_false, cond_true, cond_false, Option.bind_some]; exact Good.ret (by decide)
      · by_cases h5 : (o.slots.length : Int) = slotsN w o.cls
        · simp only [h1, h2, h4, hsl, h5, decide_true, decide_false, cond_false, Option.bind_some, Bool.not_true]
          exact rest ⟨by omega, fun h => absurd h h2, by omega, h5⟩
        · simp only [h1, h2, h4, hsl, h5, decide_false, cond_true, cond_false, Option.bind_some, Bool.not_false]; exact Good.ret (by decide)
/-- a right world -/
structure RightP (N : Nat) (w : Wd) : Prop where
  many : 4 ≤ w.classes.length ∧ w.classes.length ≤ 12 ∧ w.heap.length ≤ 60
  epoch : 0 ≤ w.epoch ∧ w.epoch ≤ 1073741824
  cls : ∀ (j : Nat) c, w.classes[j]? = some c → clsOk w j c
  meth : ∀ (j : Nat) c, w.classes[j]? = some c → slotsN w (j : Int) ≤ 6 ∧ c.methods.length ≤ 8 ∧ Rise c.methods ∧ ∀ m ∈ c.methods, meOk N w j m
  obj : ∀ o ∈ w.heap, obOk w o
theorem Good.end_ {x : Option (Ctl Int Unit)} {P : Prop} {y : Option Int} {Q : Prop} (h : Good x P) (hy : P → ∃ r, y = some r ∧ (r = 0 → Q)) : ∃ r, (x.bind fun o => match o with | .ret r => some r | .next () => y) = some r ∧ (r = 0 → Q) := by
  obtain ⟨o, rfl, h1, h2⟩ := h
  cases o with
  | ret r => exact ⟨r, rfl, fun e => absurd e (h1 r rfl)⟩
  | next u => exact hy (h2 rfl)
theorem Right_some (N : Nat) (w : Wd) (hN : 4194304 ≤ N) (hs : SmallW w) : ∃ r, qcref1_Right N w = some r ∧ (r = 0 → RightP N w) := by
  unfold qcref1_Right qcref1_New
  simp only [Option.bind_some]
  by_cases h1 : (w.classes.length : Int) < 4
  · exact ⟨5, by simp [h1], fun h => by cases h⟩
  by_cases h2 : (12 : Int) < (w.classes.length : Int)
  · exact ⟨5, by simp [h1, h2], fun h => by cases h⟩
  by_cases h3 : (60 : Int) < (w.heap.length : Int)
  · exact ⟨5, by simp [h1, h2, h3], fun h => by cases h⟩
  by_cases h4 : w.epoch < 0
  · exact ⟨3, by simp [h1, h2, h3, h4], fun h => by cases h⟩
  by_cases h5 : 1073741824 < w.epoch
  · exact ⟨3, by simp [h1, h2, h3, h4, h5], fun h => by cases h⟩
  simp only [h1, h2, h3, h4, h5, decide_false, cond_false, Option.bind_some]
  refine (Right_l1_good N w w.classes 0 rfl).end_ fun c1 => ?_
  refine (Right_l3_good N w hN hs w.classes 0 rfl).end_ fun c3 => ?_
  refine (Right_l6_good N w hN hs w.heap 0).end_ fun c6 => ?_
  exact ⟨0, rfl, fun _ => ⟨by omega, by omega, fun j c hc => c1 j c (by omega) hc, fun j c hc => c3 j c (by omega) hc, c6⟩⟩
theorem RightP.rise {N : Nat} {w : Wd} (h : RightP N w) : RiseW w := fun c hc => by
  obtain ⟨i, hi⟩ := List.mem_iff_getElem?.1 hc
  exact (h.meth i c hi).2.2.1
end Go.Proofs.Ytioalgofaiideaa
