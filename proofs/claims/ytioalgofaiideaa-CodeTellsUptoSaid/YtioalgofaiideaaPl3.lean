/- Plain laws of the mirrors: names' order, what is found, what was most often, leaves, sites. No program in sight. -/
import Derived.Test.YtioalgofaiideaaPl2
namespace Go.Proofs.Ytioalgofaiideaa
open Go.RowKit
set_option linter.unusedVariables false
/-! ### texts in a row -/
theorem bl_irr : ∀ a : List UInt8, Op.bytesLess a a = false
  | [] => rfl
  | a :: x => by simp [Op.bytesLess, bl_irr x]
theorem bl_trans : ∀ a b c : List UInt8, Op.bytesLess a b = true → Op.bytesLess b c = true → Op.bytesLess a c = true
  | _, [], _, h, _ => by simp [Op.bytesLess] at h
  | _, _ :: _, [], _, h => by simp [Op.bytesLess] at h
  | [], _ :: _, _ :: _, _, _ => rfl
  | a :: x, b :: y, c :: z, h, h' => by
    simp only [Op.bytesLess, Bool.or_eq_true, Bool.and_eq_true, decide_eq_true_eq, beq_iff_eq] at h h' ⊢
    rcases h with h | ⟨rfl, h⟩
    · rcases h' with h' | ⟨rfl, _⟩
      · exact Or.inl (UInt8.lt_trans h h')
      · exact Or.inl h
    · rcases h' with h' | ⟨rfl, h'⟩
      · exact Or.inl h'
      · exact Or.inr ⟨rfl, bl_trans x y z h h'⟩
theorem bl_tot : ∀ a b : List UInt8, Op.bytesLess a b = false → Op.bytesLess b a = false → a = b
  | [], [], _, _ => rfl
  | [], _ :: _, h, _ => by simp [Op.bytesLess] at h
  | _ :: _, [], _, h => by simp [Op.bytesLess] at h
  | a :: x, b :: y, h, h' => by
    simp only [Op.bytesLess, Bool.or_eq_false_iff, decide_eq_false_iff_not, Bool.and_eq_false_iff, beq_eq_false_iff_ne, ne_eq] at h h'
    have e : a = b := by
      rcases h with ⟨h1, _⟩
      rcases h' with ⟨h2, _⟩
      exact UInt8.le_antisymm (UInt8.not_lt.1 h2) (UInt8.not_lt.1 h1)
    subst e
    have h1 : Op.bytesLess x y = false := h.2.resolve_left (fun h => h rfl)
    have h2 : Op.bytesLess y x = false := h'.2.resolve_left (fun h => h rfl)
    rw [bl_tot x y h1 h2]
theorem ba_toList (b : ByteArray) : b.toList = b.data.toList := by
  have : ∀ (n i : Nat) (r : List UInt8), n = b.size - i → ByteArray.toList.loop b i r = r.reverse ++ b.data.toList.drop i := by
    intro n
    induction n with
    | zero =>
      intro i r h
      unfold ByteArray.toList.loop
      rw [if_neg (by omega)]
      have : b.data.toList.length ≤ i := by simpa using (show b.size ≤ i by omega)
      rw [List.drop_eq_nil_of_le this]; simp
    | succ n ih =>
      intro i r h
      have hi : i < b.size := by omega
      have hi' : i < b.data.toList.length := by simpa using hi
      unfold ByteArray.toList.loop
      rw [if_pos hi, ih (i + 1) _ (by omega), List.drop_eq_getElem_cons hi']
      have e : b.get! i = b.data.toList[i] := by
        show b.data[i]! = _
        rw [getElem!_pos b.data i hi, Array.getElem_toList]
      simp [e]
  have := this b.size 0 [] (by omega)
  simpa [ByteArray.toList] using this
theorem toList_inj {a b : ByteArray} (h : a.toList = b.toList) : a = b := by
  rw [ba_toList, ba_toList] at h
  cases a; cases b
  congr
  exact Array.toList_inj.1 h
theorem lt_irr (a : ByteArray) : ltS a a = false := bl_irr _
theorem lt_trans {a b c : ByteArray} (h : ltS a b = true) (h' : ltS b c = true) : ltS a c = true := bl_trans _ _ _ h h'
theorem lt_tot {a b : ByteArray} (h : ltS a b = false) (h' : ltS b a = false) : a = b := toList_inj (bl_tot _ _ h h')
theorem lt_ne {a b : ByteArray} (h : ltS a b = true) : a ≠ b := fun e => by rw [e, lt_irr] at h; cases h
theorem lt_asym {a b : ByteArray} (h : ltS a b = true) : ltS b a = false := by
  cases e : ltS b a with
  | false => rfl
  | true => have := lt_trans h e; rw [lt_irr] at this; cases this
/-! ### a method by its name -/
/-- methods' names rise -/
def Rise (ms : List Me) : Prop := ms.Pairwise fun a b => ltS a.name b.name = true
/-- which one has a name -/
def ixN (s : ByteArray) : List Me → Option Nat
  | [] => none
  | m :: r => if m.name = s then some 0 else (ixN s r).map (· + 1)
theorem ixN_some {s : ByteArray} : ∀ {ms : List Me} {i : Nat}, ixN s ms = some i → ∃ m, ms[i]? = some m ∧ m.name = s
  | m :: r, i, h => by
    unfold ixN at h
    by_cases e : m.name = s
    · rw [if_pos e] at h; cases h; exact ⟨m, rfl, e⟩
    · rw [if_neg e] at h
      cases hr : ixN s r with
      | none => rw [hr] at h; cases h
      | some j => rw [hr] at h; cases h; obtain ⟨m', h1, h2⟩ := ixN_some hr; exact ⟨m', h1, h2⟩
theorem ixN_none {s : ByteArray} : ∀ {ms : List Me}, ixN s ms = none → ∀ m ∈ ms, m.name ≠ s
  | [], _ => fun m hm => by cases hm
  | m :: r, h => by
    unfold ixN at h
    by_cases e : m.name = s
    · rw [if_pos e] at h; cases h
    · rw [if_neg e] at h
      cases hr : ixN s r with
      | some j => rw [hr] at h; cases h
      | none =>
        intro x hx
        rcases List.mem_cons.1 hx with rfl | hx
        · exact e
        · exact ixN_none hr x hx
theorem rise_at {ms : List Me} (h : Rise ms) {i j : Nat} {a b : Me} (hi : ms[i]? = some a) (hj : ms[j]? = some b) (hij : i < j) : ltS a.name b.name = true := by
  obtain ⟨hi1, rfl⟩ := List.getElem?_eq_some_iff.1 hi
  obtain ⟨hj1, rfl⟩ := List.getElem?_eq_some_iff.1 hj
  exact List.pairwise_iff_getElem.1 h i j hi1 hj1 hij
theorem rise_ix {ms : List Me} (h : Rise ms) {i : Nat} {m : Me} (hm : ms[i]? = some m) : ixN m.name ms = some i := by
  cases hx : ixN m.name ms with
  | none => exact absurd rfl (ixN_none hx m (List.mem_of_getElem? hm))
  | some j =>
    obtain ⟨m', h1, h2⟩ := ixN_some hx
    rcases Nat.lt_trichotomy i j with hij | hij | hij
    · have := rise_at h hm h1 hij; rw [h2, lt_irr] at this; cases this
    · rw [hij]
    · have := rise_at h h1 hm hij; rw [h2, lt_irr] at this; cases this
theorem class_order_eq (N : Nat) (m : Me) (s : ByteArray) : class_order N m s = some (if ltS m.name s = true then -1 else if m.name = s then 0 else 1) := by
  unfold class_order cmp_Compare_string cmp_isNaN_string
  cases h : ltS m.name s
  · by_cases e : m.name = s <;> simp [e]
  · simp
theorem bsearch_l1 (N : Nat) (ms : List Me) (s : ByteArray) (hl : ms.length ≤ 1048576) (hr : Rise ms) : ∀ (n : Nat) (a b : Nat), a ≤ b → b ≤ ms.length → b - a < n →
    (∀ i m, i < a → ms[i]? = some m → ltS m.name s = true) → (∀ i m, b ≤ i → ms[i]? = some m → ltS m.name s = false) →
    ∃ v : Nat, slices_BinarySearchFunc_api_Method_api_Method_string_l1 N ms s (fun x0_ x1_ => class_order N x0_ x1_) n (a : Int) (b : Int) = some (v : Int) ∧ v ≤ ms.length ∧
      (∀ i m, i < v → ms[i]? = some m → ltS m.name s = true) ∧ (∀ i m, v ≤ i → ms[i]? = some m → ltS m.name s = false)
  | 0, a, b, _, _, h, _, _ => by omega
  | n + 1, a, b, hab, hb, hn, ha, hbb => by
    rw [slices_BinarySearchFunc_api_Method_api_Method_string_l1]
    by_cases hlt : a < b
    · have hlt' : (a : Int) < (b : Int) := by omega
      have w1 : wr ((a : Int) + (b : Int)) = ((a + b : Nat) : Int) := by rw [wr_in (by unfold InR; omega)]; omega
      have w2 : ((a + b : Nat) : Int) / 2 = (((a + b) / 2 : Nat) : Int) := by omega
      have w3 : decide (InR ((((a + b) / 2 : Nat) : Int))) = true := decide_eq_true (by unfold InR; omega)
      have w4 : wr ((((a + b) / 2 : Nat) : Int) + 1) = (((a + b) / 2 + 1 : Nat) : Int) := by rw [wr_in (by unfold InR; omega)]; omega
      have hmid : (a + b) / 2 < ms.length := by omega
      obtain ⟨x, hx⟩ : ∃ x, ms[(a + b) / 2]? = some x := ⟨_, List.getElem?_eq_getElem hmid⟩
      have w5 : (0 : Int) ≤ ((a + b : Nat) : Int) := by omega
      have ho := class_order_eq N x s
      simp only [w1, w2, w3, w4, w5, hlt', nthO_nat, hx, ho, decide_true, cond_true, Option.bind_some]
      cases hc : ltS x.name s with
      | true =>
        simp only [if_true, show ((-1 : Int) < 0) = True by simp, decide_true, cond_true, Option.bind_some]
        refine bsearch_l1 N ms s hl hr n _ b (by omega) hb (by omega) (fun i m hi hm => ?_) hbb
        rcases Nat.lt_or_ge i ((a + b) / 2) with h | h
        · exact lt_trans (rise_at hr hm hx h) hc
        · have e : i = (a + b) / 2 := by omega
          subst e; rw [hx] at hm; cases hm; exact hc
      | false =>
        have hd : ∀ i m, (a + b) / 2 ≤ i → ms[i]? = some m → ltS m.name s = false := by
          intro i m hi hm
          rcases Nat.lt_or_ge ((a + b) / 2) i with h | h
          · cases hq : ltS m.name s with
            | false => rfl
            | true => have := lt_trans (rise_at hr hx hm h) hq; rw [hc] at this; cases this
          · have e : i = (a + b) / 2 := by omega
            subst e; rw [hx] at hm; cases hm; exact hc
        have hz : decide ((if false = true then (-1 : Int) else if x.name = s then 0 else 1) < 0) = false := by
          by_cases e : x.name = s <;> simp [e]
        rw [hz]
        simp only [cond_false, Option.bind_some]
        exact bsearch_l1 N ms s hl hr n a _ (by omega) (by omega) (by omega) ha hd
    · have hlt' : ¬ (a : Int) < (b : Int) := by omega
      simp only [hlt', decide_false, cond_false]
      have e : a = b := by omega
      subst e
      exact ⟨a, rfl, hb, ha, hbb⟩
theorem bsearch_eq (N : Nat) (ms : List Me) (s : ByteArray) (hN : 1048577 ≤ N) (hl : ms.length ≤ 1048576) (hr : Rise ms) :
    ∃ v : Int, slices_BinarySearchFunc_api_Method_api_Method_string N ms s (fun x0_ x1_ => class_order N x0_ x1_) = some (v, (ixN s ms).isSome) ∧ ∀ i, ixN s ms = some i → v = i := by
  obtain ⟨v, hv, hle, h1, h2⟩ := bsearch_l1 N ms s hl hr N 0 ms.length (by omega) (by omega) (by omega) (fun i m h => absurd h (by omega)) (fun i m h hm => by
    have := (List.getElem?_eq_some_iff.1 hm).1; omega)
  refine ⟨(v : Int), ?_, ?_⟩
  · unfold slices_BinarySearchFunc_api_Method_api_Method_string
    have hv' : slices_BinarySearchFunc_api_Method_api_Method_string_l1 N ms s (fun x0_ x1_ => class_order N x0_ x1_) N (0 : Int) (ms.length : Int) = some (v : Int) := hv
    rw [hv']
    simp only [Option.bind_some]
    by_cases hlt : v < ms.length
    · have hlt' : (v : Int) < (ms.length : Int) := by omega
      obtain ⟨x, hx⟩ : ∃ x, ms[v]? = some x := ⟨_, List.getElem?_eq_getElem hlt⟩
      have hf := h2 v x (Nat.le_refl _) hx
      simp only [hlt', decide_true, cond_true, nthO_nat, hx, Option.bind_some, class_order_eq, hf]
      by_cases e : x.name = s
      · have := rise_ix hr hx
        rw [e] at this
        simp [e, this]
      · cases hi : ixN s ms with
        | none => simp [e]
        | some i =>
          obtain ⟨m', hm1, hm2⟩ := ixN_some hi
          rcases Nat.lt_trichotomy i v with h | h | h
          · have := h1 i m' h hm1; rw [hm2, lt_irr] at this; cases this
          · subst h; rw [hx] at hm1; cases hm1; exact absurd hm2 e
          · have := rise_at hr hx hm1 h
            rw [hm2] at this; rw [hf] at this; cases this
    · have hlt' : ¬ (v : Int) < (ms.length : Int) := by omega
      simp only [hlt', decide_false, cond_false, Option.bind_some]
      cases hi : ixN s ms with
      | none => rfl
      | some i =>
        obtain ⟨m', hm1, hm2⟩ := ixN_some hi
        have := (List.getElem?_eq_some_iff.1 hm1).1
        have := h1 i m' (by omega) hm1
        rw [hm2, lt_irr] at this; cases this
  · intro i hi
    obtain ⟨m', hm1, hm2⟩ := ixN_some hi
    have hlen := (List.getElem?_eq_some_iff.1 hm1).1
    rcases Nat.lt_trichotomy i v with h | h | h
    · have := h1 i m' h hm1; rw [hm2, lt_irr] at this; cases this
    · rw [h]
    · obtain ⟨x, hx⟩ : ∃ x, ms[v]? = some x := ⟨ms[v]'(by omega), List.getElem?_eq_getElem (by omega)⟩
      have := rise_at hr hx hm1 h
      rw [hm2] at this
      rw [h2 v x (Nat.le_refl _) hx] at this; cases this
/-- found in a class, or above it: in which one, as which -/
def findO (w : Wd) (s : ByteArray) : Nat → Int → Option (Int × Int)
  | 0, _ => none
  | n + 1, c => if 0 ≤ c then (match w.classes[c.toNat]? with
    | some x => (match ixN s x.methods with | some i => some (c, (i : Int)) | none => findO w s n x.super)
    | none => none) else none
def findN (w : Wd) (s : ByteArray) (c : Int) : Int × Int := (findO w s (w.classes.length + 1) c).getD (-1, -1)
/-- all classes' methods rise; no list is great -/
def RiseW (w : Wd) : Prop := ∀ x ∈ w.classes, Rise x.methods
def SmallW (w : Wd) : Prop := w.classes.length ≤ 1048576 ∧ w.heap.length ≤ 1048576 ∧ (∀ x ∈ w.classes, x.methods.length ≤ 1048576 ∧ ∀ m ∈ x.methods, m.code.length ≤ 1048576) ∧ ∀ o ∈ w.heap, o.slots.length ≤ 1048576
def ctlO {σ : Type} (o : Option (Int × Int)) (s : σ) : Ctl (Int × Int) σ := match o with | some p => .ret p | none => .next s
theorem class_Find_l1_eq (N : Nat) (w : Wd) (s : ByteArray) (hN : 1048577 ≤ N) (hw : RiseW w) (hs : SmallW w) : ∀ (n : Nat) (k : Nat) (c : Int), k ≤ w.classes.length + 1 → w.classes.length + 1 - k < n →
    class_Find_l1 N w s n c (k : Int) = some (ctlO (findO w s (w.classes.length + 1 - k) c) ())
  | 0, k, c, _, h => by omega
  | n + 1, k, c, hk, hn => by
    rw [class_Find_l1]
    by_cases h0 : 0 ≤ c
    · by_cases h1 : c < w.classes.length
      · obtain ⟨x, hx, hnth⟩ := nthO_in h0 h1
        by_cases h2 : k ≤ w.classes.length
        · have h2' : (k : Int) ≤ (w.classes.length : Int) := by omega
          have hxm := List.mem_of_getElem? hx
          obtain ⟨v, hv, hvi⟩ := bsearch_eq N x.methods s hN (hs.2.2.1 x hxm).1 (hw x hxm)
          have e : w.classes.length + 1 - k = (w.classes.length + 1 - (k + 1)) + 1 := by omega
          have wk : wr ((k : Int) + 1) = ((k + 1 : Nat) : Int) := by rw [wr_in (by have := hs.1; unfold InR; omega)]; omega
          rw [e, findO]
          simp only [h0, h1, h2', decide_true, cond_true, Option.bind_some, hnth, hv, hx, if_true, wk]
          cases hi : ixN s x.methods with
          | some i => have := hvi i hi; subst this; rfl
          | none =>
            simp only [Option.isSome_none, cond_false]
            exact class_Find_l1_eq N w s hN hw hs n (k + 1) x.super (by omega) (by omega)
        · have h2' : ¬ (k : Int) ≤ (w.classes.length : Int) := by omega
          have e : w.classes.length + 1 - k = 0 := by omega
          simp only [h0, h1, h2', decide_true, decide_false, cond_true, cond_false, Option.bind_some, e]
          rfl
      · have : findO w s (w.classes.length + 1 - k) c = none := by
          cases w.classes.length + 1 - k with
          | zero => rfl
          | succ n => rw [findO, if_pos h0, nthO_out h1]
        simp only [h0, h1, decide_true, decide_false, cond_true, cond_false, Option.bind_some, this]
        rfl
    · have : findO w s (w.classes.length + 1 - k) c = none := by
        cases w.classes.length + 1 - k with
        | zero => rfl
        | succ n => rw [findO, if_neg h0]
      simp only [h0, decide_false, cond_false, Option.bind_some, this]
      rfl
theorem class_Find_eq (N : Nat) (w : Wd) (c : Int) (s : ByteArray) (hN : 1048578 ≤ N) (hw : RiseW w) (hs : SmallW w) : class_Find N w c s = some (findN w s c) := by
  unfold class_Find findN
  have h := class_Find_l1_eq N w s (by omega) hw hs N 0 c (by omega) (by have := hs.1; omega)
  have h' : class_Find_l1 N w s N c (0 : Int) = some (ctlO (findO w s (w.classes.length + 1) c) ()) := h
  rw [h']
  cases findO w s (w.classes.length + 1) c <;> rfl
/-- a class, and all above it -/
def upsN (w : Wd) : Nat → Int → List Int
  | 0, _ => []
  | n + 1, c => if 0 ≤ c then (match w.classes[c.toNat]? with | some x => c :: upsN w n x.super | none => []) else []
theorem upsN_len (w : Wd) : ∀ (n : Nat) (c : Int), (upsN w n c).length ≤ n
  | 0, _ => Nat.le_refl _
  | n + 1, c => by
    rw [upsN]
    split
    · split
      · have := upsN_len w n; simp only [List.length_cons]; exact Nat.succ_le_succ (this _)
      · simp
    · simp
theorem upsN_in (w : Wd) : ∀ (n : Nat) (c : Int), ∀ k ∈ upsN w n c, 0 ≤ k ∧ k < w.classes.length
  | 0, _, k, h => by cases h
  | n + 1, c, k, h => by
    rw [upsN] at h
    split at h
    · split at h
      · rename_i h0 _ x hx
        rcases List.mem_cons.1 h with rfl | h
        · exact ⟨h0, by have := (List.getElem?_eq_some_iff.1 hx).1; omega⟩
        · exact upsN_in w n _ k h
      · cases h
    · cases h
theorem qcref1_Ups_l1_eq (N : Nat) (w : Wd) (hs : w.classes.length ≤ 1048576) : ∀ (n : Nat) (c : Int) (acc : List Int), acc.length ≤ w.classes.length + 1 → w.classes.length + 1 - acc.length < n →
    qcref1_Ups_l1 N w n c acc = some (acc ++ upsN w (w.classes.length + 1 - acc.length) c)
  | 0, c, acc, _, h => by omega
  | n + 1, c, acc, hk, hn => by
    rw [qcref1_Ups_l1]
    by_cases h0 : 0 ≤ c
    · by_cases h1 : c < w.classes.length
      · obtain ⟨x, hx, hnth⟩ := nthO_in h0 h1
        by_cases h2 : acc.length ≤ w.classes.length
        · have h2' : (acc.length : Int) ≤ (w.classes.length : Int) := by omega
          have e : w.classes.length + 1 - acc.length = (w.classes.length + 1 - (acc ++ [c]).length) + 1 := by simp; omega
          have hb : Nat.ble ((acc.length + [c].length) * 8) 140737488355328 = true := ble_true (by simp; omega)
          rw [e, upsN]
          simp only [h0, h1, h2', decide_true, cond_true, Option.bind_some, hnth, hx, if_true, hb]
          rw [qcref1_Ups_l1_eq N w hs n x.super (acc ++ [c]) (by simp; omega) (by simp; omega)]
          simp
        · have h2' : ¬ (acc.length : Int) ≤ (w.classes.length : Int) := by omega
          have e : w.classes.length + 1 - acc.length = 0 := by omega
          simp [h0, h1, h2', e, upsN]
      · have : upsN w (w.classes.length + 1 - acc.length) c = [] := by
          cases w.classes.length + 1 - acc.length with
          | zero => rfl
          | succ n => rw [upsN, if_pos h0, nthO_out h1]
        simp [h0, h1, this]
    · have : upsN w (w.classes.length + 1 - acc.length) c = [] := by
        cases w.classes.length + 1 - acc.length with
        | zero => rfl
        | succ n => rw [upsN, if_neg h0]
      simp [h0, this]
theorem qcref1_Ups_eq (N : Nat) (w : Wd) (c : Int) (hN : 1048578 ≤ N) (hs : w.classes.length ≤ 1048576) : qcref1_Ups N w c = some (upsN w (w.classes.length + 1) c) := by
  unfold qcref1_Ups
  rw [qcref1_Ups_l1_eq N w hs N c [] (by simp) (by simp; omega)]
  rfl
/-- how many slots -/
def slotsN (w : Wd) (c : Int) : Int := (upsN w (w.classes.length + 1) c).foldl (fun n k => match w.classes[k.toNat]? with | some x => wr (n + x.slots) | none => n) 0
theorem qcref1_Slots_l1_eq (N : Nat) (w : Wd) (L : List Int) (hL : ∀ k ∈ L, 0 ≤ k ∧ k < w.classes.length) : ∀ (l : List Int) (k : Nat) (n : Int), l = L.drop k →
    qcref1_Slots_l1 N w L l k n = some (l.foldl (fun n k => match w.classes[k.toNat]? with | some x => wr (n + x.slots) | none => n) n)
  | [], k, n, _ => rfl
  | c :: l, k, n, h => by
    obtain ⟨h1, h2, _⟩ := restCons h
    obtain ⟨c0, c1⟩ := hL c (List.mem_of_getElem? h1)
    obtain ⟨x, hx, hnth⟩ := nthO_in c0 c1
    rw [qcref1_Slots_l1]
    simp only [nthO_nat, h1, Option.bind_some, hnth, List.foldl_cons, hx]
    exact qcref1_Slots_l1_eq N w L hL l (k + 1) _ h2
theorem qcref1_Slots_eq (N : Nat) (w : Wd) (c : Int) (hN : 1048578 ≤ N) (hs : w.classes.length ≤ 1048576) : qcref1_Slots N w c = some (slotsN w c) := by
  unfold qcref1_Slots slotsN
  rw [qcref1_Ups_eq N w c hN hs]
  simp only [Option.bind_some]
  rw [qcref1_Slots_l1_eq N w _ (upsN_in w _ c) (upsN w (w.classes.length + 1) c) 0 0 rfl]
  rfl
theorem qcref1_Find_l2_eq (N : Nat) (s : ByteArray) (c : Int) : ∀ (ms : List Me) (k : Nat), qcref1_Find_l2 N s c ms k = some (ctlO ((ixN s ms).map fun i => (c, ((k + i : Nat) : Int))) ())
  | [], k => rfl
  | m :: r, k => by
    rw [qcref1_Find_l2, ixN]
    by_cases e : m.name = s
    · simp [e, ctlO]
    · simp only [e, decide_false, cond_false, if_false]
      rw [qcref1_Find_l2_eq N s c r (k + 1)]
      cases ixN s r with
      | none => rfl
      | some i => simp [ctlO]; omega
theorem findO_ups (w : Wd) (s : ByteArray) (N : Nat) (L : List Int) : ∀ (n : Nat) (c : Int) (k : Nat), upsN w n c = L.drop k →
    qcref1_Find_l1 N w s L (upsN w n c) k = some (ctlO (findO w s n c) ())
  | 0, c, k, _ => rfl
  | n + 1, c, k, h => by
    rw [findO]
    rw [upsN] at h ⊢
    by_cases h0 : 0 ≤ c
    · rw [if_pos h0] at h ⊢
      rw [if_pos h0]
      cases hx : w.classes[c.toNat]? with
      | none => rfl
      | some x =>
        rw [hx] at h
        simp only at h ⊢
        obtain ⟨h1, h2, _⟩ := restCons h
        have hnth : nthO w.classes c = some x := by rw [nthO_pos h0, hx]
        rw [qcref1_Find_l1]
        simp only [nthO_nat, h1, Option.bind_some, hnth, qcref1_Find_l2_eq]
        cases hi : ixN s x.methods with
        | some i => simp [ctlO]
        | none =>
          simp only [Option.map_none, ctlO]
          exact findO_ups w s N L n x.super (k + 1) h2
    · rw [if_neg h0] at h ⊢
      rw [if_neg h0]
      rfl
theorem qcref1_Find_eq (N : Nat) (w : Wd) (c : Int) (s : ByteArray) (hN : 1048578 ≤ N) (hs : w.classes.length ≤ 1048576) : qcref1_Find N w c s = some (findN w s c) := by
  unfold qcref1_Find findN
  rw [qcref1_Ups_eq N w c hN hs]
  simp only [Option.bind_some]
  rw [findO_ups w s N _ _ c 0 rfl]
  cases findO w s (w.classes.length + 1) c <;> rfl
theorem findO_in (w : Wd) (s : ByteArray) : ∀ (n : Nat) (c : Int) (p : Int × Int), findO w s n c = some p → 0 ≤ p.1 ∧ 0 ≤ p.2 ∧ ∃ x m, w.classes[p.1.toNat]? = some x ∧ x.methods[p.2.toNat]? = some m ∧ m.name = s
  | 0, c, p, h => by cases h
  | n + 1, c, p, h => by
    rw [findO] at h
    by_cases h0 : 0 ≤ c
    · rw [if_pos h0] at h
      cases hx : w.classes[c.toNat]? with
      | none => rw [hx] at h; cases h
      | some x =>
        rw [hx] at h
        simp only at h
        cases hi : ixN s x.methods with
        | none => rw [hi] at h; exact findO_in w s n _ p h
        | some i =>
          rw [hi] at h
          cases h
          obtain ⟨m, h1, h2⟩ := ixN_some hi
          exact ⟨h0, Int.natCast_nonneg _, x, m, hx, h1, h2⟩
    · rw [if_neg h0] at h; cases h
theorem findN_in {w : Wd} {s : ByteArray} {c : Int} (h : 0 ≤ (findN w s c).2) : ∃ x m, nthO w.classes (findN w s c).1 = some x ∧ nthO x.methods (findN w s c).2 = some m ∧ m.name = s := by
  unfold findN at h ⊢
  cases hf : findO w s (w.classes.length + 1) c with
  | none => rw [hf] at h; exact absurd h (by decide)
  | some p =>
    obtain ⟨h0, h1, x, m, hx, hm, hn⟩ := findO_in w s _ c p hf
    exact ⟨x, m, by rw [Option.getD_some, nthO_pos h0, hx], by rw [Option.getD_some, nthO_pos h1, hm], hn⟩
end Go.Proofs.Ytioalgofaiideaa
