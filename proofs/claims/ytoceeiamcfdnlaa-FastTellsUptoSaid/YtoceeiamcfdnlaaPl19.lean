import Derived.Test.YtoceeiamcfdnlaaPl15
import Derived.Test.YtoceeiamcfdnlaaPl10
/- Plain laws of the mirrors: fast code, as the program and as the reference write it. No program in sight. -/
namespace Go.Proofs.Ytoceeiamcfdnlaa
open Go.RowKit
set_option linter.unusedVariables false
theorem numN_ok {w : Wd} {c : Int} {m : Me} {i : Ins} (h : numN w c m i = 0) (hl : w.classes.length ≤ 1048576) (ha : m.args ≤ 1000) (ht : m.temps ≤ 1000) (hs : slotsN w c ≤ 1000000000) (hc : m.code.length ≤ 1048576) :
    -2000000000 ≤ i.a ∧ i.a ≤ 2000000000 ∧ (i.op ≠ 14 → i.name = ByteArray.empty) ∧ i.b = 0 ∧ i.c = 0 := by
  have hf : formN i = false ∧ numOkN w c m i = some true := by
    unfold numN at h
    cases hn : numOkN w c m i with
    | none => rw [hn] at h; cases h
    | some b =>
      rw [hn] at h
      cases b with
      | false => simp at h
      | true =>
        cases hf : formN i with
        | true => simp [hf] at h
        | false => exact ⟨rfl, rfl⟩
  obtain ⟨h1, h2⟩ := hf
  have hn : (i.op ≠ 14 → i.name = ByteArray.empty) ∧ i.b = 0 ∧ i.c = 0 := by
    unfold formN at h1
    by_cases h14 : i.op = 14
    · simp only [h14, decide_true, Bool.not_true, Bool.false_and, Bool.true_and, Bool.or_false, Bool.or_eq_false_iff, Bool.not_eq_eq_eq_not, Bool.not_false, decide_eq_true_eq] at h1
      exact ⟨fun h => absurd h14 h, h1.1.2, h1.2⟩
    · simp only [h14, decide_false, Bool.not_false, Bool.false_and, Bool.true_and, Bool.false_or, Bool.or_eq_false_iff, Bool.not_eq_eq_eq_not, decide_eq_true_eq] at h1
      exact ⟨fun _ => h1.1.1, h1.1.2, h1.2⟩
  refine ⟨?_, ?_, hn.1, hn.2.1, hn.2.2⟩ <;>
  · unfold numOkN at h2
    (repeat' split at h2) <;> simp at h2 <;> omega
/-- an instruction of a method that stands in: s: where its own begin, f: where its code does -/
def insR (s : Int) (y : Me) (f : Int) (i : Ins) : Ins :=
  if i.op = 1 then ⟨3, s, 0, 0, ByteArray.empty⟩ else if i.op = 2 then ⟨3, s + 1 + i.a, 0, 0, ByteArray.empty⟩ else if i.op = 3 ∨ i.op = 11 then ⟨i.op, s + 1 + y.args + i.a, 0, 0, ByteArray.empty⟩
  else if i.op = 4 then ⟨19, s, i.a, 0, ByteArray.empty⟩ else if i.op = 12 then ⟨20, s, i.a, 0, ByteArray.empty⟩ else if i.op = 15 ∨ i.op = 16 then ⟨i.op, f + i.a, 0, 0, ByteArray.empty⟩
  else if i.op = 17 then ⟨15, f + y.code.length, 0, 0, ByteArray.empty⟩ else ⟨i.op, i.a, 0, 0, ByteArray.empty⟩
def setsF (s : Int) : Nat → List Ins
  | 0 => []
  | v + 1 => ⟨11, s + v, 0, 0, ByteArray.empty⟩ :: setsF s v
def tempsF (b : Int) : Nat → Nat → List Ins
  | 0, _ => []
  | n + 1, k => ⟨6, 0, 0, 0, ByteArray.empty⟩ :: ⟨11, b + k, 0, 0, ByteArray.empty⟩ :: tempsF b n (k + 1)
theorem setsF_len (s : Int) : ∀ n, (setsF s n).length = n
  | 0 => rfl
  | n + 1 => by simp [setsF, setsF_len s n]
theorem tempsF_len (b : Int) : ∀ n k, (tempsF b n k).length = 2 * n
  | 0, _ => rfl
  | n + 1, k => by simp [tempsF, tempsF_len b n (k + 1)]; omega
/-- how much stands ahead of its code -/
def hl (y : Me) : Nat := 3 + y.args.toNat + 2 * y.temps.toNat
def pieceN (y : Me) (s c p : Int) (base : Nat) : List Ins :=
  ⟨18, c, y.args, p, ByteArray.empty⟩ :: ⟨21, 0, 0, 0, ByteArray.empty⟩ :: (setsF s (y.args.toNat + 1) ++ tempsF (s + 1 + y.args) y.temps.toNat 0 ++ y.code.map (insR s y ((base + hl y : Nat) : Int)))
theorem pieceN_len (y : Me) (s c p : Int) (base : Nat) : (pieceN y s c p base).length = sizeN y := by
  simp only [pieceN, List.length_cons, List.length_append, setsF_len, tempsF_len, List.length_map, sizeN]; omega
/-- a method that may stand in -/
structure Leaf0 (y : Me) : Prop extends Leafy y where
  num : ∀ i ∈ y.code, -2000000000 ≤ i.a ∧ i.a ≤ 2000000000 ∧ (i.op ≠ 14 → i.name = ByteArray.empty) ∧ i.b = 0 ∧ i.c = 0
theorem send_l1_is (N : Nat) (x0 : TWriter) (w : Wd) (m : Me) (t : Int) (at_ fix : List Int) (hx : 0 ≤ x0.temps ∧ x0.temps ≤ 1000) : ∀ (n : Nat) (v : Nat) (out : List Ins), v < n → v ≤ 100 → out.length + v ≤ 900000 →
    inline_writer_send_l1 N x0 n w m out t at_ fix ((v : Int) - 1) = some (w, m, out ++ setsF x0.temps v, t, at_, fix)
  | 0, v, out, h, _, _ => by omega
  | n + 1, 0, out, _, _, _ => by
    rw [inline_writer_send_l1]
    have hq : ¬ (0 : Int) ≤ ((0 : Nat) : Int) - 1 := by omega
    simp only [hq, decide_false, cond_false, setsF, List.append_nil]
  | n + 1, v + 1, out, h, hv, ho => by
    rw [inline_writer_send_l1]
    have h0 : (0 : Int) ≤ (((v + 1 : Nat) : Int) - 1) := by omega
    have w1 : wr ((((v + 1 : Nat) : Int) - 1) - 1) = (v : Int) - 1 := by rw [wr_in (by unfold InR; omega)]; omega
    have w2 : wr (x0.temps + (((v + 1 : Nat) : Int) - 1)) = x0.temps + (v : Int) := by rw [wr_in (by unfold InR; omega)]; omega
    simp only [h0, decide_true, cond_true, w2, put_eq N w m out t at_ fix _ _ _ _ (show out.length ≤ 1000000 by omega), Option.bind_some, w1]
    rw [send_l1_is N x0 w m t at_ fix hx n v _ (by omega) (by omega) (by simp; omega)]
    simp [setsF]
theorem send_l2_is (N : Nat) (x0 : TWriter) (y : Me) (hy : Leafy y) (w : Wd) (m : Me) (t : Int) (at_ fix : List Int) (hx : 0 ≤ x0.temps ∧ x0.temps ≤ 1000) : ∀ (n : Nat) (k : Nat) (out : List Ins), n + k ≤ 100 → out.length + 2 * n ≤ 900000 →
    inline_writer_send_l2 N x0 y n k w m out t at_ fix = some (w, m, out ++ tempsF (x0.temps + 1 + y.args) n k, t, at_, fix)
  | 0, k, out, _, _ => by simp [inline_writer_send_l2, tempsF]
  | n + 1, k, out, hn, ho => by
    rw [inline_writer_send_l2]
    have ha := hy.args
    have w2 : wr (wr (wr (x0.temps + 1) + y.args) + (k : Int)) = x0.temps + 1 + y.args + k := by
      rw [wr_in (show InR (x0.temps + 1) by unfold InR; omega), wr_in (show InR (x0.temps + 1 + y.args) by unfold InR; omega), wr_in (by unfold InR; omega)]
    simp only [w2, put_eq N w m out t at_ fix _ _ _ _ (show out.length ≤ 1000000 by omega), Option.bind_some]
    rw [put_eq N w m _ t at_ fix _ _ _ _ (by simp; omega)]
    simp only [Option.bind_some]
    rw [send_l2_is N x0 y hy w m t at_ fix hx n (k + 1) _ (by omega) (by simp; omega)]
    simp [tempsF]
theorem send_l3_is (N : Nat) (x0 : TWriter) (y : Me) (hy : Leaf0 y) (V : List Ins) (hV : V.length ≤ 100000) (w : Wd) (m : Me) (t : Int) (at_ fix : List Int) (hx : 0 ≤ x0.temps ∧ x0.temps ≤ 1000) : ∀ (r : List Ins) (k : Nat) (out : List Ins), (∀ i ∈ r, i ∈ y.code) → out.length + r.length ≤ 900000 →
    inline_writer_send_l3 N x0 y V r k w m out t at_ fix = some (w, m, out ++ r.map (insR x0.temps y (V.length : Int)), t, at_, fix)
  | [], k, out, _, _ => by simp [inline_writer_send_l3]
  | x :: r, k, out, hr, ho => by
    simp only [List.length_cons] at ho
    have hxm := hr x (by simp)
    obtain ⟨b1, b2, b3, b4, b5⟩ := hy.num x hxm
    have ha := hy.args
    have hc := hy.len
    have go := fun v : Ins => send_l3_is N x0 y hy V hV w m t at_ fix hx r (k + 1) (out ++ [v]) (fun i hi => hr i (by simp [hi])) (by simp; omega)
    have pe := fun op a b c => put_eq N w m out t at_ fix op a b c (show out.length ≤ 1000000 by omega)
    have w1 : wr (x0.temps + 1) = x0.temps + 1 := wr_in (by unfold InR; omega)
    have w2 : wr (x0.temps + 1 + x.a) = x0.temps + 1 + x.a := wr_in (by unfold InR; omega)
    have w3 : wr (x0.temps + 1 + y.args) = x0.temps + 1 + y.args := wr_in (by unfold InR; omega)
    have w4 : wr (x0.temps + 1 + y.args + x.a) = x0.temps + 1 + y.args + x.a := wr_in (by unfold InR; omega)
    have w5 : wr ((V.length : Int) + x.a) = V.length + x.a := wr_in (by unfold InR; omega)
    have w6 : wr ((V.length : Int) + (y.code.length : Int)) = V.length + y.code.length := wr_in (by unfold InR; omega)
    rw [inline_writer_send_l3]
    simp only [w1, w2, w3, w4, w5, w6, pe, Option.bind_some]
    have fin : ∀ v : Ins, insR x0.temps y (V.length : Int) x = v → inline_writer_send_l3 N x0 y V r (k + 1) w m (out ++ [v]) t at_ fix = some (w, m, out ++ (x :: r).map (insR x0.temps y (V.length : Int)), t, at_, fix) := by
      intro v hv
      rw [go v, List.map_cons, hv]
      simp
    by_cases h1 : x.op = 1
    · simp only [h1, decide_true, cond_true, Option.bind_some]; exact fin _ (by simp [insR, h1])
    by_cases h2 : x.op = 2
    · simp only [h2, decide_true, cond_true, Option.bind_some]; exact fin _ (by simp [insR, h2])
    by_cases h3 : x.op = 3
    · simp only [h3, decide_true, cond_true, Option.bind_some]; exact fin _ (by simp [insR, h3])
    by_cases h11 : x.op = 11
    · simp only [h11, decide_true]; exact fin _ (by simp [insR, h11])
    by_cases h4 : x.op = 4
    · simp only [h4, decide_true, cond_true, Option.bind_some]; exact fin _ (by simp [insR, h4])
    by_cases h12 : x.op = 12
    · simp only [h12, decide_true, cond_true, Option.bind_some]; exact fin _ (by simp [insR, h12])
    by_cases h15 : x.op = 15
    · simp only [h15, decide_true, cond_true, Option.bind_some]; exact fin _ (by simp [insR, h15])
    by_cases h16 : x.op = 16
    · simp only [h16, decide_true]; exact fin _ (by simp [insR, h16])
    by_cases h17 : x.op = 17
    · simp only [h17, decide_true, cond_true, Option.bind_some]; exact fin _ (by simp [insR, h17])
    simp only [h1, h2, h3, h11, h4, h12, h15, h16, h17, decide_false, cond_false, Option.bind_some]; exact fin _ (by simp [insR, h1, h2, h3, h11, h4, h12, h15, h16, h17])
theorem send_is (N : Nat) (hN : 1000 ≤ N) (w : Wd) (m : Me) (out : List Ins) (t : Int) (at_ fix : List Int) (k : Int) (p : Int) (i : Ins) (y : Me) (hy : Leaf0 y) (hi : y.args = i.a) (ht : 0 ≤ t ∧ t ≤ 40) (ho : out.length ≤ 1000) :
    inline_writer_send N (⟨w, m, out, t, at_, fix⟩ : TWriter) k p i y = some ⟨w, m, out ++ pieceN y t k p out.length, t + (1 + y.args + y.temps), at_, fix⟩ := by
  have h1 := hy.args
  have h2 := hy.temps
  have h3 := hy.len
  unfold inline_writer_send
  have e1 : wr (1 + y.args) = 1 + y.args := wr_in (by unfold InR; omega)
  have e2 : wr (1 + y.args + y.temps) = 1 + y.args + y.temps := wr_in (by unfold InR; omega)
  have e3 : wr (t + (1 + y.args + y.temps)) = t + (1 + y.args + y.temps) := wr_in (by unfold InR; omega)
  simp only [e1, e2, e3]
  rw [put_eq N w m out _ at_ fix _ _ _ _ (by omega)]
  simp only [Option.bind_some]
  rw [put_eq N w m _ _ at_ fix _ _ _ _ (by simp; omega)]
  simp only [Option.bind_some]
  have a1 := send_l1_is N ⟨w, m, out, t, at_, fix⟩ w m (t + (1 + y.args + y.temps)) at_ fix (by show 0 ≤ t ∧ t ≤ 1000; omega) N (y.args.toNat + 1) ((out ++ [⟨18, k, i.a, p, ByteArray.empty⟩]) ++ [⟨21, 0, 0, 0, ByteArray.empty⟩]) (by omega) (by omega) (by simp; omega)
  have e4 : (((y.args.toNat + 1 : Nat) : Int) - 1) = y.args := by omega
  rw [e4] at a1
  rw [a1]
  simp only [Option.bind_some]
  have e5 : (y.temps - ((0 : Nat) : Int)).toNat = y.temps.toNat := by omega
  rw [e5, send_l2_is N ⟨w, m, out, t, at_, fix⟩ y hy.toLeafy w m (t + (1 + y.args + y.temps)) at_ fix (by show 0 ≤ t ∧ t ≤ 1000; omega) y.temps.toNat 0 _ (by omega) (by simp [setsF_len]; omega)]
  simp only [Option.bind_some]
  rw [send_l3_is N ⟨w, m, out, t, at_, fix⟩ y hy _ (by simp [setsF_len, tempsF_len]; omega) w m (t + (1 + y.args + y.temps)) at_ fix (by show 0 ≤ t ∧ t ≤ 1000; omega) y.code 0 _ (fun j hj => hj) (by simp [setsF_len, tempsF_len]; omega)]
  simp only [Option.bind_some]
  have hlen : (((((out ++ [(⟨18, k, i.a, p, ByteArray.empty⟩ : Ins)]) ++ [(⟨21, 0, 0, 0, ByteArray.empty⟩ : Ins)]) ++ setsF t (y.args.toNat + 1)) ++ tempsF (t + 1 + y.args) y.temps.toNat 0).length : Nat) = out.length + hl y := by
    simp only [List.length_append, List.length_cons, List.length_nil, setsF_len, tempsF_len, hl]; omega
  rw [hlen, pieceN, ← hi]
  simp
/-! ### the reference's pieces -/
theorem Piece_l1_is (N : Nat) (y : Me) (hy : Leafy y) (s : Int) (hs : 0 ≤ s ∧ s ≤ 1000) : ∀ (n k : Nat) (out : List Ins), n + k = y.args.toNat → out.length + n ≤ 900000 → qcref5_Piece_l1 N y s n k out = some (out ++ (setsF s (n + 1)).take n)
  | 0, k, out, _, _ => by simp [qcref5_Piece_l1]
  | n + 1, k, out, h, ho => by
    have ha := hy.args
    have w1 : wr (wr (s + y.args) - (k : Int)) = s + ((n + 1 : Nat) : Int) := by
      rw [wr_in (show InR (s + y.args) by unfold InR; omega), wr_in (by unfold InR; omega)]; omega
    rw [qcref5_Piece_l1, ble_true (by simp; omega), w1, Piece_l1_is N y hy s hs n (k + 1) _ (by omega) (by simp; omega)]
    simp [setsF]
theorem setsF_last (s : Int) : ∀ n, setsF s (n + 1) = (setsF s (n + 1)).take n ++ [⟨11, s, 0, 0, ByteArray.empty⟩]
  | 0 => by simp [setsF]
  | n + 1 => by
    rw [setsF, List.take_succ_cons, List.cons_append, ← setsF_last s n]
theorem Piece_l2_is (N : Nat) (y : Me) (hy : Leafy y) (s : Int) (hs : 0 ≤ s ∧ s ≤ 1000) : ∀ (n k : Nat) (out : List Ins), n + k ≤ 100 → out.length + 2 * n ≤ 900000 → qcref5_Piece_l2 N y s n k out = some (out ++ tempsF (s + 1 + y.args) n k)
  | 0, k, out, _, _ => by simp [qcref5_Piece_l2, tempsF]
  | n + 1, k, out, h, ho => by
    have ha := hy.args
    have w2 : wr (wr (wr (s + 1) + y.args) + (k : Int)) = s + 1 + y.args + k := by
      rw [wr_in (show InR (s + 1) by unfold InR; omega), wr_in (show InR (s + 1 + y.args) by unfold InR; omega), wr_in (by unfold InR; omega)]
    rw [qcref5_Piece_l2, ble_true (by simp; omega), w2, cond_true, Piece_l2_is N y hy s hs n (k + 1) _ (by omega) (by simp; omega)]
    simp [tempsF]
theorem Piece_l3_is (N : Nat) (y : Me) (hy : Leaf0 y) (hsend : ∀ i ∈ y.code, i.op ≠ 14) (s : Int) (hs : 0 ≤ s ∧ s ≤ 1000) (V : List Ins) (hV : V.length ≤ 100000) : ∀ (r : List Ins) (k : Nat) (out : List Ins), (∀ i ∈ r, i ∈ y.code) → out.length + r.length ≤ 900000 →
    qcref5_Piece_l3 N y s V r k out = some (out ++ r.map (insR s y (V.length : Int)))
  | [], k, out, _, _ => by simp [qcref5_Piece_l3]
  | x :: r, k, out, hr, ho => by
    simp only [List.length_cons] at ho
    have hxm := hr x (by simp)
    obtain ⟨b1, b2, b3, b4, b5⟩ := hy.num x hxm
    have b3 := b3 (hsend x hxm)
    have ha := hy.args
    have hc := hy.len
    have go := fun v : Ins => Piece_l3_is N y hy hsend s hs V hV r (k + 1) (out ++ [v]) (fun i hi => hr i (by simp [hi])) (by simp; omega)
    have g : ∀ v : Ins, Nat.ble ((out.length + [v].length) * 48) 140737488355328 = true := fun v => ble_true (by simp; omega)
    have w1 : wr (s + 1) = s + 1 := wr_in (by unfold InR; omega)
    have w2 : wr (s + 1 + x.a) = s + 1 + x.a := wr_in (by unfold InR; omega)
    have w3 : wr (s + 1 + y.args) = s + 1 + y.args := wr_in (by unfold InR; omega)
    have w4 : wr (x.a + (s + 1 + y.args)) = s + 1 + y.args + x.a := by rw [wr_in (by unfold InR; omega)]; omega
    have w5 : wr (x.a + (V.length : Int)) = V.length + x.a := by rw [wr_in (by unfold InR; omega)]; omega
    have w6 : wr ((V.length : Int) + (y.code.length : Int)) = V.length + y.code.length := wr_in (by unfold InR; omega)
    rw [qcref5_Piece_l3]
    simp only [w1, w2, w3, w4, w5, w6, b3, b4, b5]
    have fin : ∀ v : Ins, insR s y (V.length : Int) x = v → (bif Nat.ble ((out.length + [v].length) * 48) 140737488355328 then qcref5_Piece_l3 N y s V r (k + 1) (out ++ [v]) else none) = some (out ++ (x :: r).map (insR s y (V.length : Int))) := by
      intro v hv
      rw [g, cond_true, go v, List.map_cons, hv]
      simp
    by_cases h1 : x.op = 1
    · simp only [h1, decide_true, cond_true, Option.bind_some]; exact fin _ (by simp [insR, h1])
    by_cases h2 : x.op = 2
    · simp only [h2, decide_true, cond_true, Option.bind_some]; exact fin _ (by simp [insR, h2])
    by_cases h3 : x.op = 3
    · simp only [h3, decide_true, cond_true, Option.bind_some]; exact fin _ (by simp [insR, h3])
    by_cases h11 : x.op = 11
    · simp only [h11, decide_true]; exact fin _ (by simp [insR, h11])
    by_cases h4 : x.op = 4
    · simp only [h4, decide_true, cond_true, Option.bind_some]; exact fin _ (by simp [insR, h4])
    by_cases h12 : x.op = 12
    · simp only [h12, decide_true, cond_true, Option.bind_some]; exact fin _ (by simp [insR, h12])
    by_cases h15 : x.op = 15
    · simp only [h15, decide_true, cond_true, Option.bind_some]; exact fin _ (by simp [insR, h15])
    by_cases h16 : x.op = 16
    · simp only [h16, decide_true]; exact fin _ (by simp [insR, h16])
    by_cases h17 : x.op = 17
    · simp only [h17, decide_true, cond_true, Option.bind_some]; exact fin _ (by simp [insR, h17])
    simp only [h1, h2, h3, h11, h4, h12, h15, h16, h17, decide_false, cond_false, Option.bind_some]
    refine fin _ ?_
    have : x = ⟨x.op, x.a, x.b, x.c, x.name⟩ := rfl
    rw [this, b3, b4, b5]
    simp [insR, h1, h2, h3, h11, h4, h12, h15, h16, h17]
theorem Piece_is (N : Nat) (y : Me) (hy : Leaf0 y) (hsend : ∀ i ∈ y.code, i.op ≠ 14) (s c p : Int) (hs : 0 ≤ s ∧ s ≤ 1000) : qcref5_Piece N y s c p = some (pieceN y s c p 0) := by
  have h1 := hy.args
  have h2 := hy.temps
  have h3 := hy.len
  unfold qcref5_Piece
  have e1 : (y.args - ((0 : Nat) : Int)).toNat = y.args.toNat := by omega
  have e2 : (y.temps - ((0 : Nat) : Int)).toNat = y.temps.toNat := by omega
  rw [e1, Piece_l1_is N y hy.toLeafy s hs y.args.toNat 0 _ (by omega) (by simp; omega)]
  simp only [Option.bind_some]
  have hsl := setsF_len s (y.args.toNat + 1)
  have hsl2 : ((setsF s (y.args.toNat + 1)).take y.args.toNat).length = y.args.toNat := by rw [List.length_take, hsl]; omega
  rw [ble_true (by simp [hsl2]; omega), cond_true, List.append_assoc, ← setsF_last, e2, Piece_l2_is N y hy.toLeafy s hs y.temps.toNat 0 _ (by omega) (by simp [hsl]; omega)]
  simp only [Option.bind_some]
  rw [Piece_l3_is N y hy hsend s hs _ (by simp [hsl, tempsF_len]; omega) y.code 0 _ (fun i hi => hi) (by simp [hsl, tempsF_len]; omega)]
  have hlen : ((([(⟨18, c, y.args, p, ByteArray.empty⟩ : Ins), (⟨21, 0, 0, 0, ByteArray.empty⟩ : Ins)] ++ setsF s (y.args.toNat + 1)) ++ tempsF (s + 1 + y.args) y.temps.toNat 0).length : Nat) = 0 + hl y := by
    simp only [List.length_append, List.length_cons, List.length_nil, setsF_len, tempsF_len, hl]; omega
  rw [hlen, pieceN]
  simp
end Go.Proofs.Ytoceeiamcfdnlaa

/- Plain laws of the mirrors: fast code, item by item; the program's is the reference's. No program in sight. -/
namespace Go.Proofs.Ytoceeiamcfdnlaa
open Go.RowKit
set_option linter.unusedVariables false
inductive Itm where
  | pl (i : Ins)
  | pc (y : Me) (s c p : Int)
def Itm.out (b : Nat) : Itm → List Ins
  | .pl i => [i]
  | .pc y s c p => pieceN y s c p b
def Itm.len : Itm → Nat
  | .pl _ => 1
  | .pc y _ _ _ => sizeN y
def Itm.isPc : Itm → Bool
  | .pl _ => false
  | .pc _ _ _ _ => true
theorem Itm.out_len (b : Nat) (x : Itm) : (x.out b).length = x.len := by cases x <;> simp [Itm.out, Itm.len, pieceN_len]
def jmpB (i : Ins) : Bool := decide (i.op = 15) || decide (i.op = 16)
def outOf : List Itm → Nat → List Ins
  | [], _ => []
  | x :: l, b => x.out b ++ outOf l (b + x.len)
def beginsOf : List Itm → Nat → List Int
  | [], _ => []
  | x :: l, b => (b : Int) :: beginsOf l (b + x.len)
def fixOf : List Itm → Nat → List Int
  | [], _ => []
  | .pl i :: l, b => if jmpB i = true then (b : Int) :: fixOf l (b + 1) else fixOf l (b + 1)
  | .pc y s c p :: l, b => fixOf l (b + sizeN y)
def setA (i : Ins) (a : Int) : Ins := ⟨i.op, a, i.b, i.c, i.name⟩
/-- a plain jump leads to where the instruction begins now -/
def jmpI (bs : List Int) (i : Ins) : Ins := if jmpB i = true then setA i ((bs[i.a.toNat]?).getD 0) else i
def finOf (bs : List Int) : List Itm → Nat → List Ins
  | [], _ => []
  | .pl i :: l, b => jmpI bs i :: finOf bs l (b + 1)
  | .pc y s c p :: l, b => pieceN y s c p b ++ finOf bs l (b + sizeN y)
def methN (w : Wd) (c : Int) (name : ByteArray) : Option Me := if (findN w name c).2 < 0 then none else (nthO w.classes (findN w name c).1).bind fun x => nthO x.methods (findN w name c).2
/-- the method that stands in a send's place, and of which class its receiver is -/
def callN (w : Wd) (sites : List Int) (L k : Nat) (i : Ins) (size : Nat) (t : Int) : Option (Me × Int) :=
  if i.op = 14 then match sites[k]? with
    | some c => if 0 ≤ c then match methN w c i.name with
      | some y => if leafN y = true ∧ y.args = i.a ∧ size + sizeN y + L ≤ 240 + k ∧ t + 1 + y.args + y.temps ≤ 40 then some (y, c) else none
      | none => none
      else none
    | none => none
  else none
def plainI (k : Nat) (i : Ins) : Ins := if i.op = 14 then ⟨i.op, i.a, i.b, k, i.name⟩ else i
def itemsN (w : Wd) (sites : List Int) (L : Nat) : List Ins → Nat → Nat → Int → List Itm × Int
  | [], _, _, t => ([], t)
  | i :: r, k, size, t => match callN w sites L k i size t with
    | some (y, c) => let q := itemsN w sites L r (k + 1) (size + sizeN y) (t + (1 + y.args + y.temps)); (.pc y t c k :: q.1, q.2)
    | none => let q := itemsN w sites L r (k + 1) (size + 1) t; (.pl (plainI k i) :: q.1, q.2)
/-- all methods of a world may stand in, if they send nothing -/
def LeafW (w : Wd) : Prop := ∀ (k : Nat) (x : Cl), w.classes[k]? = some x → ∀ y ∈ x.methods, Leaf0 y
theorem methN_in {w : Wd} {c : Int} {name : ByteArray} {y : Me} (h : methN w c name = some y) : ∃ (k : Nat) (x : Cl), w.classes[k]? = some x ∧ y ∈ x.methods := by
  unfold methN at h
  split at h
  · cases h
  · cases hx : nthO w.classes (findN w name c).1 with
    | none => rw [hx] at h; cases h
    | some x =>
      rw [hx] at h
      exact ⟨_, x, (nthO_some hx).2, List.mem_of_getElem? (nthO_some h).2⟩
theorem leafN_send {y : Me} (h : leafN y = true) : ∀ i ∈ y.code, i.op ≠ 14 := by
  unfold leafN at h
  simp only [Bool.and_eq_true, Bool.not_eq_true', List.any_eq_false] at h
  intro i hi e
  exact h.2 i hi (by simp [sends, e])
theorem callN_leaf {w : Wd} {sites : List Int} {L k : Nat} {i : Ins} {size : Nat} {t : Int} {y : Me} {c : Int} (h : callN w sites L k i size t = some (y, c)) :
    i.op = 14 ∧ sites[k]? = some c ∧ 0 ≤ c ∧ methN w c i.name = some y ∧ leafN y = true ∧ y.args = i.a ∧ size + sizeN y + L ≤ 240 + k ∧ t + 1 + y.args + y.temps ≤ 40 := by
  unfold callN at h
  split at h
  · rename_i h14
    split at h
    · rename_i c' hc
      split at h
      · rename_i h0
        split at h
        · rename_i y' hy
          split at h
          · rename_i hh
            cases h
            exact ⟨h14, hc, h0, hy, hh⟩
          · cases h
        · cases h
      · cases h
    · cases h
  · cases h
theorem callee_is (N : Nat) (hN : 1048578 ≤ N) (W : Wd) (hw : RiseW W) (hs : SmallW W) (m : Me) (out : List Ins) (t : Int) (at_ fix : List Int) (c : Int) (name : ByteArray) :
    inline_writer_callee N (⟨W, m, out, t, at_, fix⟩ : TWriter) c name = some (methN W c name, ⟨W, m, out, t, at_, fix⟩) := by
  unfold inline_writer_callee methN
  rw [class_Find_eq N W c name hN hw hs]
  simp only [Option.bind_some]
  by_cases h : (findN W name c).2 < 0
  · simp only [h, decide_true, cond_true, if_true]
  · obtain ⟨x, y, hx, hy, _⟩ := findN_in (w := W) (s := name) (c := c) (by omega)
    simp only [h, decide_false, cond_false, if_false, hx, hy, Option.bind_some]
theorem Method_l1_is (N : Nat) (hN : 4194304 ≤ N) (W : Wd) (hw : RiseW W) (hs : SmallW W) (hL : LeafW W) (sites : List Int) (M : Me) (hM : M.code.length ≤ 60) : ∀ (r : List Ins) (k : Nat) (out : List Ins) (t : Int) (at_ fix : List Int) (b : Bool),
    r = M.code.drop k → k ≤ M.code.length → out.length + M.code.length ≤ 240 + k → 0 ≤ t ∧ t ≤ 40 → at_.length = k → fix.length ≤ k →
    inline_Method_l1 N sites M r k W M out t at_ fix b = some (W, M, out ++ outOf (itemsN W sites M.code.length r k out.length t).1 out.length, (itemsN W sites M.code.length r k out.length t).2,
      at_ ++ beginsOf (itemsN W sites M.code.length r k out.length t).1 out.length, fix ++ fixOf (itemsN W sites M.code.length r k out.length t).1 out.length, b || (itemsN W sites M.code.length r k out.length t).1.any Itm.isPc)
  | [], k, out, t, at_, fix, b, _, _, _, _, _, _ => by simp [inline_Method_l1, itemsN, outOf, beginsOf, fixOf]
  | x :: r, k, out, t, at_, fix, b, hd, hk, ho, ht, hat, hfix => by
    obtain ⟨hx, hr, hlt⟩ := restCons hd
    have hk : k < M.code.length := by have := of_decide_eq_true hlt; omega
    have ga : Nat.ble ((at_.length + [(out.length : Int)].length) * 8) 140737488355328 = true := ble_true (by simp; omega)
    have gf : Nat.ble ((fix.length + [(out.length : Int)].length) * 8) 140737488355328 = true := ble_true (by simp; omega)
    have go : ∀ v : Ins, Nat.ble ((out.length + [v].length) * 48) 140737488355328 = true := fun v => ble_true (by simp; omega)
    -- the plain way
    have plain : callN W sites M.code.length k x out.length t = none → ((((((bif decide (x.op = (15 : Int)) then some (true) else some (decide (x.op = (16 : Int)))) : Option Bool).bind fun v120 => (((bif v120 then (bif Nat.ble ((fix.length + [(out.length : Int)].length) * 8) 140737488355328 then some ((fix ++ [(out.length : Int)])) else none) else some (fix)) : Option (List Int)).bind fun v124 => (((bif decide (x.op = (14 : Int)) then some ((⟨x.op, x.a, x.b, (k : Int), x.name⟩ : Ins)) else some (x)) : Option Ins).bind fun v130 => (bif Nat.ble ((out.length + [v130].length) * 48) 140737488355328 then some ((W, M, (out ++ [v130]), t, (at_ ++ [(out.length : Int)]), v124, b)) else none))))) : Option (Wd × Me × (List Ins) × Int × (List Int) × (List Int) × Bool)).bind fun (v47, v48, v49, v50, v51, v52, v53) => inline_Method_l1 N sites M r (k + 1) v47 v48 v49 v50 v51 v52 v53) =
        some (W, M, out ++ outOf (itemsN W sites M.code.length (x :: r) k out.length t).1 out.length, (itemsN W sites M.code.length (x :: r) k out.length t).2,
      at_ ++ beginsOf (itemsN W sites M.code.length (x :: r) k out.length t).1 out.length, fix ++ fixOf (itemsN W sites M.code.length (x :: r) k out.length t).1 out.length, b || (itemsN W sites M.code.length (x :: r) k out.length t).1.any Itm.isPc) := by
      intro hc
      have ih := fun (v : Ins) (fx : List Int) (hfx : fx.length ≤ k + 1) => Method_l1_is N hN W hw hs hL sites M hM r (k + 1) (out ++ [v]) t (at_ ++ [(out.length : Int)]) fx b hr (by omega) (by simp; omega) ht (by simp [hat]) hfx
      have hlen : ∀ v : Ins, (out ++ [v]).length = out.length + 1 := fun v => by simp
      simp only [hlen] at ih
      rw [itemsN, hc]
      simp only [outOf, beginsOf, fixOf, Itm.out, Itm.len, List.any_cons, Itm.isPc, Bool.false_or]
      by_cases h15 : x.op = 15
      · have hj : jmpB (plainI k x) = true := by simp [jmpB, plainI, h15]
        have hp : plainI k x = x := by simp [plainI, h15]
        rw [hp] at hj
        have h14 : ¬ x.op = 14 := by omega
        simp only [h15, gf, go, decide_true, decide_false, cond_true, cond_false, Option.bind_some, hj, if_true, hp, show ((15 : Int) = 14) = False by decide]
        rw [ih x _ (by simp; omega)]
        simp
      by_cases h16 : x.op = 16
      · have hj : jmpB (plainI k x) = true := by simp [jmpB, plainI, h16]
        have hp : plainI k x = x := by simp [plainI, h16]
        rw [hp] at hj
        have h14 : ¬ x.op = 14 := by omega
        simp only [h16, gf, go, decide_true, decide_false, cond_true, cond_false, Option.bind_some, hj, if_true, hp, show ((16 : Int) = 14) = False by decide, show ((16 : Int) = 15) = False by decide]
        rw [ih x _ (by simp; omega)]
        simp
      have hj : jmpB (plainI k x) = false := by
        by_cases h14 : x.op = 14 <;> simp [jmpB, plainI, h14, h15, h16]
      by_cases h14 : x.op = 14
      · have hp : plainI k x = ⟨x.op, x.a, x.b, k, x.name⟩ := by simp [plainI, h14]
        rw [hp] at hj
        simp only [h14, go, decide_true, decide_false, cond_true, cond_false, Option.bind_some, hp, show ((14 : Int) = 16) = False by decide, show ((14 : Int) = 15) = False by decide]
        rw [ih _ _ (by omega)]
        rw [h14] at hj
        simp [hj]
      · have hp : plainI k x = x := by simp [plainI, h14]
        rw [hp] at hj
        simp only [h15, h16, h14, go, decide_false, cond_true, cond_false, Option.bind_some, hp]
        rw [ih _ _ (by omega)]
        simp [hj]
    rw [inline_Method_l1]
    rw [ga, cond_true]
    by_cases h14 : x.op = 14
    · by_cases hks : k < sites.length
      · obtain ⟨c, hc⟩ : ∃ c, sites[k]? = some c := ⟨_, List.getElem?_eq_getElem hks⟩
        have hks' : (k : Int) < (sites.length : Int) := by omega
        have hnc : nthO sites (k : Int) = some c := by rw [nthO_nat, hc]
        by_cases h0 : 0 ≤ c
        · cases hm : methN W c x.name with
          | none =>
            have hcn : callN W sites M.code.length k x out.length t = none := by simp only [callN, h14, if_true, hc, h0, hm]
            have := plain hcn
            simp only [hks', h14, hnc, h0, decide_true, cond_true, Option.bind_some, callee_is N (by omega) W hw hs, hm]
            simp only [h14, decide_true] at this
            exact this
          | some y =>
            obtain ⟨kk, xx, hkx, hyx⟩ := methN_in hm
            have hy := hL kk xx hkx y hyx
            have ya := hy.args
            have yt := hy.temps
            have yc := hy.len
            have hsz := size_eq N y hy.toLeafy
            have hsb : sizeN y ≤ 1000 := by unfold sizeN; omega
            have w1 : wr ((out.length : Int) + ((sizeN y : Nat) : Int)) = out.length + sizeN y := wr_in (by unfold InR; omega)
            have w2 : wr ((out.length : Int) + ((sizeN y : Nat) : Int) + (M.code.length : Int)) = out.length + sizeN y + M.code.length := wr_in (by unfold InR; omega)
            have w3 : wr ((out.length : Int) + ((sizeN y : Nat) : Int) + (M.code.length : Int) - (k : Int)) = out.length + sizeN y + M.code.length - k := wr_in (by unfold InR; omega)
            have w4 : wr (t + 1) = t + 1 := wr_in (by unfold InR; omega)
            have w5 : wr (t + 1 + y.args) = t + 1 + y.args := wr_in (by unfold InR; omega)
            have w6 : wr (t + 1 + y.args + y.temps) = t + 1 + y.args + y.temps := wr_in (by unfold InR; omega)
            by_cases hfit : leafN y = true ∧ y.args = x.a ∧ out.length + sizeN y + M.code.length ≤ 240 + k ∧ t + 1 + y.args + y.temps ≤ 40
            · have hcs : callN W sites M.code.length k x out.length t = some (y, c) := by simp only [callN, h14, if_true, hc, h0, hm]; rw [if_pos hfit]
              obtain ⟨f1, f2, f3, f4⟩ := hfit
              have f3' : ((out.length : Int) + sizeN y + M.code.length - k) ≤ 240 := by omega
              simp only [hks', h14, hnc, h0, decide_true, cond_true, Option.bind_some, callee_is N (by omega) W hw hs, hm, choose_Leaf_eq, f1, f2, hsz, w1, w2, w3, w4, f3']
              rw [← f2]
              simp only [w5, w6, f4, decide_true]
              rw [send_is N (by omega) W M out t _ fix c (k : Int) x y hy f2 ht (by omega)]
              simp only [Option.bind_some, cond_true]
              rw [Method_l1_is N hN W hw hs hL sites M hM r (k + 1) _ _ _ _ true hr (by omega) (by simp [pieceN_len]; omega) (by omega) (by simp [hat]) (by omega)]
              rw [itemsN, hcs]
              simp [outOf, beginsOf, fixOf, Itm.out, Itm.len, Itm.isPc, pieceN_len]
            · have hcn : callN W sites M.code.length k x out.length t = none := by simp only [callN, h14, if_true, hc, h0, hm]; rw [if_neg hfit]
              have := plain hcn
              have hno : (((bif leafN y then (bif decide (y.args = x.a) then ((inline_size N y).bind fun r96 => (bif decide ((wr ((wr ((wr ((out.length : Int) + r96)) + (M.code.length : Int))) - (k : Int))) ≤ (240 : Int)) then some (decide ((wr ((wr ((wr (t + (1 : Int))) + y.args)) + y.temps)) ≤ (40 : Int))) else some (false))) else some (false)) else some (false))) : Option Bool) = some false := by
                rw [hsz]
                simp only [Option.bind_some, w1, w2, w3, w4, w5, w6]
                by_cases f1 : leafN y = true
                · by_cases f2 : y.args = x.a
                  · by_cases f3 : out.length + sizeN y + M.code.length ≤ 240 + k
                    · have f4 : ¬ t + 1 + y.args + y.temps ≤ 40 := fun f4 => hfit ⟨f1, f2, f3, f4⟩
                      have f3' : ((out.length : Int) + sizeN y + M.code.length - k) ≤ 240 := by omega
                      simp only [f1, decide_eq_true f2, decide_eq_true f3', decide_eq_false f4, cond_true]
                    · have f3' : ¬ ((out.length : Int) + sizeN y + M.code.length - k) ≤ 240 := by omega
                      simp only [f1, decide_eq_true f2, decide_eq_false f3', cond_true, cond_false]
                  · simp only [f1, decide_eq_false f2, cond_true, cond_false]
                · simp only [Bool.not_eq_true] at f1
                  simp only [f1, cond_false]
              simp only [hks', h14, hnc, h0, decide_true, cond_true, Option.bind_some, callee_is N (by omega) W hw hs, hm, choose_Leaf_eq, hno, cond_false]
              simp only [h14, decide_true] at this
              exact this
        · have hcn : callN W sites M.code.length k x out.length t = none := by simp only [callN, h14, if_true, hc, h0, if_false]
          have := plain hcn
          simp only [hks', h14, hnc, h0, decide_true, decide_false, cond_true, cond_false, Option.bind_some]
          simp only [h14, decide_true] at this
          exact this
      · have hc : sites[k]? = none := List.getElem?_eq_none (by omega)
        have hks' : ¬ (k : Int) < (sites.length : Int) := by omega
        have hcn : callN W sites M.code.length k x out.length t = none := by simp only [callN, h14, if_true, hc]
        have := plain hcn
        simp only [hks', h14, decide_true, decide_false, cond_true, cond_false, Option.bind_some]
        simp only [h14, decide_true] at this
        exact this
    · have hcn : callN W sites M.code.length k x out.length t = none := by simp only [callN, h14, if_false]
      have := plain hcn
      simp only [h14, decide_false, cond_false, Option.bind_some]
      simp only [h14, decide_false] at this
      exact this
theorem Method_l2_is (N : Nat) (bs fx : List Int) : ∀ (l : List Itm) (k : Nat) (pre : List Ins), fx.drop k = fixOf l pre.length → (∀ i, Itm.pl i ∈ l → jmpB i = true → ∃ a, nthO bs i.a = some a) →
    inline_Method_l2 N bs fx (fixOf l pre.length) k (pre ++ outOf l pre.length) = some (pre ++ finOf bs l pre.length)
  | [], k, pre, _, _ => by simp [fixOf, inline_Method_l2, outOf, finOf]
  | .pl i :: l, k, pre, hd, hj => by
    have hj' : ∀ i, Itm.pl i ∈ l → jmpB i = true → ∃ a, nthO bs i.a = some a := fun i hi => hj i (by simp [hi])
    have hlen : ∀ v : Ins, (pre ++ [v]).length = pre.length + 1 := fun v => by simp
    have e1 : ∀ v : Ins, pre ++ (v :: outOf l (pre.length + 1)) = (pre ++ [v]) ++ outOf l (pre.length + 1) := fun v => by simp
    by_cases hb : jmpB i = true
    · obtain ⟨a, ha⟩ := hj i (by simp) hb
      simp only [fixOf, hb, if_true] at hd ⊢
      obtain ⟨h1, h2, _⟩ := restCons hd.symm
      have hget : nthO (pre ++ (i :: outOf l (pre.length + 1))) (pre.length : Int) = some i := by rw [nthO_nat]; simp
      have ih := Method_l2_is N bs fx l (k + 1) (pre ++ [setA i a]) (by rw [hlen]; exact h2.symm) hj'
      simp only [hlen] at ih
      rw [inline_Method_l2]
      simp only [outOf, Itm.out, Itm.len, List.singleton_append, nthO_nat, h1, Option.bind_some]
      rw [← nthO_nat, hget]
      simp only [Option.bind_some, ha, Int.toNat_natCast]
      rw [List.set_append_right _ _ (Nat.le_refl _), Nat.sub_self, List.set_cons_zero]
      have e2 := e1 (setA i a)
      unfold setA at e2 ih
      rw [e2, ih]
      simp only [finOf, jmpI, hb, if_true, setA]
      rw [nthO_pos (nthO_some ha).1] at ha
      rw [ha]
      simp
    · have hb' : jmpB i = false := by cases h : jmpB i <;> simp_all
      have hf : fixOf (Itm.pl i :: l) pre.length = fixOf l (pre.length + 1) := by simp [fixOf, hb']
      rw [hf] at hd ⊢
      have ih := Method_l2_is N bs fx l k (pre ++ [i]) (by rw [hlen]; exact hd) hj'
      simp only [hlen] at ih
      show inline_Method_l2 N bs fx (fixOf l (pre.length + 1)) k (pre ++ (i :: outOf l (pre.length + 1))) = some (pre ++ (jmpI bs i :: finOf bs l (pre.length + 1)))
      rw [e1, ih]
      simp [jmpI, hb']
  | .pc y s c p :: l, k, pre, hd, hj => by
    have hj' : ∀ i, Itm.pl i ∈ l → jmpB i = true → ∃ a, nthO bs i.a = some a := fun i hi => hj i (by simp [hi])
    have hlen : (pre ++ pieceN y s c p pre.length).length = pre.length + sizeN y := by simp [pieceN_len]
    have hf : fixOf (Itm.pc y s c p :: l) pre.length = fixOf l (pre.length + sizeN y) := by simp [fixOf]
    rw [hf] at hd ⊢
    have ih := Method_l2_is N bs fx l k (pre ++ pieceN y s c p pre.length) (by rw [hlen]; exact hd) hj'
    simp only [hlen] at ih
    simp only [outOf, Itm.out, Itm.len, finOf, ← List.append_assoc, ih]
theorem itemsN_len (w : Wd) (sites : List Int) (L : Nat) : ∀ (r : List Ins) (k size : Nat) (t : Int), (itemsN w sites L r k size t).1.length = r.length
  | [], _, _, _ => rfl
  | i :: r, k, size, t => by
    rw [itemsN]
    split <;> simp [itemsN_len w sites L r]
theorem beginsOf_len : ∀ (l : List Itm) (b : Nat), (beginsOf l b).length = l.length
  | [], _ => rfl
  | x :: l, b => by simp [beginsOf, beginsOf_len l]
theorem itemsN_jump (w : Wd) (sites : List Int) (L : Nat) : ∀ (r : List Ins) (k size : Nat) (t : Int) (i : Ins), Itm.pl i ∈ (itemsN w sites L r k size t).1 → jmpB i = true → i ∈ r
  | [], _, _, _, i, h, _ => by cases h
  | x :: r, k, size, t, i, h, hj => by
    rw [itemsN] at h
    split at h
    · simp only [List.mem_cons, reduceCtorEq, false_or] at h
      exact List.mem_cons_of_mem _ (itemsN_jump w sites L r _ _ _ i h hj)
    · simp only [List.mem_cons, Itm.pl.injEq] at h
      rcases h with h | h
      · have hp : plainI k x = x := by
          rw [h] at hj
          unfold plainI at hj ⊢
          split
          · rename_i h14
            rw [if_pos h14] at hj
            simp [jmpB, h14] at hj
          · rfl
        rw [h, hp]
        simp
      · exact List.mem_cons_of_mem _ (itemsN_jump w sites L r _ _ _ i h hj)
def Itm.piece : Itm → List Ins
  | .pl i => [i]
  | .pc y s c p => pieceN y s c p 0
def innerOf : List Itm → Nat → List (Int × Bool)
  | [], _ => []
  | .pl _ :: l, k => innerOf l (k + 1)
  | .pc _ _ _ _ :: l, k => ((k : Int), true) :: innerOf l (k + 1)
theorem mSet_new (k : Int) : ∀ (l : List (Int × Bool)), (∀ p ∈ l, p.1 ≠ k) → mSet k true l = l ++ [(k, true)]
  | [], _ => rfl
  | p :: l, h => by
    rw [mSet, if_neg (fun e => h p (by simp) e.symm), mSet_new k l (fun q hq => h q (by simp [hq]))]
    rfl
theorem Fast_l1_is (N : Nat) (hN : 4194304 ≤ N) (W : Wd) (hs : SmallW W) (hL : LeafW W) (sites : List Int) (M : Me) (hM : M.code.length ≤ 60) : ∀ (r : List Ins) (k size : Nat) (t : Int) (ps : List (List Ins)) (bs : List Int) (inn : List (Int × Bool)),
    r = M.code.drop k → k ≤ M.code.length → size + M.code.length ≤ 240 + k → 0 ≤ t ∧ t ≤ 40 → ps.length = k → bs.length = k → inn.length ≤ k → (∀ p ∈ inn, p.1 < k) →
    qcref5_Fast_l1 N W sites M r k t (size : Int) ps bs inn = some ((itemsN W sites M.code.length r k size t).2, ps ++ (itemsN W sites M.code.length r k size t).1.map Itm.piece, bs ++ beginsOf (itemsN W sites M.code.length r k size t).1 size, inn ++ innerOf (itemsN W sites M.code.length r k size t).1 k)
  | [], k, size, t, ps, bs, inn, _, _, _, _, _, _, _, _ => by simp [qcref5_Fast_l1, itemsN, beginsOf, innerOf]
  | x :: r, k, size, t, ps, bs, inn, hd, hk, ho, ht, hps, hbs, hin, hik => by
    obtain ⟨hx, hr, hlt⟩ := restCons hd
    have hk : k < M.code.length := by have := of_decide_eq_true hlt; omega
    have ga : Nat.ble ((bs.length + [(size : Int)].length) * 8) 140737488355328 = true := ble_true (by simp; omega)
    have gp : ∀ v : List Ins, Nat.ble ((ps.length + [v].length) * 24) 140737488355328 = true := fun v => ble_true (by simp; omega)
    have gi : Nat.ble (inn.length + 1) 140737488355328 = true := ble_true (by omega)
    have hset : ∀ v : Ins, [x].set ((0 : Int).toNat) v = [v] := fun v => rfl
    have h0x : nthO [x] (0 : Int) = some x := rfl
    have ih := fun (sz : Nat) (t' : Int) (v : List Ins) (inn' : List (Int × Bool)) => Fast_l1_is N hN W hs hL sites M hM r (k + 1) sz t' (ps ++ [v]) (bs ++ [(size : Int)]) inn' hr (by omega)
    have w1 : ∀ n : Nat, n ≤ 1000 → wr ((size : Int) + (n : Int)) = ((size + n : Nat) : Int) := fun n hn => by rw [wr_in (by unfold InR; omega)]; omega
    have plain : callN W sites M.code.length k x size t = none → (bif Nat.ble ((ps.length + [[plainI k x]].length) * 24) 140737488355328 then qcref5_Fast_l1 N W sites M r (k + 1) t (wr ((size : Int) + (([plainI k x] : List Ins).length : Int))) (ps ++ [[plainI k x]]) (bs ++ [(size : Int)]) inn else none) =
        some ((itemsN W sites M.code.length (x :: r) k size t).2, ps ++ (itemsN W sites M.code.length (x :: r) k size t).1.map Itm.piece, bs ++ beginsOf (itemsN W sites M.code.length (x :: r) k size t).1 size, inn ++ innerOf (itemsN W sites M.code.length (x :: r) k size t).1 k) := by
      intro hc
      rw [gp, cond_true, show (([plainI k x] : List Ins).length : Int) = ((1 : Nat) : Int) from rfl, w1 1 (by omega), ih (size + 1) t _ inn (by omega) ht (by simp [hps]) (by simp [hbs]) (by omega) (fun p hp => by have := hik p hp; omega), itemsN, hc]
      simp [beginsOf, innerOf, Itm.piece, Itm.len]
    rw [qcref5_Fast_l1, ga, cond_true]
    by_cases h14 : x.op = 14
    · have hp : plainI k x = ⟨14, x.a, x.b, k, x.name⟩ := by simp [plainI, h14]
      rw [hp] at plain
      by_cases hks : k < sites.length
      · obtain ⟨c, hc⟩ : ∃ c, sites[k]? = some c := ⟨_, List.getElem?_eq_getElem hks⟩
        have hks' : (k : Int) < (sites.length : Int) := by omega
        have hnc : nthO sites (k : Int) = some c := by rw [nthO_nat, hc]
        by_cases h0 : 0 ≤ c
        · by_cases hf0 : 0 ≤ (findN W x.name c).2
          · obtain ⟨xx, y, hxx, hyy, _⟩ := findN_in (w := W) (s := x.name) (c := c) hf0
            have hm : methN W c x.name = some y := by
              unfold methN
              rw [if_neg (by omega), hxx]
              exact hyy
            obtain ⟨kk, xc, hkx, hyx⟩ := methN_in hm
            have hy := hL kk xc hkx y hyx
            have ya := hy.args
            have yt := hy.temps
            have yc := hy.len
            have hsb : sizeN y ≤ 1000 := by unfold sizeN; omega
            have e1 : wr (3 + y.args) = 3 + y.args := wr_in (by unfold InR; omega)
            have e2 : wr (2 * y.temps) = 2 * y.temps := wr_in (by unfold InR; omega)
            have e3 : wr (3 + y.args + 2 * y.temps) = 3 + y.args + 2 * y.temps := wr_in (by unfold InR; omega)
            have e4 : wr (3 + y.args + 2 * y.temps + (y.code.length : Int)) = ((sizeN y : Nat) : Int) := by rw [wr_in (by unfold InR; omega)]; unfold sizeN; omega
            have e5 : wr ((size : Int) + ((sizeN y : Nat) : Int)) = size + sizeN y := wr_in (by unfold InR; omega)
            have e6 : wr ((size : Int) + ((sizeN y : Nat) : Int) + (M.code.length : Int)) = size + sizeN y + M.code.length := wr_in (by unfold InR; omega)
            have e7 : wr ((size : Int) + ((sizeN y : Nat) : Int) + (M.code.length : Int) - (k : Int)) = size + sizeN y + M.code.length - k := wr_in (by unfold InR; omega)
            have w4 : wr (t + 1) = t + 1 := wr_in (by unfold InR; omega)
            have w5 : wr (t + 1 + y.args) = t + 1 + y.args := wr_in (by unfold InR; omega)
            have w6 : wr (t + 1 + y.args + y.temps) = t + 1 + y.args + y.temps := wr_in (by unfold InR; omega)
            by_cases hfit : leafN y = true ∧ y.args = x.a ∧ size + sizeN y + M.code.length ≤ 240 + k ∧ t + 1 + y.args + y.temps ≤ 40
            · have hcs : callN W sites M.code.length k x size t = some (y, c) := by simp only [callN, h14, if_true, hc, h0, hm]; rw [if_pos hfit]
              obtain ⟨f1, f2, f3, f4⟩ := hfit
              have hok : (((bif leafN y then (bif decide (y.args = x.a) then (bif decide ((wr ((wr ((wr ((size : Int) + (wr ((wr ((wr ((3 : Int) + y.args)) + (wr ((2 : Int) * y.temps)))) + (y.code.length : Int))))) + (M.code.length : Int))) - (k : Int))) ≤ (240 : Int)) then some (decide ((wr ((wr ((wr (t + (1 : Int))) + y.args)) + y.temps)) ≤ (40 : Int))) else some (false)) else some (false)) else some (false))) : Option Bool) = some true := by
                have f3' : ((size : Int) + sizeN y + M.code.length - k) ≤ 240 := by omega
                simp only [e1, e2, e3, e4, e5, e6, e7, w4, w5, w6, f1, decide_eq_true f2, decide_eq_true f3', decide_eq_true f4, cond_true]
              simp only [h14, h0x, hks', hnc, h0, decide_true, cond_true, Option.bind_some, qcref1_Find_eq N W c x.name (by omega) hs.1, hf0, hxx, hyy, qcref5_Leaf_eq, hok, Piece_is N y hy (leafN_send f1) t c (k : Int) (by omega), gi]
              rw [gp, cond_true, pieceN_len, w1 _ hsb, w4, w5, w6, mSet_new (k : Int) inn (fun p hp => by have := hik p hp; omega), ih (size + sizeN y) (t + 1 + y.args + y.temps) _ _ (by omega) (by omega) (by simp [hps]) (by simp [hbs]) (by simp; omega) (fun p hp => by
                rcases List.mem_append.1 hp with hp | hp
                · have := hik p hp; omega
                · simp only [List.mem_cons, List.not_mem_nil, or_false] at hp
                  subst hp
                  show (k : Int) < ((k + 1 : Nat) : Int)
                  omega), itemsN, hcs]
              have et : t + (1 + y.args + y.temps) = t + 1 + y.args + y.temps := by omega
              simp [beginsOf, innerOf, Itm.piece, Itm.len, et]
            · have hcn : callN W sites M.code.length k x size t = none := by simp only [callN, h14, if_true, hc, h0, hm]; rw [if_neg hfit]
              have hno : (((bif leafN y then (bif decide (y.args = x.a) then (bif decide ((wr ((wr ((wr ((size : Int) + (wr ((wr ((wr ((3 : Int) + y.args)) + (wr ((2 : Int) * y.temps)))) + (y.code.length : Int))))) + (M.code.length : Int))) - (k : Int))) ≤ (240 : Int)) then some (decide ((wr ((wr ((wr (t + (1 : Int))) + y.args)) + y.temps)) ≤ (40 : Int))) else some (false)) else some (false)) else some (false))) : Option Bool) = some false := by
                simp only [e1, e2, e3, e4, e5, e6, e7, w4, w5, w6]
                by_cases f1 : leafN y = true
                · by_cases f2 : y.args = x.a
                  · by_cases f3 : size + sizeN y + M.code.length ≤ 240 + k
                    · have f4 : ¬ t + 1 + y.args + y.temps ≤ 40 := fun f4 => hfit ⟨f1, f2, f3, f4⟩
                      have f3' : ((size : Int) + sizeN y + M.code.length - k) ≤ 240 := by omega
                      simp only [f1, decide_eq_true f2, decide_eq_true f3', decide_eq_false f4, cond_true]
                    · have f3' : ¬ ((size : Int) + sizeN y + M.code.length - k) ≤ 240 := by omega
                      simp only [f1, decide_eq_true f2, decide_eq_false f3', cond_true, cond_false]
                  · simp only [f1, decide_eq_false f2, cond_true, cond_false]
                · simp only [Bool.not_eq_true] at f1
                  simp only [f1, cond_false]
              simp only [h14, h0x, hks', hnc, h0, decide_true, cond_true, cond_false, Option.bind_some, qcref1_Find_eq N W c x.name (by omega) hs.1, hf0, hxx, hyy, qcref5_Leaf_eq, hno, hset]
              exact plain hcn
          · have hm : methN W c x.name = none := by
              unfold methN
              rw [if_pos (by omega)]
            have hcn : callN W sites M.code.length k x size t = none := by simp only [callN, h14, if_true, hc, h0, hm]
            simp only [h14, h0x, hks', hnc, h0, decide_true, decide_false, cond_true, cond_false, Option.bind_some, qcref1_Find_eq N W c x.name (by omega) hs.1, hf0, hset]
            exact plain hcn
        · have hcn : callN W sites M.code.length k x size t = none := by simp only [callN, h14, if_true, hc, h0, if_false]
          simp only [h14, h0x, hks', hnc, h0, decide_true, decide_false, cond_true, cond_false, Option.bind_some, hset]
          exact plain hcn
      · have hc : sites[k]? = none := List.getElem?_eq_none (by omega)
        have hks' : ¬ (k : Int) < (sites.length : Int) := by omega
        have hcn : callN W sites M.code.length k x size t = none := by simp only [callN, h14, if_true, hc]
        simp only [h14, h0x, hks', decide_true, decide_false, cond_true, cond_false, Option.bind_some, hset]
        exact plain hcn
    · have hp : plainI k x = x := by simp [plainI, h14]
      rw [hp] at plain
      have hcn : callN W sites M.code.length k x size t = none := by simp only [callN, h14, if_false]
      simp only [h14, decide_false, cond_false, Option.bind_some]
      exact plain hcn
end Go.Proofs.Ytoceeiamcfdnlaa

/- Plain laws of the mirrors: fast code of a right world: the program's is the reference's. No program in sight. -/
namespace Go.Proofs.Ytoceeiamcfdnlaa
open Go.RowKit
set_option linter.unusedVariables false
theorem rightP_slots {N : Nat} {w : Wd} (h : RightP N w) : ∀ x ∈ w.classes, 0 ≤ x.slots ∧ x.slots ≤ 6 := fun x hx => by
  obtain ⟨j, hj⟩ := List.mem_iff_getElem?.1 hx
  have := h.cls j x hj
  exact ⟨this.2.2.2.2.1, this.2.2.2.2.2⟩
theorem leaf0_of {N : Nat} {w : Wd} (hN : 4194304 ≤ N) (hs : SmallW w) (h : RightP N w) : LeafW w := fun k x hx y hy => by
  have mp := meP_of (by omega) hs.1 h hx hy
  have hsl := slotsN_in (rightP_slots h) hs.1 (k : Int)
  have hcl := h.many
  have ma := mp.args
  have mt := mp.temps
  have ml := mp.len
  refine ⟨⟨ma, mt, ml, fun i hi => Numbers_op N w _ y i (by omega) hs.1 (mp.num i hi), fun i hi hj => Numbers_jump N w _ y i (by omega) (mp.num i hi) hj⟩, fun i hi => ?_⟩
  have hn := mp.num i hi
  rw [qcref1_Numbers_eq N w k y i (by omega) hs.1 (by omega) (by omega) (by omega) hsl (by omega)] at hn
  exact numN_ok (Option.some.inj hn) hs.1 (by omega) (by omega) hsl.2 (by omega)
def shiftI (b : Int) (i : Ins) : Ins := if jmpB i = true then setA i (wr (i.a + b)) else i
theorem shift_id {b : Int} : ∀ {l : List Ins}, (∀ i ∈ l, jmpB i = false) → l.map (shiftI b) = l
  | [], _ => rfl
  | i :: l, h => by
    rw [List.map_cons, shift_id fun j hj => h j (by simp [hj])]
    simp [shiftI, h i (by simp)]
theorem setsF_op (s : Int) : ∀ n, ∀ i ∈ setsF s n, i.op = 11
  | 0, i, h => by cases h
  | n + 1, i, h => by
    rw [setsF] at h
    rcases List.mem_cons.1 h with rfl | h
    · rfl
    · exact setsF_op s n i h
theorem tempsF_op (b : Int) : ∀ n k, ∀ i ∈ tempsF b n k, i.op = 6 ∨ i.op = 11
  | 0, _, i, h => by cases h
  | n + 1, k, i, h => by
    rw [tempsF] at h
    rcases List.mem_cons.1 h with rfl | h
    · exact .inl rfl
    rcases List.mem_cons.1 h with rfl | h
    · exact .inr rfl
    · exact tempsF_op b n (k + 1) i h
theorem shift_ins (s : Int) (y : Me) (hy : Leaf0 y) (f b : Nat) (hf : f ≤ 1000) (hb : b ≤ 1000) (i : Ins) (hi : i ∈ y.code) : shiftI (b : Int) (insR s y ((f : Nat) : Int) i) = insR s y ((b + f : Nat) : Int) i := by
  obtain ⟨b1, b2, _, _, _⟩ := hy.num i hi
  have hc := hy.len
  have w1 : wr ((f : Int) + i.a + (b : Int)) = ((b + f : Nat) : Int) + i.a := by rw [wr_in (by unfold InR; omega)]; omega
  have w2 : wr ((f : Int) + (y.code.length : Int) + (b : Int)) = ((b + f : Nat) : Int) + y.code.length := by rw [wr_in (by unfold InR; omega)]; omega
  unfold insR
  by_cases h1 : i.op = 1
  · simp [h1, shiftI, jmpB]
  by_cases h2 : i.op = 2
  · simp [h2, shiftI, jmpB]
  by_cases h3 : i.op = 3
  · simp [h3, shiftI, jmpB]
  by_cases h11 : i.op = 11
  · simp [h11, shiftI, jmpB]
  by_cases h4 : i.op = 4
  · simp [h4, shiftI, jmpB]
  by_cases h12 : i.op = 12
  · simp [h12, shiftI, jmpB]
  by_cases h15 : i.op = 15
  · simp only [h15, shiftI, jmpB, setA]; simp; rw [w1]; simp
  by_cases h16 : i.op = 16
  · simp only [h16, shiftI, jmpB, setA]; simp; rw [w1]; simp
  by_cases h17 : i.op = 17
  · simp only [h17, shiftI, jmpB, setA]; simp; rw [w2]; simp
  simp [h1, h2, h3, h11, h4, h12, h15, h16, h17, shiftI, jmpB]
theorem shift_piece (y : Me) (hy : Leaf0 y) (s c p : Int) (b : Nat) (hb : b ≤ 1000) : (pieceN y s c p 0).map (shiftI (b : Int)) = pieceN y s c p b := by
  have ha := hy.args
  have ht := hy.temps
  have hh : hl y ≤ 1000 := by unfold hl; omega
  unfold pieceN
  rw [List.map_cons, List.map_cons, List.map_append, List.map_append, shift_id (fun i hi => by have := setsF_op _ _ i hi; simp [jmpB, this]), shift_id (fun i hi => by rcases tempsF_op _ _ _ i hi with h | h <;> simp [jmpB, h])]
  have e : (y.code.map (insR s y ((0 + hl y : Nat) : Int))).map (shiftI (b : Int)) = y.code.map (insR s y ((b + hl y : Nat) : Int)) := by
    rw [List.map_map]
    refine List.map_congr_left fun i hi => ?_
    rw [Nat.zero_add]
    exact shift_ins s y hy (hl y) b hh hb i hi
  rw [e]
  simp [shiftI, jmpB]
theorem Fast_l3_pc (N : Nat) (bs : List Int) (inn : List (Int × Bool)) (k : Nat) (b : Int) (hg : mGet (k : Int) inn = true) (hb : nthO bs (k : Int) = some b) : ∀ (L : List Ins) (j : Nat) (out : List Ins), out.length + L.length ≤ 100000 →
    qcref5_Fast_l3 N bs inn k L j out = some (out ++ L.map (shiftI b))
  | [], j, out, _ => by simp [qcref5_Fast_l3]
  | i :: L, j, out, ho => by
    simp only [List.length_cons] at ho
    have g : ∀ v : Ins, Nat.ble ((out.length + [v].length) * 48) 140737488355328 = true := fun v => ble_true (by simp; omega)
    have ih := fun v : Ins => Fast_l3_pc N bs inn k b hg hb L (j + 1) (out ++ [v]) (by simp; omega)
    rw [qcref5_Fast_l3]
    by_cases h15 : i.op = 15
    · have hj : jmpB i = true := by simp [jmpB, h15]
      simp only [h15, decide_true, cond_true, Option.bind_some, hg, hb, g, ih]
      simp [shiftI, hj, setA, h15]
    by_cases h16 : i.op = 16
    · have hj : jmpB i = true := by simp [jmpB, h16]
      simp only [h16, decide_true, cond_true, Option.bind_some, hg, hb, g, ih]
      have e : decide ((16 : Int) = 15) = false := by decide
      simp [shiftI, hj, setA, h16]
    have hj : jmpB i = false := by simp [jmpB, h15, h16]
    simp only [h15, h16, decide_false, cond_false, Option.bind_some, g, cond_true, ih]
    simp [shiftI, hj]
theorem Fast_l3_pl (N : Nat) (bs : List Int) (inn : List (Int × Bool)) (k : Nat) (hg : mGet (k : Int) inn = false) (i : Ins) (hi : jmpB i = true → ∃ a, nthO bs i.a = some a) (j : Nat) (out : List Ins) (ho : out.length ≤ 100000) :
    qcref5_Fast_l3 N bs inn k [i] j out = some (out ++ [jmpI bs i]) := by
  have g : ∀ v : Ins, Nat.ble ((out.length + [v].length) * 48) 140737488355328 = true := fun v => ble_true (by simp; omega)
  rw [qcref5_Fast_l3]
  by_cases h15 : i.op = 15
  · have hj : jmpB i = true := by simp [jmpB, h15]
    obtain ⟨a, ha⟩ := hi hj
    have ha2 := ha
    rw [nthO_pos (nthO_some ha).1] at ha2
    simp only [h15, decide_true, cond_true, cond_false, Option.bind_some, hg, ha, g, qcref5_Fast_l3]
    simp [jmpI, hj, setA, h15, ha2]
  by_cases h16 : i.op = 16
  · have hj : jmpB i = true := by simp [jmpB, h16]
    obtain ⟨a, ha⟩ := hi hj
    have ha2 := ha
    rw [nthO_pos (nthO_some ha).1] at ha2
    simp only [h16, decide_true, cond_true, cond_false, Option.bind_some, hg, ha, g, qcref5_Fast_l3]
    simp [jmpI, hj, setA, h16, ha2]
  have hj : jmpB i = false := by simp [jmpB, h15, h16]
  simp only [h15, h16, decide_false, cond_false, Option.bind_some, g, cond_true, qcref5_Fast_l3]
  simp [jmpI, hj]
theorem mGet_low : ∀ (l : List Itm) (j : Nat) (k : Int), k < j → mGet k (innerOf l j) = false
  | [], j, k, _ => rfl
  | .pl i :: l, j, k, h => by rw [innerOf]; exact mGet_low l (j + 1) k (by omega)
  | .pc y s c p :: l, j, k, h => by
    rw [innerOf, mGet, if_neg (by show ¬ k = (j : Int); omega)]
    exact mGet_low l (j + 1) k (by omega)
theorem mGet_inner : ∀ (l : List Itm) (j n : Nat) (x : Itm), l[n]? = some x → mGet ((j + n : Nat) : Int) (innerOf l j) = x.isPc
  | [], j, n, x, h => by simp at h
  | .pl i :: l, j, 0, x, h => by
    simp only [List.getElem?_cons_zero, Option.some.injEq] at h
    subst h
    rw [innerOf]
    exact mGet_low l (j + 1) _ (by omega)
  | .pc y s c p :: l, j, 0, x, h => by
    simp only [List.getElem?_cons_zero, Option.some.injEq] at h
    subst h
    rw [innerOf, mGet, if_pos (by show ((j + 0 : Nat) : Int) = (j : Int); omega)]
    rfl
  | .pl i :: l, j, n + 1, x, h => by
    rw [innerOf, show j + (n + 1) = j + 1 + n by omega]
    exact mGet_inner l (j + 1) n x (by simpa using h)
  | .pc y s c p :: l, j, n + 1, x, h => by
    rw [innerOf, mGet, if_neg (by show ¬ ((j + (n + 1) : Nat) : Int) = (j : Int); omega), show j + (n + 1) = j + 1 + n by omega]
    exact mGet_inner l (j + 1) n x (by simpa using h)
def totL : List Itm → Nat
  | [] => 0
  | x :: l => x.len + totL l
theorem Fast_l2_is (N : Nat) (ps : List (List Ins)) (bs : List Int) (inn : List (Int × Bool)) : ∀ (l : List Itm) (k : Nat) (out : List Ins), ps.drop k = l.map Itm.piece → bs.drop k = beginsOf l out.length → (∀ n x, l[n]? = some x → mGet ((k + n : Nat) : Int) inn = x.isPc) →
    (∀ i, Itm.pl i ∈ l → jmpB i = true → ∃ a, nthO bs i.a = some a) → (∀ y s c p, Itm.pc y s c p ∈ l → Leaf0 y) → out.length + totL l ≤ 1000 → qcref5_Fast_l2 N ps bs inn (l.map Itm.piece) k out = some (out ++ finOf bs l out.length)
  | [], k, out, _, _, _, _, _, _ => by simp [qcref5_Fast_l2, finOf]
  | x :: l, k, out, hp, hb, hg, hj, hy, ht => by
    rw [List.map_cons] at hp ⊢
    obtain ⟨p1, p2, _⟩ := restCons hp.symm
    rw [beginsOf] at hb
    obtain ⟨b1, b2, _⟩ := restCons hb.symm
    have hg0 := hg 0 x rfl
    simp only [Nat.add_zero] at hg0
    have hg' : ∀ n z, l[n]? = some z → mGet ((k + 1 + n : Nat) : Int) inn = z.isPc := fun n z hz => by rw [show k + 1 + n = k + (n + 1) by omega]; exact hg (n + 1) z (by simpa using hz)
    have hj' : ∀ i, Itm.pl i ∈ l → jmpB i = true → ∃ a, nthO bs i.a = some a := fun i hi => hj i (by simp [hi])
    have hy' : ∀ y s c p, Itm.pc y s c p ∈ l → Leaf0 y := fun y s c p hm => hy y s c p (by simp [hm])
    simp only [totL] at ht
    rw [qcref5_Fast_l2]
    simp only [nthO_nat, p1, Option.bind_some]
    cases x with
    | pl i =>
      simp only [Itm.piece, Itm.len] at ht b2 ⊢
      rw [Fast_l3_pl N bs inn k hg0 i (fun h => hj i (by simp) h) 0 out (by omega)]
      simp only [Option.bind_some]
      have hlen : (out ++ [jmpI bs i]).length = out.length + 1 := by simp
      have ih := Fast_l2_is N ps bs inn l (k + 1) (out ++ [jmpI bs i]) p2.symm (by rw [hlen]; exact b2.symm) hg' hj' hy' (by rw [hlen]; omega)
      rw [ih, hlen]
      simp [finOf]
    | pc y s c p =>
      have hly := hy y s c p (by simp)
      simp only [Itm.piece, Itm.len] at ht b2 ⊢
      rw [Fast_l3_pc N bs inn k (out.length : Int) hg0 (by rw [nthO_nat, b1]) _ 0 out (by rw [pieceN_len]; omega), shift_piece y hly s c p out.length (by omega)]
      simp only [Option.bind_some]
      have hlen : (out ++ pieceN y s c p out.length).length = out.length + sizeN y := by simp [pieceN_len]
      have ih := Fast_l2_is N ps bs inn l (k + 1) (out ++ pieceN y s c p out.length) p2.symm (by rw [hlen]; exact b2.symm) hg' hj' hy' (by rw [hlen]; omega)
      rw [ih, hlen]
      simp [finOf]
theorem itemsN_tot (w : Wd) (sites : List Int) (L : Nat) : ∀ (r : List Ins) (k size : Nat) (t : Int), r.length + k = L → size + r.length ≤ 240 → size + totL (itemsN w sites L r k size t).1 ≤ 240
  | [], k, size, t, _, h => by simpa [itemsN, totL] using h
  | i :: r, k, size, t, hk, h => by
    simp only [List.length_cons] at hk h
    rw [itemsN]
    split
    · rename_i y c hc
      have := (callN_leaf hc).2.2.2.2.2.2.1
      have ih := itemsN_tot w sites L r (k + 1) (size + sizeN y) (t + (1 + y.args + y.temps)) (by omega) (by omega)
      simp only [totL, Itm.len]
      omega
    · have ih := itemsN_tot w sites L r (k + 1) (size + 1) t (by omega) (by omega)
      simp only [totL, Itm.len]
      omega
theorem itemsN_leaf (w : Wd) (hL : LeafW w) (sites : List Int) (L : Nat) : ∀ (r : List Ins) (k size : Nat) (t : Int) (y : Me) (s c p : Int), Itm.pc y s c p ∈ (itemsN w sites L r k size t).1 → Leaf0 y ∧ leafN y = true
  | [], _, _, _, _, _, _, _, h => by cases h
  | i :: r, k, size, t, y, s, c, p, h => by
    rw [itemsN] at h
    split at h
    · rename_i y' c' hc
      rcases List.mem_cons.1 h with h | h
      · cases h
        obtain ⟨_, _, _, hm, hlf, _⟩ := callN_leaf hc
        obtain ⟨kk, xx, h1, h2⟩ := methN_in hm
        exact ⟨hL kk xx h1 y h2, hlf⟩
      · exact itemsN_leaf w hL sites L r _ _ _ y s c p h
    · rcases List.mem_cons.1 h with h | h
      · cases h
      · exact itemsN_leaf w hL sites L r _ _ _ y s c p h
theorem inner_any : ∀ (l : List Itm) (k : Nat), decide (((innerOf l k).length : Int) = 0) = !l.any Itm.isPc
  | [], _ => rfl
  | .pl i :: l, k => by rw [innerOf, inner_any l (k + 1)]; simp [Itm.isPc]
  | .pc y s c p :: l, k => by
    have : ¬ ((((k : Int), true) :: innerOf l (k + 1)).length : Int) = 0 := by simp only [List.length_cons]; omega
    rw [innerOf, decide_eq_false this]
    simp [Itm.isPc]
/-- fast code of a class's method -/
def fastN (w : Wd) (c k : Int) (sites : List Int) : Fs × Bool :=
  if c < 0 ∨ (w.classes.length : Int) ≤ c ∨ k < 0 then (⟨0, ByteArray.empty, 0, 0, []⟩, false) else
  match w.classes[c.toNat]? with
  | none => (⟨0, ByteArray.empty, 0, 0, []⟩, false)
  | some x => match x.methods[k.toNat]? with
    | none => (⟨0, ByteArray.empty, 0, 0, []⟩, false)
    | some m => let q := itemsN w sites m.code.length m.code 0 0 m.temps
      if q.1.any Itm.isPc = true then (⟨c, m.name, w.epoch, q.2, finOf (beginsOf q.1 0) q.1 0⟩, true) else (⟨0, ByteArray.empty, 0, 0, []⟩, false)
theorem Method_is (N : Nat) (hN : 4194304 ≤ N) (w : Wd) (hs : SmallW w) (hp : RightP N w) (c k : Int) (sites : List Int) : inline_Method N w c k sites = some (fastN w c k sites) := by
  have hL := leaf0_of hN hs hp
  unfold inline_Method fastN
  by_cases c1 : c < 0
  · simp [c1]
  by_cases c2 : (w.classes.length : Int) ≤ c
  · simp [c1, c2]
  by_cases c3 : k < 0
  · simp [c1, c2, c3]
  obtain ⟨x, hx, hnx⟩ := nthO_in (l := w.classes) (i := c) (by omega) (by omega)
  by_cases c4 : (x.methods.length : Int) ≤ k
  · have : x.methods[k.toNat]? = none := List.getElem?_eq_none (by omega)
    simp [c1, c2, c3, c4, hnx, hx, this]
  obtain ⟨m, hm, hnm⟩ := nthO_in (l := x.methods) (i := k) (by omega) (by omega)
  have hM := hL _ x hx m (List.mem_of_getElem? hm)
  have hm60 := hM.len
  have hmt := hM.temps
  have hml : ∀ i, Itm.pl i ∈ (itemsN w sites m.code.length m.code 0 0 m.temps).1 → jmpB i = true → ∃ a, nthO (beginsOf (itemsN w sites m.code.length m.code 0 0 m.temps).1 0) i.a = some a := fun i hi hj => by
    have him := itemsN_jump w sites m.code.length m.code 0 0 m.temps i hi hj
    have hr := hM.jump i him (by simp only [jmpB, Bool.or_eq_true, decide_eq_true_eq] at hj; exact hj)
    obtain ⟨a, ha, hna⟩ := nthO_in (l := beginsOf (itemsN w sites m.code.length m.code 0 0 m.temps).1 0) (i := i.a) hr.1 (by rw [beginsOf_len, itemsN_len]; exact hr.2)
    exact ⟨a, hna⟩
  have e1 := Method_l1_is N hN w hp.rise hs hL sites m hm60 m.code 0 [] m.temps [] [] false rfl (by omega) (by simp; omega) (by omega) rfl (by simp)
  simp only [List.length_nil, List.nil_append, Bool.false_or] at e1
  simp only [c1, c2, c3, c4, hnx, hnm, decide_false, cond_false, Option.bind_some, e1, hx, hm, or_self, if_false]
  cases hb : (itemsN w sites m.code.length m.code 0 0 m.temps).1.any Itm.isPc with
  | false => simp
  | true =>
    have e2 := Method_l2_is N (beginsOf (itemsN w sites m.code.length m.code 0 0 m.temps).1 0) (fixOf (itemsN w sites m.code.length m.code 0 0 m.temps).1 0) (itemsN w sites m.code.length m.code 0 0 m.temps).1 0 [] rfl hml
    simp only [List.length_nil, List.nil_append] at e2
    simp only [Bool.not_true, cond_false, e2, Option.bind_some, if_true]
theorem Fast_is (N : Nat) (hN : 4194304 ≤ N) (w : Wd) (hs : SmallW w) (hp : RightP N w) (c k : Int) (sites : List Int) : qcref5_Fast N w c k sites = some (fastN w c k sites) := by
  have hL := leaf0_of hN hs hp
  unfold qcref5_Fast fastN
  by_cases c1 : c < 0
  · simp [c1]
  by_cases c2 : (w.classes.length : Int) ≤ c
  · simp [c1, c2]
  by_cases c3 : k < 0
  · simp [c1, c2, c3]
  obtain ⟨x, hx, hnx⟩ := nthO_in (l := w.classes) (i := c) (by omega) (by omega)
  by_cases c4 : (x.methods.length : Int) ≤ k
  · have : x.methods[k.toNat]? = none := List.getElem?_eq_none (by omega)
    simp [c1, c2, c3, c4, hnx, hx, this]
  obtain ⟨m, hm, hnm⟩ := nthO_in (l := x.methods) (i := k) (by omega) (by omega)
  have hM := hL _ x hx m (List.mem_of_getElem? hm)
  have hm60 := hM.len
  have hmt := hM.temps
  have hml : ∀ i, Itm.pl i ∈ (itemsN w sites m.code.length m.code 0 0 m.temps).1 → jmpB i = true → ∃ a, nthO (beginsOf (itemsN w sites m.code.length m.code 0 0 m.temps).1 0) i.a = some a := fun i hi hj => by
    have him := itemsN_jump w sites m.code.length m.code 0 0 m.temps i hi hj
    have hr := hM.jump i him (by simp only [jmpB, Bool.or_eq_true, decide_eq_true_eq] at hj; exact hj)
    obtain ⟨a, ha, hna⟩ := nthO_in (l := beginsOf (itemsN w sites m.code.length m.code 0 0 m.temps).1 0) (i := i.a) hr.1 (by rw [beginsOf_len, itemsN_len]; exact hr.2)
    exact ⟨a, hna⟩
  have e1 := Fast_l1_is N hN w hs hL sites m hm60 m.code 0 0 m.temps [] [] [] rfl (by omega) (by omega) (by omega) rfl rfl (by simp) (fun p hp => by cases hp)
  simp only [List.nil_append, Int.ofNat_zero] at e1
  have e1' : qcref5_Fast_l1 N w sites m m.code 0 m.temps 0 [] [] [] = some ((itemsN w sites m.code.length m.code 0 0 m.temps).2, (itemsN w sites m.code.length m.code 0 0 m.temps).1.map Itm.piece, beginsOf (itemsN w sites m.code.length m.code 0 0 m.temps).1 0, innerOf (itemsN w sites m.code.length m.code 0 0 m.temps).1 0) := e1
  simp only [c1, c2, c3, c4, hnx, hnm, decide_false, cond_false, Option.bind_some, e1', hx, hm, or_self, if_false, inner_any]
  cases hb : (itemsN w sites m.code.length m.code 0 0 m.temps).1.any Itm.isPc with
  | false => simp
  | true =>
    have htot := itemsN_tot w sites m.code.length m.code 0 0 m.temps (by omega) (by omega)
    have e2 := Fast_l2_is N ((itemsN w sites m.code.length m.code 0 0 m.temps).1.map Itm.piece) (beginsOf (itemsN w sites m.code.length m.code 0 0 m.temps).1 0) (innerOf (itemsN w sites m.code.length m.code 0 0 m.temps).1 0) (itemsN w sites m.code.length m.code 0 0 m.temps).1 0 [] rfl rfl
      (fun n x hx => mGet_inner _ 0 n x hx) hml (fun y s c p h => (itemsN_leaf w hL sites _ _ _ _ _ y s c p h).1) (by simp only [List.length_nil]; omega)
    simp only [List.length_nil, List.nil_append] at e2
    simp only [Bool.not_true, cond_false, e2, Option.bind_some, if_true]
theorem SameFast_self (N : Nat) (a : Fs) : qcref5_SameFast N a a = some true := by
  unfold qcref5_SameFast
  simp [SameCode_eq]
end Go.Proofs.Ytoceeiamcfdnlaa

/- Plain laws of the mirrors: all fast code of a right world. No program in sight. -/
namespace Go.Proofs.Ytoceeiamcfdnlaa
open Go.RowKit
set_option linter.unusedVariables false
def sitesF (N : Nat) (w : Wd) (t : List Tl) (c k : Int) : List Int := (choose_Sites N w t c k).getD []
def fast1 (N : Nat) (w : Wd) (t : List Tl) (c k : Nat) : List Fs := if (fastN w (c : Int) (k : Int) (sitesF N w t c k)).2 = true then [(fastN w (c : Int) (k : Int) (sitesF N w t c k)).1] else []
def all2 (N : Nat) (w : Wd) (t : List Tl) (c : Nat) : List Me → Nat → List Fs
  | [], _ => []
  | _ :: r, k => fast1 N w t c k ++ all2 N w t c r (k + 1)
def all1F (N : Nat) (w : Wd) (t : List Tl) : List Cl → Nat → List Fs
  | [], _ => []
  | x :: r, c => all2 N w t c x.methods 0 ++ all1F N w t r (c + 1)
theorem fast1_len (N : Nat) (w : Wd) (t : List Tl) (c k : Nat) : (fast1 N w t c k).length ≤ 1 := by
  unfold fast1; split <;> simp
theorem all2_len (N : Nat) (w : Wd) (t : List Tl) (c : Nat) : ∀ (r : List Me) (k : Nat), (all2 N w t c r k).length ≤ r.length
  | [], _ => Nat.le_refl _
  | x :: r, k => by
    have := fast1_len N w t c k
    have := all2_len N w t c r (k + 1)
    simp only [all2, List.length_append, List.length_cons]; omega
section
variable (N : Nat) (hN : 4194304 ≤ N) (w : Wd) (hs : SmallW w) (hp : RightP N w) (t : List Tl)
include hN hs hp
theorem sites_is (c k : Int) : choose_Sites N w t c k = some (sitesF N w t c k) ∧ qcref5_Sites N w t c k = some (sitesF N w t c k) := by
  obtain ⟨L, hL⟩ := choose_Sites_some N w t c k (by omega) hp.rise hs
  rw [qcref5_Sites_eq N w t c k (by omega) hp.rise hs, sitesF, hL]
  exact ⟨rfl, rfl⟩
theorem fast_All_l2_is (c : Nat) : ∀ (r : List Me) (k : Nat) (acc : List Fs), acc.length + r.length ≤ 1000000 → fast_All_l2 N w t c r k acc = some (acc ++ all2 N w t c r k)
  | [], k, acc, _ => by simp [fast_All_l2, all2]
  | x :: r, k, acc, h => by
    simp only [List.length_cons] at h
    rw [fast_All_l2, (sites_is N hN w hs hp t _ _).1]
    simp only [Option.bind_some, Method_is N hN w hs hp]
    have g : ∀ v : Fs, Nat.ble ((acc.length + [v].length) * 64) 140737488355328 = true := fun v => ble_true (by simp; omega)
    cases hq : (fastN w (c : Int) (k : Int) (sitesF N w t c k)).2 with
    | true =>
      simp only [cond_true, g, Option.bind_some]
      rw [fast_All_l2_is c r (k + 1) _ (by simp; omega)]
      simp [all2, fast1, hq]
    | false =>
      simp only [cond_false, Option.bind_some]
      rw [fast_All_l2_is c r (k + 1) _ (by omega)]
      simp [all2, fast1, hq]
theorem qcref5_All_l2_is (c : Nat) : ∀ (r : List Me) (k : Nat) (acc : List Fs), acc.length + r.length ≤ 1000000 → qcref5_All_l2 N w t c r k acc = some (acc ++ all2 N w t c r k)
  | [], k, acc, _ => by simp [qcref5_All_l2, all2]
  | x :: r, k, acc, h => by
    simp only [List.length_cons] at h
    rw [qcref5_All_l2, (sites_is N hN w hs hp t _ _).2]
    simp only [Option.bind_some, Fast_is N hN w hs hp]
    have g : ∀ v : Fs, Nat.ble ((acc.length + [v].length) * 64) 140737488355328 = true := fun v => ble_true (by simp; omega)
    cases hq : (fastN w (c : Int) (k : Int) (sitesF N w t c k)).2 with
    | true =>
      simp only [cond_true, g, Option.bind_some]
      rw [qcref5_All_l2_is c r (k + 1) _ (by simp; omega)]
      simp [all2, fast1, hq]
    | false =>
      simp only [cond_false, Option.bind_some]
      rw [qcref5_All_l2_is c r (k + 1) _ (by omega)]
      simp [all2, fast1, hq]
theorem All_l1_is : ∀ (r : List Cl) (c : Nat) (acc : List Fs), (∀ x ∈ r, x.methods.length ≤ 8) → acc.length + 8 * r.length ≤ 1000000 →
    fast_All_l1 N w t r c acc = some (acc ++ all1F N w t r c) ∧ qcref5_All_l1 N w t r c acc = some (acc ++ all1F N w t r c)
  | [], c, acc, _, _ => by simp [fast_All_l1, qcref5_All_l1, all1F]
  | x :: r, c, acc, hm, h => by
    simp only [List.length_cons] at h
    have h8 := hm x (by simp)
    have hl := all2_len N w t c x.methods 0
    obtain ⟨i1, i2⟩ := All_l1_is r (c + 1) (acc ++ all2 N w t c x.methods 0) (fun y hy => hm y (by simp [hy])) (by simp; omega)
    rw [fast_All_l1, qcref5_All_l1, fast_All_l2_is N hN w hs hp t c x.methods 0 acc (by omega), qcref5_All_l2_is N hN w hs hp t c x.methods 0 acc (by omega)]
    simp only [Option.bind_some, i1, i2, all1F, List.append_assoc, and_self]
theorem All_is : fast_All N w t = some (all1F N w t w.classes 0) ∧ qcref5_All N w t = some (all1F N w t w.classes 0) := by
  unfold fast_All qcref5_All
  have hm := hp.many
  obtain ⟨i1, i2⟩ := All_l1_is N hN w hs hp t w.classes 0 [] (fun x hx => by
    obtain ⟨i, hi⟩ := List.mem_iff_getElem?.1 hx
    exact (hp.meth i x hi).2.1) (by simp; omega)
  rw [i1, i2]
  simp
end
theorem qclaw11_small_l2_eq (N : Nat) : ∀ (l : List Ln) (k : Nat), ∃ o, qclaw11_small_l2 N l k = some o ∧ ∀ r, o = .ret r → r = false
  | [], k => ⟨.next (), rfl, fun r h => by cases h⟩
  | x :: l, k => by
    rw [qclaw11_small_l2]
    by_cases h1 : x.found < 0
    · exact ⟨.ret false, by simp [h1], fun r h => by cases h; rfl⟩
    by_cases h2 : 1000000 < x.found
    · exact ⟨.ret false, by simp [h1, h2], fun r h => by cases h; rfl⟩
    obtain ⟨o, ho, h⟩ := qclaw11_small_l2_eq N l (k + 1)
    exact ⟨o, by simp [h1, h2, ho], h⟩
theorem qclaw11_small_l1_eq (N : Nat) : ∀ (l : List Tl) (k : Nat), ∃ o, qclaw11_small_l1 N l k = some o
  | [], k => ⟨.next (), rfl⟩
  | x :: l, k => by
    rw [qclaw11_small_l1]
    obtain ⟨o, ho, _⟩ := qclaw11_small_l2_eq N x.classes 0
    rw [ho]
    cases o with
    | ret r => exact ⟨_, rfl⟩
    | next u => exact qclaw11_small_l1_eq N l (k + 1)
theorem qclaw11_small_some (N : Nat) (t : List Tl) : ∃ b, qclaw11_small N t = some b := by
  unfold qclaw11_small
  obtain ⟨o, ho⟩ := qclaw11_small_l1_eq N t 0
  rw [ho]
  cases o with
  | ret r => exact ⟨_, rfl⟩
  | next u => exact ⟨_, rfl⟩
end Go.Proofs.Ytoceeiamcfdnlaa
