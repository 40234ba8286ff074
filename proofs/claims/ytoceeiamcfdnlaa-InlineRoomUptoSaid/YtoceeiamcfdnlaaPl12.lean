/- Plain laws of the mirrors: a method in a send's place. No program in sight. -/
import Derived.Test.YtoceeiamcfdnlaaPl11
namespace Go.Proofs.Ytoceeiamcfdnlaa
open Go.RowKit
set_option linter.unusedVariables false
/-- jumps lead into so many instructions, or just behind them -/
def JOk (n : Int) (i : Ins) : Prop := (i.op = 15 ∨ i.op = 16) → 0 ≤ i.a ∧ i.a ≤ n
/-- what it guards was told -/
def GOk (L : Nat) (sites : List Int) (i : Ins) : Prop := i.op = 18 → 0 ≤ i.c ∧ i.c < L ∧ i.c < sites.length ∧ nthO sites i.c = some i.a
/-- a method that may stand in -/
structure Leafy (x : Me) : Prop where
  args : 0 ≤ x.args ∧ x.args ≤ 4
  temps : 0 ≤ x.temps ∧ x.temps ≤ 6
  len : x.code.length ≤ 60
  op : ∀ i ∈ x.code, 1 ≤ i.op ∧ i.op ≤ 17
  jump : ∀ i ∈ x.code, (i.op = 15 ∨ i.op = 16) → 0 ≤ i.a ∧ i.a < x.code.length
theorem put_eq (N : Nat) (w : Wd) (m : Me) (out : List Ins) (t : Int) (at_ fix : List Int) (op a b c : Int) (h : out.length ≤ 1000000) :
    inline_writer_put N (⟨w, m, out, t, at_, fix⟩ : TWriter) op a b c = some ⟨w, m, out ++ [⟨op, a, b, c, ByteArray.empty⟩], t, at_, fix⟩ := by
  unfold inline_writer_put
  rw [ble_true (by simp; omega)]
  rfl
theorem send_l1_eq (N : Nat) (x0 : TWriter) (w : Wd) (m : Me) (t : Int) (at_ fix : List Int) : ∀ (n : Nat) (v : Nat) (out : List Ins), v < n → v ≤ 100 → out.length + v ≤ 900000 →
    ∃ L, inline_writer_send_l1 N x0 n w m out t at_ fix ((v : Int) - 1) = some (w, m, out ++ L, t, at_, fix) ∧ L.length = v ∧ ∀ i ∈ L, i.op = 11
  | 0, v, out, h, _, _ => by omega
  | n + 1, 0, out, _, _, _ => ⟨[], by
      rw [inline_writer_send_l1]
      have hq : ¬ (0 : Int) ≤ ((0 : Nat) : Int) - 1 := by omega
      simp only [hq, decide_false, cond_false, List.append_nil], rfl, fun i hi => by cases hi⟩
  | n + 1, v + 1, out, h, hv, ho => by
    rw [inline_writer_send_l1]
    have h0 : (0 : Int) ≤ (((v + 1 : Nat) : Int) - 1) := by omega
    have w1 : wr ((((v + 1 : Nat) : Int) - 1) - 1) = (v : Int) - 1 := by rw [wr_in (by unfold InR; omega)]; omega
    simp only [h0, decide_true, cond_true, put_eq N w m out t at_ fix _ _ _ _ (show out.length ≤ 1000000 by omega), Option.bind_some, w1]
    obtain ⟨L, h1, h2, h3⟩ := send_l1_eq N x0 w m t at_ fix n v (out ++ [⟨11, wr (x0.temps + (((v + 1 : Nat) : Int) - 1)), 0, 0, ByteArray.empty⟩]) (by omega) (by omega) (by simp; omega)
    exact ⟨⟨11, wr (x0.temps + (((v + 1 : Nat) : Int) - 1)), 0, 0, ByteArray.empty⟩ :: L, by rw [h1, List.append_assoc]; rfl, by simp [h2], fun i hi => by
      rcases List.mem_cons.1 hi with rfl | hi
      · rfl
      · exact h3 i hi⟩
theorem send_l2_eq (N : Nat) (x0 : TWriter) (y : Me) (w : Wd) (m : Me) (t : Int) (at_ fix : List Int) : ∀ (n : Nat) (k : Nat) (out : List Ins), n ≤ 100 → out.length + 2 * n ≤ 900000 →
    ∃ L, inline_writer_send_l2 N x0 y n k w m out t at_ fix = some (w, m, out ++ L, t, at_, fix) ∧ L.length = 2 * n ∧ ∀ i ∈ L, i.op = 6 ∨ i.op = 11
  | 0, k, out, _, _ => ⟨[], by simp [inline_writer_send_l2], rfl, fun i hi => by cases hi⟩
  | n + 1, k, out, hn, ho => by
    rw [inline_writer_send_l2]
    simp only [put_eq N w m out t at_ fix _ _ _ _ (show out.length ≤ 1000000 by omega), Option.bind_some]
    rw [put_eq N w m _ t at_ fix _ _ _ _ (by simp; omega)]
    simp only [Option.bind_some]
    obtain ⟨L, h1, h2, h3⟩ := send_l2_eq N x0 y w m t at_ fix n (k + 1) ((out ++ [⟨6, 0, 0, 0, ByteArray.empty⟩]) ++ [⟨11, wr (wr (wr (x0.temps + 1) + y.args) + (k : Int)), 0, 0, ByteArray.empty⟩]) (by omega) (by simp; omega)
    refine ⟨⟨6, 0, 0, 0, ByteArray.empty⟩ :: ⟨11, wr (wr (wr (x0.temps + 1) + y.args) + (k : Int)), 0, 0, ByteArray.empty⟩ :: L, by rw [h1]; simp, by simp [h2]; omega, fun i hi => ?_⟩
    rcases List.mem_cons.1 hi with rfl | hi
    · exact .inl rfl
    rcases List.mem_cons.1 hi with rfl | hi
    · exact .inr rfl
    · exact h3 i hi
theorem send_l3_eq (N : Nat) (x0 : TWriter) (y : Me) (hy : Leafy y) (V : List Ins) (hV : V.length ≤ 100000) (w : Wd) (m : Me) (t : Int) (at_ fix : List Int) : ∀ (r : List Ins) (k : Nat) (out : List Ins), (∀ i ∈ r, i ∈ y.code) → out.length + r.length ≤ 900000 →
    ∃ L, inline_writer_send_l3 N x0 y V r k w m out t at_ fix = some (w, m, out ++ L, t, at_, fix) ∧ L.length = r.length ∧ ∀ i ∈ L, i.op ≠ 18 ∧ JOk ((V.length : Int) + y.code.length) i
  | [], k, out, _, _ => ⟨[], by simp [inline_writer_send_l3], rfl, fun i hi => by cases hi⟩
  | x :: r, k, out, hr, ho => by
    simp only [List.length_cons] at ho
    have hx := hr x (by simp)
    have hop := hy.op x hx
    have hju := hy.jump x hx
    have hlen := hy.len
    have pe : ∀ op a b c, inline_writer_put N (⟨w, m, out, t, at_, fix⟩ : TWriter) op a b c = some ⟨w, m, out ++ [⟨op, a, b, c, ByteArray.empty⟩], t, at_, fix⟩ := fun op a b c => put_eq N w m out t at_ fix op a b c (by omega)
    have w1 : wr ((V.length : Int) + (y.code.length : Int)) = (V.length : Int) + y.code.length := wr_in (by unfold InR; omega)
    rw [inline_writer_send_l3]
    have go : ∀ i : Ins, i.op ≠ 18 → JOk ((V.length : Int) + y.code.length) i → ∃ L, inline_writer_send_l3 N x0 y V r (k + 1) w m (out ++ [i]) t at_ fix = some (w, m, out ++ L, t, at_, fix) ∧ L.length = (x :: r).length ∧ ∀ i ∈ L, i.op ≠ 18 ∧ JOk ((V.length : Int) + y.code.length) i := by
      intro i h1 h2
      obtain ⟨L, e1, e2, e3⟩ := send_l3_eq N x0 y hy V hV w m t at_ fix r (k + 1) (out ++ [i]) (fun j hj => hr j (by simp [hj])) (by simp; omega)
      refine ⟨i :: L, by rw [e1]; simp, by simp [e2], fun j hj => ?_⟩
      rcases List.mem_cons.1 hj with rfl | hj
      · exact ⟨h1, h2⟩
      · exact e3 j hj
    have nj : ∀ op a b c, op ≠ 15 → op ≠ 16 → JOk ((V.length : Int) + y.code.length) ⟨op, a, b, c, ByteArray.empty⟩ := fun op a b c h1 h2 h => by rcases h with h | h; exact absurd h h1; exact absurd h h2
    by_cases h1 : x.op = 1
    · simp only [h1, decide_true, cond_true, pe, Option.bind_some]; exact go _ (by simp) (nj _ _ _ _ (by decide) (by decide))
    by_cases h2 : x.op = 2
    · simp only [h1, h2, decide_true, decide_false, cond_true, cond_false, pe, Option.bind_some]; exact go _ (by simp) (nj _ _ _ _ (by decide) (by decide))
    by_cases h3 : x.op = 3
    · simp only [h1, h2, h3, decide_true, decide_false, cond_true, cond_false, pe, Option.bind_some]; exact go _ (by simp) (nj _ _ _ _ (by decide) (by decide))
    by_cases h11 : x.op = 11
    · simp only [h1, h2, h3, h11, decide_true, decide_false, cond_true, cond_false, pe, Option.bind_some]; exact go _ (by simp) (nj _ _ _ _ (by decide) (by decide))
    by_cases h4 : x.op = 4
    · simp only [h1, h2, h3, h4, h11, decide_true, decide_false, cond_true, cond_false, pe, Option.bind_some]; exact go _ (by simp) (nj _ _ _ _ (by decide) (by decide))
    by_cases h12 : x.op = 12
    · simp only [h1, h2, h3, h4, h11, h12, decide_true, decide_false, cond_true, cond_false, pe, Option.bind_some]; exact go _ (by simp) (nj _ _ _ _ (by decide) (by decide))
    by_cases h15 : x.op = 15
    · have hj := hju (.inl h15)
      have w2 : wr ((V.length : Int) + x.a) = (V.length : Int) + x.a := wr_in (by unfold InR; omega)
      simp only [h1, h2, h3, h4, h11, h12, h15, w2, decide_true, decide_false, cond_true, cond_false, pe, Option.bind_some]
      exact go _ (by simp) (fun _ => ⟨by show 0 ≤ (V.length : Int) + x.a; omega, by show (V.length : Int) + x.a ≤ _; omega⟩)
    by_cases h16 : x.op = 16
    · have hj := hju (.inr h16)
      have w2 : wr ((V.length : Int) + x.a) = (V.length : Int) + x.a := wr_in (by unfold InR; omega)
      simp only [h1, h2, h3, h4, h11, h12, h15, h16, w2, decide_true, decide_false, cond_true, cond_false, pe, Option.bind_some]
      exact go _ (by simp) (fun _ => ⟨by show 0 ≤ (V.length : Int) + x.a; omega, by show (V.length : Int) + x.a ≤ _; omega⟩)
    by_cases h17 : x.op = 17
    · simp only [h1, h2, h3, h4, h11, h12, h15, h16, h17, w1, decide_true, decide_false, cond_true, cond_false, pe, Option.bind_some]
      exact go _ (by simp) (fun _ => ⟨by show 0 ≤ (V.length : Int) + (y.code.length : Int); omega, Int.le_refl _⟩)
    simp only [h1, h2, h3, h4, h11, h12, h15, h16, h17, decide_false, cond_false, pe, Option.bind_some]
    exact go _ (by show x.op ≠ 18; omega) (nj _ _ _ _ h15 h16)
/-- how many instructions -/
def sizeN (y : Me) : Nat := 3 + y.args.toNat + 2 * y.temps.toNat + y.code.length
theorem size_eq (N : Nat) (y : Me) (hy : Leafy y) : inline_size N y = some ((sizeN y : Nat) : Int) := by
  unfold inline_size sizeN
  have h1 := hy.args
  have h2 := hy.temps
  have h3 := hy.len
  have e1 : wr (3 + y.args) = 3 + y.args := wr_in (by unfold InR; omega)
  have e2 : wr (2 * y.temps) = 2 * y.temps := wr_in (by unfold InR; omega)
  have e3 : wr (3 + y.args + 2 * y.temps) = 3 + y.args + 2 * y.temps := wr_in (by unfold InR; omega)
  have e4 : wr (3 + y.args + 2 * y.temps + (y.code.length : Int)) = 3 + y.args + 2 * y.temps + y.code.length := wr_in (by unfold InR; omega)
  rw [e1, e2, e3, e4]
  congr 1
  omega
theorem send_eq (N : Nat) (hN : 1000 ≤ N) (w : Wd) (m : Me) (out : List Ins) (t : Int) (at_ fix : List Int) (k : Int) (p : Int) (i : Ins) (y : Me) (hy : Leafy y) (ht : 0 ≤ t ∧ t ≤ 40) (ho : out.length ≤ 1000) :
    ∃ L, inline_writer_send N (⟨w, m, out, t, at_, fix⟩ : TWriter) k p i y = some ⟨w, m, out ++ (⟨18, k, i.a, p, ByteArray.empty⟩ : Ins) :: L, t + (1 + y.args + y.temps), at_, fix⟩ ∧ L.length + 1 = sizeN y ∧ ∀ j ∈ L, j.op ≠ 18 ∧ JOk ((out.length : Int) + sizeN y) j := by
  have h1 := hy.args
  have h2 := hy.temps
  have h3 := hy.len
  unfold inline_writer_send
  have e1 : wr (1 + y.args) = 1 + y.args := wr_in (by unfold InR; omega)
  have e2 : wr (1 + y.args + y.temps) = 1 + y.args + y.temps := wr_in (by unfold InR; omega)
  have e3 : wr (t + (1 + y.args + y.temps)) = t + (1 + y.args + y.temps) := wr_in (by unfold InR; omega)
  simp only [e1, e2, e3]
  rw [put_eq N w m out _ at_ fix _ _ _ _ (by omega)]
  simp only [Option.bind_some]
  rw [put_eq N w m _ _ at_ fix _ _ _ _ (by simp; omega)]
  simp only [Option.bind_some]
  obtain ⟨L1, a1, a2, a3⟩ := send_l1_eq N ⟨w, m, out, t, at_, fix⟩ w m (t + (1 + y.args + y.temps)) at_ fix N (y.args.toNat + 1) ((out ++ [⟨18, k, i.a, p, ByteArray.empty⟩]) ++ [⟨21, 0, 0, 0, ByteArray.empty⟩]) (by omega) (by omega) (by simp; omega)
  have e4 : (((y.args.toNat + 1 : Nat) : Int) - 1) = y.args := by omega
  rw [e4] at a1
  rw [a1]
  simp only [Option.bind_some]
  have e5 : (y.temps - ((0 : Nat) : Int)).toNat = y.temps.toNat := by omega
  obtain ⟨L2, b1, b2, b3⟩ := send_l2_eq N ⟨w, m, out, t, at_, fix⟩ y w m (t + (1 + y.args + y.temps)) at_ fix y.temps.toNat 0 (((out ++ [⟨18, k, i.a, p, ByteArray.empty⟩]) ++ [⟨21, 0, 0, 0, ByteArray.empty⟩]) ++ L1) (by omega) (by simp [a2]; omega)
  rw [e5, b1]
  simp only [Option.bind_some]
  obtain ⟨L3, c1, c2, c3⟩ := send_l3_eq N ⟨w, m, out, t, at_, fix⟩ y hy ((((out ++ [⟨18, k, i.a, p, ByteArray.empty⟩]) ++ [⟨21, 0, 0, 0, ByteArray.empty⟩]) ++ L1) ++ L2) (by simp [a2, b2]; omega) w m (t + (1 + y.args + y.temps)) at_ fix y.code 0 ((((out ++ [⟨18, k, i.a, p, ByteArray.empty⟩]) ++ [⟨21, 0, 0, 0, ByteArray.empty⟩]) ++ L1) ++ L2) (fun j hj => hj) (by simp [a2, b2]; omega)
  rw [c1]
  simp only [Option.bind_some]
  have hl : ((((((out ++ [(⟨18, k, i.a, p, ByteArray.empty⟩ : Ins)]) ++ [(⟨21, 0, 0, 0, ByteArray.empty⟩ : Ins)]) ++ L1) ++ L2).length : Nat) : Int) + (y.code.length : Int) = (out.length : Int) + sizeN y := by
    simp only [List.length_append, List.length_cons, List.length_nil, a2, b2, sizeN]; omega
  rw [hl] at c3
  refine ⟨⟨21, 0, 0, 0, ByteArray.empty⟩ :: (L1 ++ L2 ++ L3), by simp, by simp only [List.length_cons, List.length_append, a2, b2, c2, sizeN]; omega, fun j hj => ?_⟩
  have nj : ∀ j : Ins, j.op ≠ 15 → j.op ≠ 16 → JOk ((out.length : Int) + sizeN y) j := fun j h1 h2 h => by rcases h with h | h; exact absurd h h1; exact absurd h h2
  rcases List.mem_cons.1 hj with rfl | hj
  · exact ⟨by decide, nj _ (by decide) (by decide)⟩
  rcases List.mem_append.1 hj with hj | hj
  · rcases List.mem_append.1 hj with hj | hj
    · have := a3 j hj
      exact ⟨by rw [this]; decide, nj j (by rw [this]; decide) (by rw [this]; decide)⟩
    · rcases b3 j hj with h | h
      · exact ⟨by rw [h]; decide, nj j (by rw [h]; decide) (by rw [h]; decide)⟩
      · exact ⟨by rw [h]; decide, nj j (by rw [h]; decide) (by rw [h]; decide)⟩
  · exact c3 j hj
end Go.Proofs.Ytoceeiamcfdnlaa
