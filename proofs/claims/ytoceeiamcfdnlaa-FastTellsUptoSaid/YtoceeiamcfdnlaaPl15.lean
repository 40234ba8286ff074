import Derived.Test.YtoceeiamcfdnlaaPl10
/- Plain laws of the mirrors: what a method of a right world is; fast code. No program in sight. -/
namespace Go.Proofs.Ytoceeiamcfdnlaa
open Go.RowKit
set_option linter.unusedVariables false
theorem Numbers_op (N : Nat) (w : Wd) (c : Int) (m : Me) (i : Ins) (hN : 1048578 ≤ N) (hs : w.classes.length ≤ 1048576) (h : qcref1_Numbers N w c m i = some 0) : 1 ≤ i.op ∧ i.op ≤ 17 := by
  by_cases hr : 1 ≤ i.op ∧ i.op ≤ 17
  · exact hr
  · exfalso
    unfold qcref1_Numbers at h
    have n1 : ¬ i.op = 1 := by omega
    have n2 : ¬ i.op = 2 := by omega
    have n3 : ¬ i.op = 3 := by omega
    have n4 : ¬ i.op = 4 := by omega
    have n5 : ¬ i.op = 5 := by omega
    have n6 : ¬ i.op = 6 := by omega
    have n7 : ¬ i.op = 7 := by omega
    have n8 : ¬ i.op = 8 := by omega
    have n9 : ¬ i.op = 9 := by omega
    have n10 : ¬ i.op = 10 := by omega
    have n11 : ¬ i.op = 11 := by omega
    have n12 : ¬ i.op = 12 := by omega
    have n13 : ¬ i.op = 13 := by omega
    have n14 : ¬ i.op = 14 := by omega
    have n15 : ¬ i.op = 15 := by omega
    have n16 : ¬ i.op = 16 := by omega
    have n17 : ¬ i.op = 17 := by omega
    simp only [n1, n2, n3, n4, n5, n6, n7, n8, n9, n10, n11, n12, n13, n14, n15, n16, n17, decide_false, cond_false, Option.bind_some] at h
    cases h
theorem Numbers_jump (N : Nat) (w : Wd) (c : Int) (m : Me) (i : Ins) (hm : m.code.length ≤ 1048576) (h : qcref1_Numbers N w c m i = some 0) (ho : i.op = 15 ∨ i.op = 16) : 0 ≤ i.a ∧ i.a < m.code.length := by
  have hw : wr ((m.code.length : Int) - 1) = (m.code.length : Int) - 1 := wr_in (by unfold InR; omega)
  have key : ∀ o : Int, (o = 15 ∨ o = 16) → i.op = o → 0 ≤ i.a ∧ i.a < m.code.length := by
    intro o ho he
    unfold qcref1_Numbers at h
    have n1 : ¬ o = 1 := by omega
    have n2 : ¬ o = 2 := by omega
    have n3 : ¬ o = 3 := by omega
    have n4 : ¬ o = 4 := by omega
    have n5 : ¬ o = 5 := by omega
    have n6 : ¬ o = 6 := by omega
    have n7 : ¬ o = 7 := by omega
    have n8 : ¬ o = 8 := by omega
    have n9 : ¬ o = 9 := by omega
    have n10 : ¬ o = 10 := by omega
    have n11 : ¬ o = 11 := by omega
    have n12 : ¬ o = 12 := by omega
    have n13 : ¬ o = 13 := by omega
    have n14 : ¬ o = 14 := by omega
    have n17 : ¬ o = 17 := by omega
    have hq : ((bif decide (o = (15 : Int)) then some (decide (o = (15 : Int))) else some (decide (o = (16 : Int)))) : Option Bool) = some true := by
      rcases ho with rfl | rfl <;> rfl
    simp only [he, n1, n2, n3, n4, n5, n6, n7, n8, n9, n10, n11, n12, n13, n14, n17, hq, decide_false, cond_false, cond_true, Option.bind_some, hw] at h
    by_cases h1 : i.a < 0
    · simp only [h1, decide_true, cond_true, Option.bind_some] at h; cases h
    · by_cases h2 : (m.code.length : Int) - 1 < i.a
      · simp only [h1, h2, decide_true, decide_false, cond_true, cond_false, Option.bind_some] at h; cases h
      · omega
  exact key i.op ho rfl
/-- a method with which nothing is wrong -/
structure MeP (N : Nat) (w : Wd) (k : Int) (m : Me) : Prop where
  args : 0 ≤ m.args ∧ m.args ≤ 4
  temps : 0 ≤ m.temps ∧ m.temps ≤ 6
  len : m.code.length ≤ 60
  num : ∀ i ∈ m.code, qcref1_Numbers N w k m i = some 0
theorem Check_ok (N : Nat) (w : Wd) (k : Int) (m : Me) (f : TFault) (hN : 1048578 ≤ N) (hs : w.classes.length ≤ 1048576) (h : qcref1_Check N w k m = some f) (h0 : f.err = 0) : MeP N w k m := by
  unfold qcref1_Check at h
  simp only [qcref1_Name_eq, Option.bind_some] at h
  by_cases a1 : k < 0
  · simp only [a1, decide_true, cond_true, Option.bind_some] at h; cases h; cases h0
  by_cases a2 : (w.classes.length : Int) ≤ k
  · simp only [a1, a2, decide_true, decide_false, cond_true, cond_false, Option.bind_some] at h; cases h; cases h0
  simp only [a1, a2, decide_false, cond_false, Option.bind_some] at h
  cases hn : nameN m.name with
  | false => rw [hn] at h; simp only [Bool.not_false, cond_true] at h; cases h; cases h0
  | true =>
    rw [hn] at h
    simp only [Bool.not_true, cond_false] at h
    by_cases b1 : m.args < 0
    · simp only [b1, decide_true, cond_true, Option.bind_some] at h; cases h; cases h0
    by_cases b2 : 4 < m.args
    · simp only [b1, b2, decide_true, decide_false, cond_true, cond_false, Option.bind_some] at h; cases h; cases h0
    by_cases b3 : m.temps < 0
    · simp only [b1, b2, b3, decide_true, decide_false, cond_true, cond_false, Option.bind_some] at h; cases h; cases h0
    by_cases b4 : 6 < m.temps
    · simp only [b1, b2, b3, b4, decide_true, decide_false, cond_true, cond_false, Option.bind_some] at h; cases h; cases h0
    simp only [b1, b2, b3, b4, decide_false, cond_false, Option.bind_some] at h
    by_cases b5 : m.prim = 0
    · simp only [b5, decide_true, Bool.not_true, cond_false] at h
      by_cases b6 : (m.code.length : Int) = 0
      · simp only [b6, decide_true, cond_true, Option.bind_some] at h; cases h; cases h0
      by_cases b7 : (60 : Int) < (m.code.length : Int)
      · simp only [b6, b7, decide_true, decide_false, cond_true, cond_false, Option.bind_some] at h; cases h; cases h0
      simp only [b6, b7, decide_false, cond_false, Option.bind_some] at h
      obtain ⟨o, h1, h2⟩ := qcref1_Check_l1_some N w k m hN hs m.code 0
      rw [h1] at h
      simp only [Option.bind_some] at h
      cases o with
      | next u => exact ⟨by omega, by omega, by omega, h2 rfl⟩
      | ret r =>
        have h : some r = some f := h
        cases h
        exfalso
        have key : ∀ (l : List Ins) (j : Nat) (r : TFault), qcref1_Check_l1 N w k m l j = some (.ret r) → r.err ≠ 0 := by
          intro l
          induction l with
          | nil => intro j r h; rw [qcref1_Check_l1] at h; cases h
          | cons x l ih =>
            intro j r h
            obtain ⟨q, hq⟩ := qcref1_Numbers_some N w k m x hN hs
            rw [qcref1_Check_l1, hq] at h
            simp only [Option.bind_some] at h
            by_cases hz : q = 0
            · simp only [hz, decide_true, Bool.not_true, cond_false] at h; exact ih _ _ h
            · simp only [hz, decide_false, Bool.not_false, cond_true] at h; cases h; exact hz
        exact key _ _ _ h1 h0
    · simp only [b5, decide_false, Bool.not_false, cond_true] at h; cases h; cases h0
/-- of a right world: a method is right, or one of the first -/
theorem meP_of {N : Nat} {w : Wd} (hN : 1048578 ≤ N) (hs : w.classes.length ≤ 1048576) (h : RightP N w) {k : Nat} {c : Cl} (hc : w.classes[k]? = some c) {m : Me} (hm : m ∈ c.methods) : MeP N w (k : Int) m := by
  rcases (h.meth k c hc).2.2.2 m hm with ⟨_, p, _, _, _, h1, h2, h3⟩ | ⟨f, h1, h2⟩
  · exact ⟨by omega, by omega, by rw [h3]; simp, by rw [h3]; intro i hi; cases hi⟩
  · exact Check_ok N w k m f hN hs h1 h2
end Go.Proofs.Ytoceeiamcfdnlaa

/- Plain laws of the mirrors: a method in a send's place. No program in sight. -/
namespace Go.Proofs.Ytoceeiamcfdnlaa
open Go.RowKit
set_option linter.unusedVariables false
/-- jumps lead into so many instructions, or just behind them -/
def JOk (n : Int) (i : Ins) : Prop := (i.op = 15 ∨ i.op = 16) → 0 ≤ i.a ∧ i.a ≤ n
/-- what it guards was told -/
def GOk (L : Nat) (sites : List Int) (i : Ins) : Prop := i.op = 18 → 0 ≤ i.c ∧ i.c < L ∧ i.c < sites.length ∧ nthO sites i.c = some i.a
/-- a method that may stand in -/
structure Leafy (x : Me) : Prop where
  args : 0 ≤ x.args ∧ x.args ≤ 4
  temps : 0 ≤ x.temps ∧ x.temps ≤ 6
  len : x.code.length ≤ 60
  op : ∀ i ∈ x.code, 1 ≤ i.op ∧ i.op ≤ 17
  jump : ∀ i ∈ x.code, (i.op = 15 ∨ i.op = 16) → 0 ≤ i.a ∧ i.a < x.code.length
theorem put_eq (N : Nat) (w : Wd) (m : Me) (out : List Ins) (t : Int) (at_ fix : List Int) (op a b c : Int) (h : out.length ≤ 1000000) :
    inline_writer_put N (⟨w, m, out, t, at_, fix⟩ : TWriter) op a b c = some ⟨w, m, out ++ [⟨op, a, b, c, ByteArray.empty⟩], t, at_, fix⟩ := by
  unfold inline_writer_put
  rw [ble_true (by simp; omega)]
  rfl
theorem send_l1_eq (N : Nat) (x0 : TWriter) (w : Wd) (m : Me) (t : Int) (at_ fix : List Int) : ∀ (n : Nat) (v : Nat) (out : List Ins), v < n → v ≤ 100 → out.length + v ≤ 900000 →
    ∃ L, inline_writer_send_l1 N x0 n w m out t at_ fix ((v : Int) - 1) = some (w, m, out ++ L, t, at_, fix) ∧ L.length = v ∧ ∀ i ∈ L, i.op = 11
  | 0, v, out, h, _, _ => by omega
  | n + 1, 0, out, _, _, _ => ⟨[], by
      rw [inline_writer_send_l1]
      have hq : ¬ (0 : Int) ≤ ((0 : Nat) : Int) - 1 := by omega
      simp only [hq, decide_false, cond_false, List.append_nil], rfl, fun i hi => by cases hi⟩
  | n + 1, v + 1, out, h, hv, ho => by
    rw [inline_writer_send_l1]
    have h0 : (0 : Int) ≤ (((v + 1 : Nat) : Int) - 1) := by omega
    have w1 : wr ((((v + 1 : Nat) : Int) - 1) - 1) = (v : Int) - 1 := by rw [wr_in (by unfold InR; omega)]; omega
    simp only [h0, decide_true, cond_true, put_eq N w m out t at_ fix _ _ _ _ (show out.length ≤ 1000000 by omega), Option.bind_some, w1]
    obtain ⟨L, h1, h2, h3⟩ := send_l1_eq N x0 w m t at_ fix n v (out ++ [⟨11, wr (x0.temps + (((v + 1 : Nat) : Int) - 1)), 0, 0, ByteArray.empty⟩]) (by omega) (by omega) (by simp; omega)
    exact ⟨⟨11, wr (x0.temps + (((v + 1 : Nat) : Int) - 1)), 0, 0, ByteArray.empty⟩ :: L, by rw [h1, List.append_assoc]; rfl, by simp [h2], fun i hi => by
      rcases List.mem_cons.1 hi with rfl | hi
      · rfl
      · exact h3 i hi⟩
theorem send_l2_eq (N : Nat) (x0 : TWriter) (y : Me) (w : Wd) (m : Me) (t : Int) (at_ fix : List Int) : ∀ (n : Nat) (k : Nat) (out : List Ins), n ≤ 100 → out.length + 2 * n ≤ 900000 →
    ∃ L, inline_writer_send_l2 N x0 y n k w m out t at_ fix = some (w, m, out ++ L, t, at_, fix) ∧ L.length = 2 * n ∧ ∀ i ∈ L, i.op = 6 ∨ i.op = 11
  | 0, k, out, _, _ => ⟨[], by simp [inline_writer_send_l2], rfl, fun i hi => by cases hi⟩
  | n + 1, k, out, hn, ho => by
    rw [inline_writer_send_l2]
    simp only [put_eq N w m out t at_ fix _ _ _ _ (show out.length ≤ 1000000 by omega), Option.bind_some]
    rw [put_eq N w m _ t at_ fix _ _ _ _ (by simp; omega)]
    simp only [Option.bind_some]
    obtain ⟨L, h1, h2, h3⟩ := send_l2_eq N x0 y w m t at_ fix n (k + 1) ((out ++ [⟨6, 0, 0, 0, ByteArray.empty⟩]) ++ [⟨11, wr (wr (wr (x0.temps + 1) + y.args) + (k : Int)), 0, 0, ByteArray.empty⟩]) (by omega) (by simp; omega)
    refine ⟨⟨6, 0, 0, 0, ByteArray.empty⟩ :: ⟨11, wr (wr (wr (x0.temps + 1) + y.args) + (k : Int)), 0, 0, ByteArray.empty⟩ :: L, by rw [h1]; simp, by simp [h2]; omega, fun i hi => ?_⟩
    rcases List.mem_cons.1 hi with rfl | hi
    · exact .inl rfl
    rcases List.mem_cons.1 hi with rfl | hi
    · exact .inr rfl
    · exact h3 i hi
theorem send_l3_eq (N : Nat) (x0 : TWriter) (y : Me) (hy : Leafy y) (V : List Ins) (hV : V.length ≤ 100000) (w : Wd) (m : Me) (t : Int) (at_ fix : List Int) : ∀ (r : List Ins) (k : Nat) (out : List Ins), (∀ i ∈ r, i ∈ y.code) → out.length + r.length ≤ 900000 →
    ∃ L, inline_writer_send_l3 N x0 y V r k w m out t at_ fix = some (w, m, out ++ L, t, at_, fix) ∧ L.length = r.length ∧ ∀ i ∈ L, i.op ≠ 18 ∧ JOk ((V.length : Int) + y.code.length) i
  | [], k, out, _, _ => ⟨[], by simp [inline_writer_send_l3], rfl, fun i hi => by cases hi⟩
  | x :: r, k, out, hr, ho => by
    simp only [List.length_cons] at ho
    have hx := hr x (by simp)
    have hop := hy.op x hx
    have hju := hy.jump x hx
    have hlen := hy.len
    have pe : ∀ op a b c, inline_writer_put N (⟨w, m, out, t, at_, fix⟩ : TWriter) op a b c = some ⟨w, m, out ++ [⟨op, a, b, c, ByteArray.empty⟩], t, at_, fix⟩ := fun op a b c => put_eq N w m out t at_ fix op a b c (by omega)
    have w1 : wr ((V.length : Int) + (y.code.length : Int)) = (V.length : Int) + y.code.length := wr_in (by unfold InR; omega)
    rw [inline_writer_send_l3]
    have go : ∀ i : Ins, i.op ≠ 18 → JOk ((V.length : Int) + y.code.length) i → ∃ L, inline_writer_send_l3 N x0 y V r (k + 1) w m (out ++ [i]) t at_ fix = some (w, m, out ++ L, t, at_, fix) ∧ L.length = (x :: r).length ∧ ∀ i ∈ L, i.op ≠ 18 ∧ JOk ((V.length : Int) + y.code.length) i := by
      intro i h1 h2
      obtain ⟨L, e1, e2, e3⟩ := send_l3_eq N x0 y hy V hV w m t at_ fix r (k + 1) (out ++ [i]) (fun j hj => hr j (by simp [hj])) (by simp; omega)
      refine ⟨i :: L, by rw [e1]; simp, by simp [e2], fun j hj => ?_⟩
      rcases List.mem_cons.1 hj with rfl | hj
      · exact ⟨h1, h2⟩
      · exact e3 j hj
    have nj : ∀ op a b c, op ≠ 15 → op ≠ 16 → JOk ((V.length : Int) + y.code.length) ⟨op, a, b, c, ByteArray.empty⟩ := fun op a b c h1 h2 h => by rcases h with h | h; exact absurd h h1; exact absurd h h2
    by_cases h1 : x.op = 1
    · simp only [h1, decide_true, cond_true, pe, Option.bind_some]; exact go _ (by simp) (nj _ _ _ _ (by decide) (by decide))
    by_cases h2 : x.op = 2
    · simp only [h2, decide_true, cond_true, pe, Option.bind_some]; exact go _ (by simp) (nj _ _ _ _ (by decide) (by decide))
    by_cases h3 : x.op = 3
    · simp only [h3, decide_true, cond_true, pe, Option.bind_some]; exact go _ (by simp) (nj _ _ _ _ (by decide) (by decide))
    by_cases h11 : x.op = 11
    · simp only [h11, decide_true, pe, Option.bind_some]; exact go _ (by simp) (nj _ _ _ _ (by decide) (by decide))
    by_cases h4 : x.op = 4
    · simp only [h4, decide_true, cond_true, pe, Option.bind_some]; exact go _ (by simp) (nj _ _ _ _ (by decide) (by decide))
    by_cases h12 : x.op = 12
    · simp only [h12, decide_true, cond_true, pe, Option.bind_some]; exact go _ (by simp) (nj _ _ _ _ (by decide) (by decide))
    by_cases h15 : x.op = 15
    · have hj := hju (.inl h15)
      have w2 : wr ((V.length : Int) + x.a) = (V.length : Int) + x.a := wr_in (by unfold InR; omega)
      simp only [h15, w2, decide_true, cond_true, pe, Option.bind_some]
      exact go _ (by simp) (fun _ => ⟨by show 0 ≤ (V.length : Int) + x.a; omega, by show (V.length : Int) + x.a ≤ _; omega⟩)
    by_cases h16 : x.op = 16
    · have hj := hju (.inr h16)
      have w2 : wr ((V.length : Int) + x.a) = (V.length : Int) + x.a := wr_in (by unfold InR; omega)
      simp only [h16, w2, decide_true, pe, Option.bind_some]
      exact go _ (by simp) (fun _ => ⟨by show 0 ≤ (V.length : Int) + x.a; omega, by show (V.length : Int) + x.a ≤ _; omega⟩)
    by_cases h17 : x.op = 17
    · simp only [h17, w1, decide_true, cond_true, pe, Option.bind_some]
      exact go _ (by simp) (fun _ => ⟨by show 0 ≤ (V.length : Int) + (y.code.length : Int); omega, Int.le_refl _⟩)
    simp only [h1, h2, h3, h4, h11, h12, h15, h16, h17, decide_false, cond_false, pe, Option.bind_some]
    exact go _ (by show x.op ≠ 18; omega) (nj _ _ _ _ h15 h16)
/-- how many instructions -/
def sizeN (y : Me) : Nat := 3 + y.args.toNat + 2 * y.temps.toNat + y.code.length
theorem size_eq (N : Nat) (y : Me) (hy : Leafy y) : inline_size N y = some ((sizeN y : Nat) : Int) := by
  unfold inline_size sizeN
  have h1 := hy.args
  have h2 := hy.temps
  have h3 := hy.len
  have e1 : wr (3 + y.args) = 3 + y.args := wr_in (by unfold InR; omega)
  have e2 : wr (2 * y.temps) = 2 * y.temps := wr_in (by unfold InR; omega)
  have e3 : wr (3 + y.args + 2 * y.temps) = 3 + y.args + 2 * y.temps := wr_in (by unfold InR; omega)
  have e4 : wr (3 + y.args + 2 * y.temps + (y.code.length : Int)) = 3 + y.args + 2 * y.temps + y.code.length := wr_in (by unfold InR; omega)
  rw [e1, e2, e3, e4]
  congr 1
  omega
theorem send_eq (N : Nat) (hN : 1000 ≤ N) (w : Wd) (m : Me) (out : List Ins) (t : Int) (at_ fix : List Int) (k : Int) (p : Int) (i : Ins) (y : Me) (hy : Leafy y) (ht : 0 ≤ t ∧ t ≤ 40) (ho : out.length ≤ 1000) :
    ∃ L, inline_writer_send N (⟨w, m, out, t, at_, fix⟩ : TWriter) k p i y = some ⟨w, m, out ++ (⟨18, k, i.a, p, ByteArray.empty⟩ : Ins) :: L, t + (1 + y.args + y.temps), at_, fix⟩ ∧ L.length + 1 = sizeN y ∧ ∀ j ∈ L, j.op ≠ 18 ∧ JOk ((out.length : Int) + sizeN y) j := by
  have h1 := hy.args
  have h2 := hy.temps
  have h3 := hy.len
  unfold inline_writer_send
  have e1 : wr (1 + y.args) = 1 + y.args := wr_in (by unfold InR; omega)
  have e2 : wr (1 + y.args + y.temps) = 1 + y.args + y.temps := wr_in (by unfold InR; omega)
  have e3 : wr (t + (1 + y.args + y.temps)) = t + (1 + y.args + y.temps) := wr_in (by unfold InR; omega)
  simp only [e1, e2, e3]
  rw [put_eq N w m out _ at_ fix _ _ _ _ (by omega)]
  simp only [Option.bind_some]
  rw [put_eq N w m _ _ at_ fix _ _ _ _ (by simp; omega)]
  simp only [Option.bind_some]
  obtain ⟨L1, a1, a2, a3⟩ := send_l1_eq N ⟨w, m, out, t, at_, fix⟩ w m (t + (1 + y.args + y.temps)) at_ fix N (y.args.toNat + 1) ((out ++ [⟨18, k, i.a, p, ByteArray.empty⟩]) ++ [⟨21, 0, 0, 0, ByteArray.empty⟩]) (by omega) (by omega) (by simp; omega)
  have e4 : (((y.args.toNat + 1 : Nat) : Int) - 1) = y.args := by omega
  rw [e4] at a1
  rw [a1]
  simp only [Option.bind_some]
  have e5 : (y.temps - ((0 : Nat) : Int)).toNat = y.temps.toNat := by omega
  obtain ⟨L2, b1, b2, b3⟩ := send_l2_eq N ⟨w, m, out, t, at_, fix⟩ y w m (t + (1 + y.args + y.temps)) at_ fix y.temps.toNat 0 (((out ++ [⟨18, k, i.a, p, ByteArray.empty⟩]) ++ [⟨21, 0, 0, 0, ByteArray.empty⟩]) ++ L1) (by omega) (by simp [a2]; omega)
  rw [e5, b1]
  simp only [Option.bind_some]
  obtain ⟨L3, c1, c2, c3⟩ := send_l3_eq N ⟨w, m, out, t, at_, fix⟩ y hy ((((out ++ [⟨18, k, i.a, p, ByteArray.empty⟩]) ++ [⟨21, 0, 0, 0, ByteArray.empty⟩]) ++ L1) ++ L2) (by simp [a2, b2]; omega) w m (t + (1 + y.args + y.temps)) at_ fix y.code 0 ((((out ++ [⟨18, k, i.a, p, ByteArray.empty⟩]) ++ [⟨21, 0, 0, 0, ByteArray.empty⟩]) ++ L1) ++ L2) (fun j hj => hj) (by simp [a2, b2]; omega)
  rw [c1]
  simp only [Option.bind_some]
  have hl : ((((((out ++ [(⟨18, k, i.a, p, ByteArray.empty⟩ : Ins)]) ++ [(⟨21, 0, 0, 0, ByteArray.empty⟩ : Ins)]) ++ L1) ++ L2).length : Nat) : Int) + (y.code.length : Int) = (out.length : Int) + sizeN y := by
    simp only [List.length_append, List.length_cons, List.length_nil, a2, b2, sizeN]; omega
  rw [hl] at c3
  refine ⟨⟨21, 0, 0, 0, ByteArray.empty⟩ :: (L1 ++ L2 ++ L3), by simp, by simp only [List.length_cons, List.length_append, a2, b2, c2, sizeN]; omega, fun j hj => ?_⟩
  have nj : ∀ j : Ins, j.op ≠ 15 → j.op ≠ 16 → JOk ((out.length : Int) + sizeN y) j := fun j h1 h2 h => by rcases h with h | h; exact absurd h h1; exact absurd h h2
  rcases List.mem_cons.1 hj with rfl | hj
  · exact ⟨by decide, nj _ (by decide) (by decide)⟩
  rcases List.mem_append.1 hj with hj | hj
  · rcases List.mem_append.1 hj with hj | hj
    · have := a3 j hj
      exact ⟨by rw [this]; decide, nj j (by rw [this]; decide) (by rw [this]; decide)⟩
    · rcases b3 j hj with h | h
      · exact ⟨by rw [h]; decide, nj j (by rw [h]; decide) (by rw [h]; decide)⟩
      · exact ⟨by rw [h]; decide, nj j (by rw [h]; decide) (by rw [h]; decide)⟩
  · exact c3 j hj
end Go.Proofs.Ytoceeiamcfdnlaa

/- Plain laws of the mirrors: Slots, Name, numbers, Heights and Check as the reference has them. No program in sight. -/
namespace Go.Proofs.Ytoceeiamcfdnlaa
open Go.RowKit
set_option linter.unusedVariables false
theorem class_Slots_l1_eq (N : Nat) (w : Wd) (hs : w.classes.length ≤ 1048576) : ∀ (n : Nat) (k : Nat) (c acc : Int), k ≤ w.classes.length + 1 → w.classes.length + 1 - k < n →
    class_Slots_l1 N w n c acc (k : Int) = some ((upsN w (w.classes.length + 1 - k) c).foldl (fun n k => match w.classes[k.toNat]? with | some x => wr (n + x.slots) | none => n) acc)
  | 0, k, c, acc, _, h => by omega
  | n + 1, k, c, acc, hk, hn => by
    rw [class_Slots_l1]
    by_cases h0 : 0 ≤ c
    · by_cases h1 : c < w.classes.length
      · obtain ⟨x, hx, hnth⟩ := nthO_in h0 h1
        by_cases h2 : k ≤ w.classes.length
        · have h2' : (k : Int) ≤ (w.classes.length : Int) := by omega
          have e : w.classes.length + 1 - k = (w.classes.length - k) + 1 := by omega
          have wk : wr ((k : Int) + 1) = ((k + 1 : Nat) : Int) := by rw [wr_in (by unfold InR; omega)]; omega
          simp only [h0, h1, h2', decide_true, cond_true, Option.bind_some, hnth, wk]
          rw [class_Slots_l1_eq N w hs n (k + 1) _ _ (by omega) (by omega), e, upsN, if_pos h0, hx]
          simp only [List.foldl_cons, hx]
          rw [show w.classes.length + 1 - (k + 1) = w.classes.length - k by omega]
        · have h2' : ¬ (k : Int) ≤ (w.classes.length : Int) := by omega
          have e : w.classes.length + 1 - k = 0 := by omega
          simp only [h0, h1, h2', decide_true, decide_false, cond_true, cond_false, Option.bind_some, e]
          rfl
      · have hx : w.classes[c.toNat]? = none := nthO_out h1
        simp only [h0, h1, decide_true, decide_false, cond_true, cond_false, Option.bind_some]
        cases hm : w.classes.length + 1 - k with
        | zero => rfl
        | succ m => rw [upsN, if_pos h0, hx]; rfl
    · simp only [h0, decide_false, cond_false, Option.bind_some]
      cases hm : w.classes.length + 1 - k with
      | zero => rfl
      | succ m => rw [upsN, if_neg h0]; rfl
theorem class_Slots_eq (N : Nat) (w : Wd) (c : Int) (hN : 1048578 ≤ N) (hs : w.classes.length ≤ 1048576) : class_Slots N w c = some (slotsN w c) := by
  unfold class_Slots slotsN
  have h := class_Slots_l1_eq N w hs N 0 c 0 (by omega) (by omega)
  simp only [Nat.sub_zero, Int.ofNat_zero] at h
  rw [h]
  rfl
theorem class_Name_l1_eq (N : Nat) (s : ByteArray) : ∀ (n k : Nat), n + k = s.size → class_Name_l1 N s n k = some (if (s.data.toList.drop k).all nmB = true then .next () else .ret false)
  | 0, k, h => by
    rw [List.drop_eq_nil_of_le (by rw [show s.data.toList.length = s.size from rfl]; omega)]
    rfl
  | n + 1, k, h => by
    have hk : k < s.data.toList.length := by rw [show s.data.toList.length = s.size from rfl]; omega
    rw [class_Name_l1, List.drop_eq_getElem_cons hk, byO_nat, List.getElem?_eq_getElem hk, class_Name_l1_eq N s n (k + 1) (by omega)]
    simp only [Option.bind_some, List.all_cons]
    generalize s.data.toList[k] = u
    generalize s.data.toList.drop (k + 1) = b
    by_cases h1 : (u.toNat : Int) ≤ 32
    · have h1' : (u.toNat : Int) < 33 := by omega
      have e : nmB u = false := by simp [nmB, h1']
      simp only [h1, e, decide_true, cond_true, Option.bind_some, Bool.false_and]; rfl
    · have h1' : ¬ (u.toNat : Int) < 33 := by omega
      by_cases h2 : 126 < (u.toNat : Int)
      · have e : nmB u = false := by simp only [nmB, h1', h2, decide_true, decide_false, Bool.not_true, Bool.and_false]
        simp only [h1, h2, e, decide_true, decide_false, cond_true, cond_false, Option.bind_some, Bool.false_and]; rfl
      · have e : nmB u = true := by simp only [nmB, h1', h2, decide_false, Bool.not_false, Bool.and_true]
        simp only [h1, h2, e, decide_false, cond_false, Option.bind_some, Bool.true_and]
theorem class_Name_eq (N : Nat) (s : ByteArray) : class_Name N s = some (nameN s) := by
  unfold class_Name nameN
  have e : ((s.size : Int) - ((0 : Nat) : Int)).toNat = s.size := by omega
  rw [e, class_Name_l1_eq N s s.size 0 (by omega), List.drop_zero]
  by_cases h1 : (s.size : Int) < 1
  · have h1' : ¬ 0 < s.size := by omega
    simp [h1, h1']
  · have h1' : 0 < s.size := by omega
    by_cases h2 : (12 : Int) < (s.size : Int)
    · have h2' : ¬ s.size ≤ 12 := by omega
      simp [h1, h2, h2']
    · have h2' : s.size ≤ 12 := by omega
      cases h : s.data.toList.all nmB <;> simp [h1, h2, h1', h2']
def numOkN (w : Wd) (c : Int) (m : Me) (i : Ins) : Option Bool :=
  if i.op = 1 ∨ i.op = 6 ∨ i.op = 7 ∨ i.op = 8 ∨ i.op = 9 ∨ i.op = 10 ∨ i.op = 17 then some (decide (i.a = 0))
  else if i.op = 2 then some (decide (0 ≤ i.a) && decide (i.a < m.args))
  else if i.op = 3 ∨ i.op = 11 then some (decide (0 ≤ i.a) && decide (i.a < m.temps))
  else if i.op = 4 ∨ i.op = 12 then some (decide (0 ≤ i.a) && decide (i.a < slotsN w c))
  else if i.op = 5 then some (decide (-1073741824 ≤ i.a) && decide (i.a ≤ 1073741824))
  else if i.op = 13 then some (decide (i.a = 0) || (decide (4 ≤ i.a) && decide (i.a < w.classes.length)))
  else if i.op = 14 then some (decide (0 ≤ i.a) && decide (i.a < 5))
  else if i.op = 15 ∨ i.op = 16 then some (decide (0 ≤ i.a) && decide (i.a < m.code.length))
  else none
def formN (i : Ins) : Bool := (decide (i.op = 14) && !nameN i.name) || (!decide (i.op = 14) && !decide (i.name = (⟨#[]⟩ : ByteArray))) || !decide (i.b = 0) || !decide (i.c = 0)
/-- what is wrong with an instruction's numbers -/
def numN (w : Wd) (c : Int) (m : Me) (i : Ins) : Int := match numOkN w c m i with
  | none => 1
  | some ok => if ok = true then (if formN i = true then 2 else 0) else 3
theorem slots_fold {w : Wd} (hw : ∀ x ∈ w.classes, 0 ≤ x.slots ∧ x.slots ≤ 6) : ∀ (l : List Int) (acc : Int), 0 ≤ acc → acc + 6 * l.length ≤ 100000000 →
    0 ≤ l.foldl (fun n k => match w.classes[k.toNat]? with | some x => wr (n + x.slots) | none => n) acc ∧ l.foldl (fun n k => match w.classes[k.toNat]? with | some x => wr (n + x.slots) | none => n) acc ≤ acc + 6 * l.length
  | [], acc, h0, h1 => ⟨by simpa using h0, by simp⟩
  | k :: l, acc, h0, h1 => by
    simp only [List.foldl_cons, List.length_cons] at h1 ⊢
    cases hx : w.classes[k.toNat]? with
    | none =>
      have := slots_fold hw l acc h0 (by omega)
      simp only
      omega
    | some x =>
      have := hw x (List.mem_of_getElem? hx)
      simp only
      rw [wr_in (by unfold InR; omega)]
      have := slots_fold hw l (acc + x.slots) (by omega) (by omega)
      omega
theorem slotsN_in {w : Wd} (hw : ∀ x ∈ w.classes, 0 ≤ x.slots ∧ x.slots ≤ 6) (hs : w.classes.length ≤ 1048576) (c : Int) : 0 ≤ slotsN w c ∧ slotsN w c ≤ 1000000000 := by
  have hl := upsN_len w (w.classes.length + 1) c
  have := slots_fold hw (upsN w (w.classes.length + 1) c) 0 (by omega) (by omega)
  unfold slotsN
  exact ⟨this.1, Int.le_trans this.2 (by omega)⟩
theorem qcref1_Numbers_eq (N : Nat) (w : Wd) (c : Int) (m : Me) (i : Ins) (hN : 1048578 ≤ N) (hs : w.classes.length ≤ 1048576) (hl : 1 ≤ w.classes.length) (ha : 0 ≤ m.args ∧ m.args ≤ 1000) (ht : 0 ≤ m.temps ∧ m.temps ≤ 1000)
    (hsl : 0 ≤ slotsN w c ∧ slotsN w c ≤ 1000000000) (hc : m.code.length ≤ 1048576) : qcref1_Numbers N w c m i = some (numN w c m i) := by
  unfold qcref1_Numbers numN numOkN formN
  simp only [qcref1_Slots_eq N w c hN hs, qcref1_Name_eq, Option.bind_some, wr_in (show InR (m.args - 1) by unfold InR; omega), wr_in (show InR (m.temps - 1) by unfold InR; omega), wr_in (show InR (slotsN w c - 1) by unfold InR; omega),
    wr_in (show InR ((w.classes.length : Int) - 1) by unfold InR; omega), wr_in (show InR ((m.code.length : Int) - 1) by unfold InR; omega)]
  by_cases h13 : i.op = 13
  · have eE : (!decide (i.op = 14)) = true := by rw [h13]; rfl
    simp only [h13]
    rcases (by omega : i.a < 0 ∨ i.a = 0 ∨ (0 < i.a ∧ i.a < 4) ∨ 4 ≤ i.a) with h | h | h | h
    · simp [h, show ¬ i.a = 0 by omega, show ¬ 0 < i.a by omega, show ¬ 4 ≤ i.a by omega]
    · have hb : ¬ ((w.classes.length : Int) - 1 < 0) := by omega
      have hb2 : ¬ ((w.classes.length : Int) < 1) := by omega
      generalize decide (i.b = 0) = B
      generalize decide (i.c = 0) = C
      generalize decide (i.name = (⟨#[]⟩ : ByteArray)) = E
      simp only [h]
      cases B <;> cases C <;> cases E <;> simp [hb]
    · simp [h.1, h.2, show ¬ i.a = 0 by omega, show ¬ 4 ≤ i.a by omega]
    · have hb : ¬ i.a < 4 := by omega
      have hb2 : ¬ i.a < 0 := by omega
      have hb3 : ¬ i.a = 0 := by omega
      have hb4 : 0 < i.a := by omega
      generalize decide (i.b = 0) = B
      generalize decide (i.c = 0) = C
      generalize decide (i.name = (⟨#[]⟩ : ByteArray)) = E
      by_cases hA : i.a < (w.classes.length : Int)
      · have hA2 : ¬ ((w.classes.length : Int) - 1 < i.a) := by omega
        cases B <;> cases C <;> cases E <;> simp [hb, hb2, hb3, hb4, h, hA, hA2]
      · have hA2 : ((w.classes.length : Int) - 1 < i.a) := by omega
        simp [hb, hb2, hb3, hb4, h, hA, hA2]
  generalize decide (i.b = 0) = B
  generalize decide (i.c = 0) = C
  generalize decide (i.name = (⟨#[]⟩ : ByteArray)) = E
  generalize nameN i.name = M
  by_cases h1 : i.op = 1
  · rcases Int.lt_trichotomy i.a 0 with h | h | h
    · simp [h1, h, show ¬ i.a = 0 by omega]
    · cases B <;> cases C <;> cases E <;> simp [h1, h]
    · simp [h1, h, show ¬ i.a < 0 by omega, show ¬ i.a = 0 by omega]
  by_cases h6 : i.op = 6
  · rcases Int.lt_trichotomy i.a 0 with h | h | h
    · simp [h6, h, show ¬ i.a = 0 by omega]
    · cases B <;> cases C <;> cases E <;> simp [h6, h]
    · simp [h6, h, show ¬ i.a < 0 by omega, show ¬ i.a = 0 by omega]
  by_cases h7 : i.op = 7
  · rcases Int.lt_trichotomy i.a 0 with h | h | h
    · simp [h7, h, show ¬ i.a = 0 by omega]
    · cases B <;> cases C <;> cases E <;> simp [h7, h]
    · simp [h7, h, show ¬ i.a < 0 by omega, show ¬ i.a = 0 by omega]
  by_cases h8 : i.op = 8
  · rcases Int.lt_trichotomy i.a 0 with h | h | h
    · simp [h8, h, show ¬ i.a = 0 by omega]
    · cases B <;> cases C <;> cases E <;> simp [h8, h]
    · simp [h8, h, show ¬ i.a < 0 by omega, show ¬ i.a = 0 by omega]
  by_cases h9 : i.op = 9
  · rcases Int.lt_trichotomy i.a 0 with h | h | h
    · simp [h9, h, show ¬ i.a = 0 by omega]
    · cases B <;> cases C <;> cases E <;> simp [h9, h]
    · simp [h9, h, show ¬ i.a < 0 by omega, show ¬ i.a = 0 by omega]
  by_cases h10 : i.op = 10
  · rcases Int.lt_trichotomy i.a 0 with h | h | h
    · simp [h10, h, show ¬ i.a = 0 by omega]
    · cases B <;> cases C <;> cases E <;> simp [h10, h]
    · simp [h10, h, show ¬ i.a < 0 by omega, show ¬ i.a = 0 by omega]
  by_cases h17 : i.op = 17
  · rcases Int.lt_trichotomy i.a 0 with h | h | h
    · simp [h17, h, show ¬ i.a = 0 by omega]
    · cases B <;> cases C <;> cases E <;> simp [h17, h]
    · simp [h17, h, show ¬ i.a < 0 by omega, show ¬ i.a = 0 by omega]
  by_cases h2 : i.op = 2
  · by_cases h : 0 ≤ i.a
    · by_cases h' : i.a < m.args
      · cases B <;> cases C <;> cases E <;> simp [h2, h, h', show ¬ i.a < 0 by omega, show ¬ (m.args - 1 < i.a) by omega]
      · simp [h2, h, h', show ¬ i.a < 0 by omega, show (m.args - 1 < i.a) by omega]
    · simp [h2, h, show i.a < 0 by omega]
  by_cases h3 : i.op = 3
  · by_cases h : 0 ≤ i.a
    · by_cases h' : i.a < m.temps
      · cases B <;> cases C <;> cases E <;> simp [h3, h, h', show ¬ i.a < 0 by omega, show ¬ (m.temps - 1 < i.a) by omega]
      · simp [h3, h, h', show ¬ i.a < 0 by omega, show (m.temps - 1 < i.a) by omega]
    · simp [h3, h, show i.a < 0 by omega]
  by_cases h11 : i.op = 11
  · by_cases h : 0 ≤ i.a
    · by_cases h' : i.a < m.temps
      · cases B <;> cases C <;> cases E <;> simp [h11, h, h', show ¬ i.a < 0 by omega, show ¬ (m.temps - 1 < i.a) by omega]
      · simp [h11, h, h', show ¬ i.a < 0 by omega, show (m.temps - 1 < i.a) by omega]
    · simp [h11, h, show i.a < 0 by omega]
  by_cases h4 : i.op = 4
  · by_cases h : 0 ≤ i.a
    · by_cases h' : i.a < slotsN w c
      · cases B <;> cases C <;> cases E <;> simp [h4, h, h', show ¬ i.a < 0 by omega, show ¬ (slotsN w c - 1 < i.a) by omega]
      · simp [h4, h, h', show ¬ i.a < 0 by omega, show (slotsN w c - 1 < i.a) by omega]
    · simp [h4, h, show i.a < 0 by omega]
  by_cases h12 : i.op = 12
  · by_cases h : 0 ≤ i.a
    · by_cases h' : i.a < slotsN w c
      · cases B <;> cases C <;> cases E <;> simp [h12, h, h', show ¬ i.a < 0 by omega, show ¬ (slotsN w c - 1 < i.a) by omega]
      · simp [h12, h, h', show ¬ i.a < 0 by omega, show (slotsN w c - 1 < i.a) by omega]
    · simp [h12, h, show i.a < 0 by omega]
  by_cases h5 : i.op = 5
  · by_cases h : -1073741824 ≤ i.a
    · by_cases h' : i.a ≤ 1073741824
      · cases B <;> cases C <;> cases E <;> simp [h5, h, h', show ¬ i.a < -1073741824 by omega, show ¬ (1073741824 < i.a) by omega]
      · simp [h5, h, h', show ¬ i.a < -1073741824 by omega, show (1073741824 < i.a) by omega]
    · simp [h5, h, show i.a < -1073741824 by omega]
  by_cases h14 : i.op = 14
  · by_cases h : 0 ≤ i.a
    · by_cases h' : i.a < 5
      · cases B <;> cases C <;> cases M <;> simp [h14, h, h', show ¬ i.a < 0 by omega, show ¬ (4 < i.a) by omega]
      · simp [h14, h, h', show ¬ i.a < 0 by omega, show (4 < i.a) by omega]
    · simp [h14, h, show i.a < 0 by omega]
  by_cases h15 : i.op = 15
  · by_cases h : 0 ≤ i.a
    · by_cases h' : i.a < (m.code.length : Int)
      · cases B <;> cases C <;> cases E <;> simp [h15, h, h', show ¬ i.a < 0 by omega, show ¬ ((m.code.length : Int) - 1 < i.a) by omega]
      · simp [h15, h, h', show ¬ i.a < 0 by omega, show ((m.code.length : Int) - 1 < i.a) by omega]
    · simp [h15, h, show i.a < 0 by omega]
  by_cases h16 : i.op = 16
  · by_cases h : 0 ≤ i.a
    · by_cases h' : i.a < (m.code.length : Int)
      · cases B <;> cases C <;> cases E <;> simp [h16, h, h', show ¬ i.a < 0 by omega, show ¬ ((m.code.length : Int) - 1 < i.a) by omega]
      · simp [h16, h, h', show ¬ i.a < 0 by omega, show ((m.code.length : Int) - 1 < i.a) by omega]
    · simp [h16, h, show i.a < 0 by omega]
  simp [h1, h2, h3, h4, h5, h6, h7, h8, h9, h10, h11, h12, h13, h14, h15, h16, h17]
end Go.Proofs.Ytoceeiamcfdnlaa

/- Plain laws of the mirrors: Heights and Check as the reference has them; what Heights that come tell. No program in sight. -/
namespace Go.Proofs.Ytoceeiamcfdnlaa
open Go.RowKit
set_option linter.unusedVariables false
end Go.Proofs.Ytoceeiamcfdnlaa

/- Plain laws of the mirrors: what Heights that come tell; Check as the reference has it. No program in sight. -/
namespace Go.Proofs.Ytoceeiamcfdnlaa
open Go.RowKit
set_option linter.unusedVariables false
end Go.Proofs.Ytoceeiamcfdnlaa
