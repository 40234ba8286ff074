/- The plain law of qclaw10.InlineRoom. No program in sight. -/
import Derived.Test.YtoceeiamcfdnlaaPl12
namespace Go.Proofs.Ytoceeiamcfdnlaa
open Go.RowKit
set_option linter.unusedVariables false
set_option maxRecDepth 100000 in
theorem qclaw10_alive_eq : qclaw10_alive 4194304 = some true := by kernel_rfl
/-- fast code under way: behind k instructions -/
structure StI (L : Nat) (sites : List Int) (k : Nat) (out : List Ins) (t : Int) (at_ fix : List Int) (b : Bool) : Prop where
  len : out.length + L ≤ 240 + k
  kl : k ≤ L
  tmp : 0 ≤ t ∧ t ≤ 40
  atl : at_.length = k
  atb : ∀ a ∈ at_, 0 ≤ a ∧ a ≤ out.length
  g : ∀ i ∈ out, GOk L sites i
  j : ∀ (n : Nat) (i : Ins), out[n]? = some i → (i.op = 15 ∨ i.op = 16) → if (n : Int) ∈ fix then 0 ≤ i.a ∧ i.a < L else 0 ≤ i.a ∧ i.a ≤ out.length
  fb : ∀ f ∈ fix, 0 ≤ f ∧ f < out.length
  fd : fix.Nodup
  fj : ∀ f ∈ fix, ∃ i, out[f.toNat]? = some i ∧ (i.op = 15 ∨ i.op = 16)
  gd : b = true → ∃ i ∈ out, i.op = 18
/-- an instruction as it is -/
theorem StI.plain {L : Nat} {sites : List Int} {k : Nat} {out : List Ins} {t : Int} {at_ fix : List Int} {b : Bool} (h : StI L sites k out t at_ fix b) (hk : k < L) (v : Ins) (h18 : v.op ≠ 18) :
    ((v.op = 15 ∨ v.op = 16) → 0 ≤ v.a ∧ v.a < L → StI L sites (k + 1) (out ++ [v]) t (at_ ++ [(out.length : Int)]) (fix ++ [(out.length : Int)]) b) ∧ (¬ (v.op = 15 ∨ v.op = 16) → StI L sites (k + 1) (out ++ [v]) t (at_ ++ [(out.length : Int)]) fix b) := by
  have hl := h.len
  have atb : ∀ a ∈ at_ ++ [(out.length : Int)], 0 ≤ a ∧ a ≤ (out ++ [v]).length := by
    intro a ha
    rw [List.length_append]
    rcases List.mem_append.1 ha with ha | ha
    · have := h.atb a ha; simp only [List.length_cons, List.length_nil]; omega
    · rw [List.mem_singleton] at ha; subst ha; simp only [List.length_cons, List.length_nil]; omega
  have g : ∀ i ∈ out ++ [v], GOk L sites i := by
    intro i hi
    rcases List.mem_append.1 hi with hi | hi
    · exact h.g i hi
    · rw [List.mem_singleton] at hi; subst hi; exact fun e => absurd e h18
  have gd : b = true → ∃ i ∈ out ++ [v], i.op = 18 := fun hb => by
    obtain ⟨i, hi, e⟩ := h.gd hb
    exact ⟨i, by simp [hi], e⟩
  have fin : (out.length : Int) ∉ fix := fun hf => by have := h.fb _ hf; omega
  have old : ∀ (n : Nat) (i : Ins), n < out.length → (out ++ [v])[n]? = some i → out[n]? = some i := fun n i hn hi => by rwa [List.getElem?_append_left hn] at hi
  constructor
  · intro hj hv
    refine ⟨by simp; omega, hk, h.tmp, by simp [h.atl], atb, g, fun n i hn hij => ?_, fun f hf => ?_, ?_, fun f hf => ?_, gd⟩
    · rcases Nat.lt_or_ge n out.length with hlt | hge
      · have := h.j n i (old n i hlt hn) hij
        have hne : (n : Int) ≠ (out.length : Int) := by omega
        by_cases hf : (n : Int) ∈ fix
        · rw [if_pos hf] at this; rw [if_pos (by simp [hf])]; exact this
        · rw [if_neg hf] at this; rw [if_neg (by simp [hf, hne])]; simp only [List.length_append, List.length_cons, List.length_nil]; omega
      · have hn2 : n = out.length := by have := (List.getElem?_eq_some_iff.1 hn).1; simp at this; omega
        subst hn2
        rw [List.getElem?_append_right (Nat.le_refl _)] at hn
        simp at hn; subst hn
        rw [if_pos (by simp)]; exact hv
    · rw [List.length_append]
      rcases List.mem_append.1 hf with hf | hf
      · have := h.fb f hf; simp only [List.length_cons, List.length_nil]; omega
      · rw [List.mem_singleton] at hf; subst hf; simp only [List.length_cons, List.length_nil]; omega
    · refine List.nodup_append.2 ⟨h.fd, by simp, fun a ha b hb e => ?_⟩
      rw [List.mem_singleton] at hb
      subst hb
      exact fin (e ▸ ha)
    · rcases List.mem_append.1 hf with hf | hf
      · obtain ⟨i, hi, ho⟩ := h.fj f hf
        exact ⟨i, by rw [List.getElem?_append_left (List.getElem?_eq_some_iff.1 hi).1]; exact hi, ho⟩
      · rw [List.mem_singleton] at hf; subst hf
        exact ⟨v, by rw [Int.toNat_natCast, List.getElem?_append_right (Nat.le_refl _)]; simp, hj⟩
  · intro hj
    refine ⟨by simp; omega, hk, h.tmp, by simp [h.atl], atb, g, fun n i hn hij => ?_, fun f hf => ?_, h.fd, fun f hf => ?_, gd⟩
    · rcases Nat.lt_or_ge n out.length with hlt | hge
      · have := h.j n i (old n i hlt hn) hij
        by_cases hf : (n : Int) ∈ fix
        · rw [if_pos hf] at this ⊢; exact this
        · rw [if_neg hf] at this ⊢; simp only [List.length_append, List.length_cons, List.length_nil]; omega
      · have hn2 : n = out.length := by have := (List.getElem?_eq_some_iff.1 hn).1; simp at this; omega
        subst hn2
        rw [List.getElem?_append_right (Nat.le_refl _)] at hn
        simp at hn; subst hn
        exact absurd hij hj
    · have := h.fb f hf; simp only [List.length_append, List.length_cons, List.length_nil]; omega
    · obtain ⟨i, hi, ho⟩ := h.fj f hf
      exact ⟨i, by rw [List.getElem?_append_left (List.getElem?_eq_some_iff.1 hi).1]; exact hi, ho⟩
/-- a method in a send's place -/
theorem StI.inl {L : Nat} {sites : List Int} {k : Nat} {out : List Ins} {t : Int} {at_ fix : List Int} {b : Bool} (h : StI L sites k out t at_ fix b) (hk : k < L) (q : Ins) (L2 : List Ins) (y : Me) (hy : Leafy y)
    (hq : q.op = 18 ∧ q.c = (k : Int) ∧ (k : Int) < sites.length ∧ nthO sites (k : Int) = some q.a) (hl : L2.length + 1 = sizeN y) (hj : ∀ i ∈ L2, i.op ≠ 18 ∧ JOk ((out.length : Int) + sizeN y) i)
    (hr : out.length + sizeN y + L ≤ 240 + k) (ht : t + 1 + y.args + y.temps ≤ 40) : StI L sites (k + 1) (out ++ q :: L2) (t + (1 + y.args + y.temps)) (at_ ++ [(out.length : Int)]) fix true := by
  have ha := hy.args
  have hte := hy.temps
  have htm := h.tmp
  have e : (out ++ q :: L2).length = out.length + sizeN y := by simp; omega
  refine ⟨by rw [e]; omega, hk, by omega, by simp [h.atl], fun a hm => ?_, fun i hi => ?_, fun n i hn hij => ?_, fun f hf => ?_, h.fd, fun f hf => ?_, fun _ => ⟨q, by simp, hq.1⟩⟩
  · rw [e]
    rcases List.mem_append.1 hm with hm | hm
    · have := h.atb a hm; omega
    · rw [List.mem_singleton] at hm; subst hm; omega
  · rcases List.mem_append.1 hi with hi | hi
    · exact h.g i hi
    · rcases List.mem_cons.1 hi with rfl | hi
      · intro _
        rw [hq.2.1]
        exact ⟨by omega, by omega, hq.2.2.1, hq.2.2.2⟩
      · exact fun e => absurd e (hj i hi).1
  · rw [e]
    rcases Nat.lt_or_ge n out.length with hlt | hge
    · rw [List.getElem?_append_left hlt] at hn
      have := h.j n i hn hij
      by_cases hf : (n : Int) ∈ fix
      · rw [if_pos hf] at this ⊢; exact this
      · rw [if_neg hf] at this ⊢; omega
    · have hnf : (n : Int) ∉ fix := fun hf => by have := h.fb _ hf; omega
      rw [if_neg hnf]
      rw [List.getElem?_append_right hge] at hn
      rcases List.mem_cons.1 (List.mem_of_getElem? hn) with rfl | hi
      · rw [hq.1] at hij; omega
      · have := (hj i hi).2 hij; omega
  · have := h.fb f hf; rw [e]; omega
  · obtain ⟨i, hi, ho⟩ := h.fj f hf
    exact ⟨i, by rw [List.getElem?_append_left (List.getElem?_eq_some_iff.1 hi).1]; exact hi, ho⟩
theorem callee_eq (N : Nat) (hN : 1048578 ≤ N) (W : Wd) (hw : RiseW W) (hs : SmallW W) (m : Me) (out : List Ins) (t : Int) (at_ fix : List Int) (c : Int) (name : ByteArray) :
    (∃ y, inline_writer_callee N (⟨W, m, out, t, at_, fix⟩ : TWriter) c name = some (some y, ⟨W, m, out, t, at_, fix⟩) ∧ ∃ (k : Nat) (x : Cl), W.classes[k]? = some x ∧ y ∈ x.methods) ∨ inline_writer_callee N (⟨W, m, out, t, at_, fix⟩ : TWriter) c name = some (none, ⟨W, m, out, t, at_, fix⟩) := by
  unfold inline_writer_callee
  rw [class_Find_eq N W c name hN hw hs]
  simp only [Option.bind_some]
  by_cases h : (findN W name c).2 < 0
  · right; simp only [h, decide_true, cond_true]
  · left
    obtain ⟨x, y, hx, hy, _⟩ := findN_in (w := W) (s := name) (c := c) (by omega)
    refine ⟨y, by simp only [h, decide_false, cond_false, hx, hy, Option.bind_some], (findN W name c).1.toNat, x, (nthO_some hx).2, List.mem_of_getElem? (nthO_some hy).2⟩
theorem Method_l1_eq (N : Nat) (hN : 4194304 ≤ N) (W : Wd) (hw : RiseW W) (hs : SmallW W) (hp : RightP N W) (sites : List Int) (M : Me) (hM : Leafy M) : ∀ (r : List Ins) (k : Nat) (out : List Ins) (t : Int) (at_ fix : List Int) (b : Bool), r = M.code.drop k → StI M.code.length sites k out t at_ fix b →
    ∃ out' t' at' fix' b', inline_Method_l1 N sites M r k W M out t at_ fix b = some (W, M, out', t', at', fix', b') ∧ StI M.code.length sites M.code.length out' t' at' fix' b'
  | [], k, out, t, at_, fix, b, hd, h => by
    have h1 := List.drop_eq_nil_iff.1 hd.symm
    have h2 := h.kl
    have e : k = M.code.length := by omega
    subst e
    exact ⟨out, t, at_, fix, b, rfl, h⟩
  | x :: r, k, out, t, at_, fix, b, hd, h => by
    obtain ⟨hx, hr, hlt⟩ := restCons hd
    have hk : k < M.code.length := by have := of_decide_eq_true hlt; omega
    have hxm := List.mem_of_getElem? hx
    have hop := hM.op x hxm
    have hju := hM.jump x hxm
    have hlen := h.len
    have hML := hM.len
    have hfl : fix.length ≤ 1000 := by
      have : fix.length ≤ out.length := by
        have hsub : fix.Nodup := h.fd
        have hb := h.fb
        have : (fix.map Int.toNat).Nodup := by
          refine List.nodup_iff_pairwise_ne.2 ?_
          rw [List.pairwise_map]
          refine (List.nodup_iff_pairwise_ne.1 hsub).imp_of_mem fun ha hb' hne e => hne ?_
          have := hb _ ha; have := hb _ hb'; omega
        have hle := List.Nodup.length_le_of_subset this (l₂ := List.range out.length) (fun a ha => by
          obtain ⟨f, hf, rfl⟩ := List.mem_map.1 ha
          have := hb f hf
          rw [List.mem_range]; omega)
        simpa using hle
      omega
    have ga : Nat.ble ((at_.length + [(out.length : Int)].length) * 8) 140737488355328 = true := ble_true (by rw [h.atl]; simp; omega)
    have gf : Nat.ble ((fix.length + [(out.length : Int)].length) * 8) 140737488355328 = true := ble_true (by simp; omega)
    have go : ∀ v : Ins, Nat.ble ((out.length + [v].length) * 48) 140737488355328 = true := fun v => ble_true (by simp; omega)
    -- the plain way
    have plain : ∃ out' t' at' fix' b', ((((((bif decide (x.op = (15 : Int)) then some (true) else some (decide (x.op = (16 : Int)))) : Option Bool).bind fun v120 => (((bif v120 then (bif Nat.ble ((fix.length + [(out.length : Int)].length) * 8) 140737488355328 then some ((fix ++ [(out.length : Int)])) else none) else some (fix)) : Option (List Int)).bind fun v124 => (((bif decide (x.op = (14 : Int)) then some ((⟨x.op, x.a, x.b, (k : Int), x.name⟩ : Ins)) else some (x)) : Option Ins).bind fun v130 => (bif Nat.ble ((out.length + [v130].length) * 48) 140737488355328 then some ((W, M, (out ++ [v130]), t, (at_ ++ [(out.length : Int)]), v124, b)) else none))))) : Option (Wd × Me × (List Ins) × Int × (List Int) × (List Int) × Bool)).bind fun (v47, v48, v49, v50, v51, v52, v53) => inline_Method_l1 N sites M r (k + 1) v47 v48 v49 v50 v51 v52 v53) = some (W, M, out', t', at', fix', b') ∧ StI M.code.length sites M.code.length out' t' at' fix' b' := by
      by_cases h15 : x.op = 15 ∨ x.op = 16
      · have hv : ((bif decide (x.op = (15 : Int)) then some (true) else some (decide (x.op = (16 : Int)))) : Option Bool) = some true := by
          rcases h15 with h | h <;> simp [h]
        have h14 : ¬ x.op = 14 := by omega
        simp only [hv, h14, gf, go, decide_false, cond_true, cond_false, Option.bind_some]
        exact Method_l1_eq N hN W hw hs hp sites M hM r (k + 1) _ _ _ _ _ hr ((h.plain hk x (by omega)).1 h15 (hju h15))
      · have h15' : ¬ x.op = 15 := fun e => h15 (.inl e)
        have h16' : ¬ x.op = 16 := fun e => h15 (.inr e)
        by_cases h14 : x.op = 14
        · simp only [h14, go, decide_true, cond_true, cond_false, Option.bind_some, show ((14 : Int) = 15) = False by decide, show ((14 : Int) = 16) = False by decide, decide_false]
          exact Method_l1_eq N hN W hw hs hp sites M hM r (k + 1) _ _ _ _ _ hr ((h.plain hk ⟨14, x.a, x.b, (k : Int), x.name⟩ (by simp)).2 (by simp))
        · simp only [h14, h15', h16', go, decide_false, cond_true, cond_false, Option.bind_some]
          exact Method_l1_eq N hN W hw hs hp sites M hM r (k + 1) _ _ _ _ _ hr ((h.plain hk x (by omega)).2 h15)
    rw [inline_Method_l1, ga]
    simp only [cond_true]
    by_cases h14 : x.op = 14
    · by_cases hks : (k : Int) < (sites.length : Int)
      · obtain ⟨c, hc⟩ : ∃ c, sites[k]? = some c := ⟨_, List.getElem?_eq_getElem (by omega)⟩
        have hc' : nthO sites (k : Int) = some c := by rw [nthO_nat, hc]
        by_cases hc0 : 0 ≤ c
        · have hv : (((bif decide (x.op = (14 : Int)) then (bif decide ((k : Int) < (sites.length : Int)) then ((nthO sites (k : Int)).bind fun x64 => some (decide ((0 : Int) ≤ x64))) else some (false)) else some (false)) : Option Bool)) = some true := by
            simp [h14, hks, hc', hc0]
          rw [hv]
          simp only [Option.bind_some, cond_true, hc']
          rcases callee_eq N (by omega) W hw hs M out t (at_ ++ [(out.length : Int)]) fix c x.name with ⟨y, hcal, kc, cl, hcl, hyc⟩ | hcal
          · rw [hcal]
            simp only [Option.bind_some, choose_Leaf_eq]
            cases hlf : leafN y with
            | false =>
              simp only [cond_false, Option.bind_some]
              exact plain
            | true =>
              have mp := meP_of (by omega) hs.1 hp hcl hyc
              have hy : Leafy y := ⟨mp.args, mp.temps, mp.len, fun i hi => Numbers_op N W _ y i (by omega) hs.1 (mp.num i hi), fun i hi hj => Numbers_jump N W _ y i (by have := mp.len; omega) (mp.num i hi) hj⟩
              simp only [cond_true, Option.bind_some]
              by_cases ha : y.args = x.a
              · simp only [ha, decide_true, cond_true, size_eq N y hy, Option.bind_some]
                have hz : sizeN y ≤ 200 := by
                  have := hy.args; have := hy.temps; have := hy.len
                  unfold sizeN; omega
                have htm := h.tmp
                have hya := hy.args
                have hyt := hy.temps
                have s1 : wr ((out.length : Int) + (sizeN y : Nat)) = (out.length : Int) + (sizeN y : Nat) := wr_in (by unfold InR; omega)
                have s2 : wr ((out.length : Int) + (sizeN y : Nat) + (M.code.length : Int)) = (out.length : Int) + (sizeN y : Nat) + (M.code.length : Int) := wr_in (by unfold InR; omega)
                have s3 : wr ((out.length : Int) + (sizeN y : Nat) + (M.code.length : Int) - (k : Int)) = (out.length : Int) + (sizeN y : Nat) + (M.code.length : Int) - (k : Int) := wr_in (by unfold InR; omega)
                have t1 : wr (t + 1) = t + 1 := wr_in (by unfold InR; omega)
                have t2 : wr (t + 1 + y.args) = t + 1 + y.args := wr_in (by unfold InR; omega)
                have t3 : wr (t + 1 + y.args + y.temps) = t + 1 + y.args + y.temps := wr_in (by unfold InR; omega)
                rw [ha] at t2 t3
                simp only [s1, s2, s3, t1, t2, t3]
                by_cases hr1 : (out.length : Int) + (sizeN y : Nat) + (M.code.length : Int) - (k : Int) ≤ 240
                · by_cases hr2 : t + 1 + x.a + y.temps ≤ 40
                  · simp only [hr1, hr2, decide_true, cond_true, Option.bind_some]
                    obtain ⟨L2, e1, e2, e3⟩ := send_eq N (by omega) W M out t (at_ ++ [(out.length : Int)]) fix c (k : Int) x y hy htm (by omega)
                    rw [e1]
                    simp only [Option.bind_some]
                    exact Method_l1_eq N hN W hw hs hp sites M hM r (k + 1) _ _ _ _ _ hr (h.inl hk ⟨18, c, x.a, (k : Int), ByteArray.empty⟩ L2 y hy ⟨rfl, rfl, hks, hc'⟩ e2 e3 (by omega) (by omega))
                  · simp only [hr1, hr2, decide_true, decide_false, cond_true, cond_false, Option.bind_some]
                    exact plain
                · simp only [hr1, decide_false, cond_false, Option.bind_some]
                  exact plain
              · simp only [ha, decide_false, cond_false, Option.bind_some]
                exact plain
          · rw [hcal]
            simp only [Option.bind_some]
            exact plain
        · have hv : (((bif decide (x.op = (14 : Int)) then (bif decide ((k : Int) < (sites.length : Int)) then ((nthO sites (k : Int)).bind fun x64 => some (decide ((0 : Int) ≤ x64))) else some (false)) else some (false)) : Option Bool)) = some false := by
            simp [h14, hks, hc', hc0]
          rw [hv]
          simp only [Option.bind_some, cond_false]
          exact plain
      · have hv : (((bif decide (x.op = (14 : Int)) then (bif decide ((k : Int) < (sites.length : Int)) then ((nthO sites (k : Int)).bind fun x64 => some (decide ((0 : Int) ≤ x64))) else some (false)) else some (false)) : Option Bool)) = some false := by
          simp only [h14, hks, decide_true, decide_false, cond_true, cond_false]
        rw [hv]
        simp only [Option.bind_some, cond_false]
        exact plain
    · have hv : (((bif decide (x.op = (14 : Int)) then (bif decide ((k : Int) < (sites.length : Int)) then ((nthO sites (k : Int)).bind fun x64 => some (decide ((0 : Int) ≤ x64))) else some (false)) else some (false)) : Option Bool)) = some false := by
        simp only [h14, decide_false, cond_false]
      rw [hv]
      simp only [Option.bind_some, cond_false]
      exact plain
/-- jumps are mended one by one -/
theorem Method_l2_eq (N : Nat) (L : Nat) (sites at_ fix : List Int) (n : Nat) (hat : at_.length = L) (hab : ∀ a ∈ at_, 0 ≤ a ∧ a ≤ n) (hfb : ∀ f ∈ fix, 0 ≤ f ∧ f < n) (hfd : fix.Nodup) : ∀ (r : List Int) (k : Nat) (o : List Ins), r = fix.drop k → o.length = n → (∀ i ∈ o, GOk L sites i) →
    (∀ (q : Nat) (i : Ins), o[q]? = some i → (i.op = 15 ∨ i.op = 16) → if (q : Int) ∈ r then 0 ≤ i.a ∧ i.a < L else 0 ≤ i.a ∧ i.a ≤ n) → (∀ f ∈ r, ∃ i, o[f.toNat]? = some i ∧ (i.op = 15 ∨ i.op = 16)) →
    ∃ o', inline_Method_l2 N at_ fix r k o = some o' ∧ o'.length = n ∧ (∀ i ∈ o', GOk L sites i ∧ JOk n i) ∧ ((∃ i ∈ o, i.op = 18) → ∃ i ∈ o', i.op = 18)
  | [], k, o, _, hl, hg, hj, _ => ⟨o, rfl, hl, fun i hi => ⟨hg i hi, fun h => by
      obtain ⟨q, hq⟩ := List.mem_iff_getElem?.1 hi
      have := hj q i hq h
      simpa using this⟩, fun h => h⟩
  | f :: r, k, o, hd, hl, hg, hj, hf => by
    obtain ⟨hk, hr, _⟩ := restCons hd
    have hfm := List.mem_of_getElem? hk
    obtain ⟨f0, f1⟩ := hfb f hfm
    obtain ⟨i, hi, hop⟩ := hf f (by simp)
    have hfn : (f.toNat : Int) = f := by omega
    have hia := hj f.toNat i hi hop
    rw [hfn, if_pos (by simp)] at hia
    obtain ⟨a, ha⟩ : ∃ a, at_[i.a.toNat]? = some a := ⟨_, List.getElem?_eq_getElem (by omega)⟩
    have hab' := hab a (List.mem_of_getElem? ha)
    rw [inline_Method_l2]
    simp only [nthO_nat, hk, Option.bind_some, nthO_pos f0, hi, nthO_pos hia.1, ha]
    have hnd : f ∉ r := by
      have : (f :: r).Nodup := by rw [hd]; exact hfd.sublist (List.drop_sublist _ _)
      exact (List.nodup_cons.1 this).1
    have hlt : f.toNat < o.length := (List.getElem?_eq_some_iff.1 hi).1
    have him := List.mem_of_getElem? hi
    obtain ⟨o', e1, e2, e3, e4⟩ := Method_l2_eq N L sites at_ fix n hat hab hfb hfd r (k + 1) (o.set f.toNat ⟨i.op, a, i.b, i.c, i.name⟩) hr (by simp [hl]) (fun j hjm => by
        rcases List.mem_or_eq_of_mem_set hjm with hjm | rfl
        · exact hg j hjm
        · intro h18
          have h18 : i.op = 18 := h18
          omega) (fun q j hq hjo => by
        rw [List.getElem?_set] at hq
        by_cases hqe : f.toNat = q
        · subst hqe
          rw [if_pos rfl, if_pos hlt] at hq
          cases hq
          rw [hfn, if_neg hnd]
          exact hab'
        · rw [if_neg hqe] at hq
          have := hj q j hq hjo
          by_cases hqr : (q : Int) ∈ r
          · rw [if_pos (by simp [hqr])] at this; rw [if_pos hqr]; exact this
          · rw [if_neg (by simp [hqr]; omega)] at this; rw [if_neg hqr]; exact this) (fun g hg' => by
        obtain ⟨j, hj1, hj2⟩ := hf g (by simp [hg'])
        have hne : f ≠ g := fun e => hnd (e ▸ hg')
        have hgb := hfb g (by
          have : g ∈ fix.drop k := by rw [← hd]; simp [hg']
          exact List.mem_of_mem_drop this)
        refine ⟨j, ?_, hj2⟩
        rw [List.getElem?_set, if_neg (by omega)]
        exact hj1)
    refine ⟨o', e1, e2, e3, fun ⟨j, hjm, hj18⟩ => e4 ?_⟩
    obtain ⟨q, hq⟩ := List.mem_iff_getElem?.1 hjm
    by_cases hqe : f.toNat = q
    · subst hqe
      rw [hi] at hq; cases hq
      omega
    · exact ⟨j, List.mem_of_getElem? (i := q) (by rw [List.getElem?_set, if_neg hqe]; exact hq), hj18⟩
theorem Room_l1_eq (N : Nat) (W : Wd) (c k : Int) (sites : List Int) (F : Fs × Bool) (x : Cl) (m : Me) (hx : nthO W.classes c = some x) (hm : nthO x.methods k = some m) : ∀ (r : List Ins) (n : Nat) (v : Nat), (∀ i ∈ r, GOk m.code.length sites i ∧ JOk (F.1.code.length : Int) i) → v + r.length ≤ 1000000 →
    ∃ v' : Nat, qclaw10_InlineRoom_l1 N W c k sites F r n (v : Int) = some (.next (v' : Int)) ∧ v ≤ v' ∧ ((∃ i ∈ r, i.op = 18) → v < v')
  | [], n, v, _, _ => ⟨v, rfl, Nat.le_refl _, fun ⟨i, hi, _⟩ => by cases hi⟩
  | i :: r, n, v, h, hv => by
    simp only [List.length_cons] at hv
    obtain ⟨hg, hj⟩ := h i (by simp)
    rw [qclaw10_InlineRoom_l1]
    by_cases h15 : i.op = 15 ∨ i.op = 16
    · have hq : ((bif decide (i.op = (15 : Int)) then some (decide (i.op = (15 : Int))) else some (decide (i.op = (16 : Int)))) : Option Bool) = some true := by
        rcases h15 with h | h <;> simp [h]
      have hb := hj h15
      have b1 : ¬ i.a < 0 := by omega
      have b2 : ¬ (F.1.code.length : Int) < i.a := by omega
      obtain ⟨v', e1, e2, e3⟩ := Room_l1_eq N W c k sites F x m hx hm r (n + 1) v (fun j hj => h j (by simp [hj])) (by omega)
      refine ⟨v', by simp only [hq, b1, b2, decide_false, cond_true, cond_false, Option.bind_some]; exact e1, e2, fun ⟨j, hjm, hj18⟩ => ?_⟩
      rcases List.mem_cons.1 hjm with rfl | hjm
      · omega
      · exact e3 ⟨j, hjm, hj18⟩
    · have h15' : ¬ i.op = 15 := fun e => h15 (.inl e)
      have h16' : ¬ i.op = 16 := fun e => h15 (.inr e)
      by_cases h18 : i.op = 18
      · obtain ⟨g1, g2, g3, g4⟩ := hg h18
        have b1 : ¬ i.c < 0 := by omega
        have b2 : ¬ (m.code.length : Int) ≤ i.c := by omega
        have b3 : ¬ (sites.length : Int) ≤ i.c := by omega
        have w1 : wr ((v : Int) + 1) = ((v + 1 : Nat) : Int) := by rw [wr_in (by unfold InR; omega)]; omega
        obtain ⟨v', e1, e2, e3⟩ := Room_l1_eq N W c k sites F x m hx hm r (n + 1) (v + 1) (fun j hj => h j (by simp [hj])) (by omega)
        refine ⟨v', by simp only [h15', h16', h18, b1, b2, b3, hx, hm, g4, w1, decide_true, decide_false, cond_true, cond_false, Option.bind_some, Bool.not_true]; exact e1, by omega, fun _ => by omega⟩
      · obtain ⟨v', e1, e2, e3⟩ := Room_l1_eq N W c k sites F x m hx hm r (n + 1) v (fun j hj => h j (by simp [hj])) (by omega)
        refine ⟨v', by simp only [h15', h16', h18, decide_false, cond_false, Option.bind_some]; exact e1, e2, fun ⟨j, hjm, hj18⟩ => ?_⟩
        rcases List.mem_cons.1 hjm with rfl | hjm
        · exact absurd hj18 h18
        · exact e3 ⟨j, hjm, hj18⟩
theorem law_InlineRoom (a0 : Wd) (a1 : Int) (a2 : Int) (a3 : (List Int)) (h0 : okWd a0) (h1 : okI a1) (h2 : okI a2) (h3 : (okL okI) a3) (hb : bkWd a0 + bkI a1 + bkI a2 + (bkL bkI) a3 ≤ 1048576) : ∃ N, qclaw10_InlineRoom N a0 a1 a2 a3 = some true := by
  refine ⟨4194304, ?_⟩
  have hs := small_Wd (w := a0) (by omega)
  unfold qclaw10_InlineRoom
  rw [qclaw10_alive_eq]
  obtain ⟨N, hN, hNe⟩ : ∃ N : Nat, 4194304 ≤ N ∧ 4194304 = N := ⟨_, Nat.le_refl _, rfl⟩
  rw [hNe]
  clear hNe
  obtain ⟨r, hr, hp⟩ := Right_some N a0 hN hs
  rw [hr]
  simp only [Option.bind_some, Bool.not_true, cond_false]
  by_cases h : r = 0
  · have hp := hp h
    simp only [h, decide_true, Bool.not_true, cond_false]
    unfold inline_Method
    by_cases c1 : a1 < 0
    · simp [c1]
    by_cases c2 : (a0.classes.length : Int) ≤ a1
    · simp [c1, c2]
    by_cases c3 : a2 < 0
    · simp [c1, c2, c3]
    obtain ⟨x, hx, hnx⟩ := nthO_in (l := a0.classes) (i := a1) (by omega) (by omega)
    by_cases c4 : (x.methods.length : Int) ≤ a2
    · simp [c1, c2, c3, c4, hnx]
    obtain ⟨m, hm, hnm⟩ := nthO_in (l := x.methods) (i := a2) (by omega) (by omega)
    have mp := meP_of (by omega) hs.1 hp hx (List.mem_of_getElem? hm)
    have hM : Leafy m := ⟨mp.args, mp.temps, mp.len, fun i hi => Numbers_op N a0 _ m i (by omega) hs.1 (mp.num i hi), fun i hi hj => Numbers_jump N a0 _ m i (by have := mp.len; omega) (mp.num i hi) hj⟩
    have hm60 := hM.len
    have hmt := hM.temps
    obtain ⟨out, t, at_, fix, b, e1, st⟩ := Method_l1_eq N hN a0 hp.rise hs hp a3 m hM m.code 0 [] m.temps [] [] false rfl
      ⟨by simp; omega, by omega, by omega, rfl, fun a ha => by (cases ha), fun i hi => by (cases hi), fun n i hi => by simp at hi, fun f hf => by (cases hf), by simp, fun f hf => by (cases hf), fun h => by (cases h)⟩
    simp only [c1, c2, c3, c4, hnx, hnm, decide_false, cond_false, Option.bind_some, e1]
    cases b with
    | false => simp
    | true =>
      simp only [Bool.not_true, cond_false]
      obtain ⟨o', e2, e3, e4, e5⟩ := Method_l2_eq N m.code.length a3 at_ fix out.length st.atl st.atb st.fb st.fd fix 0 out rfl rfl st.g st.j st.fj
      have hlen := st.len
      have htm := st.tmp
      have l1 : ¬ (240 : Int) < (o'.length : Int) := by omega
      have l2 : ¬ (40 : Int) < t := by omega
      obtain ⟨v', g1, g2, g3⟩ := Room_l1_eq N a0 a1 a2 a3 ((⟨a1, m.name, a0.epoch, t, o'⟩ : Fs), true) x m hnx hnm o' 0 0 (fun i hi => by
        refine ⟨(e4 i hi).1, ?_⟩
        have := (e4 i hi).2
        show JOk (o'.length : Int) i
        rw [e3]; exact this) (by omega)
      have g4 : (0 : Int) < (v' : Int) := by have := g3 (e5 (st.gd rfl)); omega
      have g1' : qclaw10_InlineRoom_l1 N a0 a1 a2 a3 ((⟨a1, m.name, a0.epoch, t, o'⟩ : Fs), true) o' 0 0 = some (.next (v' : Int)) := g1
      simp only [e2, Option.bind_some, Bool.not_true, cond_false, l1, l2, decide_false, g1', g4, decide_true]
  · simp only [h, decide_false, Bool.not_false, cond_true]
end Go.Proofs.Ytoceeiamcfdnlaa
