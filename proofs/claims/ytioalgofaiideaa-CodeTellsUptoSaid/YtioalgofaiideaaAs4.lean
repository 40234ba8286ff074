/- Operations over readings, the fourth part: boxes, stores, structs' and slices' values. No program in sight; types are told by the table. -/
import Derived.Test.YtioalgofaiideaaAs3
namespace Go.Proofs.Ytioalgofaiideaa
open Go.RowKit
set_option linter.unusedVariables false

section
variable {P : Program} {tab : Tab} {o : Oper} {ev : Ev} {os : Os} {K : Kt}

/-! ### boxes -/
def stAlloc (tab : Tab) (d : Nat) (t : TypeId) (K : Kt) : Prop :=
  match lk tab t with
  | some ti => K (.ptr d 0) [] [d] [(d, .box ti.zero t)]
  | none => False
theorem idss_rfs {Φ : Nat → Prop} {w : World} : ∀ {us : List Value} {cs : List AV}, zeroOk us cs = true → AV.idss cs = [] := by
  intro us cs
  fun_induction zeroOk us cs <;> intro h <;> simp_all [AV.idss, AV.ids]
theorem st_alloc (hT : TabOk P tab) (d : Nat) {t : TypeId} (ho : o.op = .alloc t) (h : stAlloc tab d t K) : Ans P o ev os K := by
  unfold stAlloc at h
  split at h
  · rename_i ti hti
    refine fun _ => ⟨_, [], _, [d], fun c w ρ hok hr => ?_, fun _ _ h => (by cases h), fun id hid => (by simp at hid; subst hid; rw [lk_self]; rfl), h⟩
    obtain ⟨z, hz, hzo, _⟩ := (hT t ti hti).run_zero w
    have hzr := zeroOk_spec c.Φ w _ _ hzo
    have hp := Post.newBox (c := c) (w := w) hok.phi d t (.of_rfs hzr.1) (by rw [idss_rfs (Φ := c.Φ) (w := w) hzo]; simp)
    have e : z.cells.toList.toArray = z.cells := by simp
    rw [e] at hp
    have hrun : (execOp ρ o).run P w = .ok (.value (.pointer (some ⟨w.heap.size, 0, none⟩))) (w.alloc (.cells z.cells t)) := by
      simp [execOp, ho, Instr.alloc, hz, newVar, newRow]
    rw [hrun]
    exact ⟨_, hp, .ptr (by simp [Ctx.setμ])⟩
  · exact h.elim
def stBox (d : Nat) (t : TypeId) (x : AV) (K : Kt) : Prop :=
  match x.cells? with
  | some cs => match freshIn [d] (AV.idss cs) with
    | true => K (.ptr d 0) [] [d] [(d, .box cs t)]
    | false => False
  | none => False
theorem st_box (d : Nat) {t : TypeId} {x : Operand} (ho : o.op = .box t x) (h : stBox d t (ev x) K) : Ans P o ev os K := by
  unfold stBox at h
  split at h
  · rename_i cs hcs
    split at h
    · rename_i hf
      refine fun _ => ⟨_, [], _, [d], fun c w ρ hok hr => ?_, fun _ _ h => (by cases h), fun id hid => (by simp at hid; subst hid; rw [lk_self]; rfl), h⟩
      obtain ⟨r, _⟩ := cells?_rd (hr x (by simp [ho, Op.operands])) hcs
      have hp := Post.newBox (c := c) (w := w) hok.phi d t r (freshIn_spec hf d (by simp))
      have e : (ρ x).cells.toList.toArray = (ρ x).cells := by simp
      rw [e] at hp
      have hrun : (execOp ρ o).run P w = .ok (.value (.pointer (some ⟨w.heap.size, 0, none⟩))) (w.alloc (.cells (ρ x).cells t)) := by
        simp [execOp, ho, Instr.box, newVar, newRow]
      rw [hrun]
      exact ⟨_, hp, .ptr (by simp [Ctx.setμ])⟩
    · exact h.elim
  · exact h.elim

/-! ### stores -/
mutual
theorem Rf.ids {Φ : Nat → Prop} {w : World} : ∀ {v : Value} {a : AV}, Rf Φ w v a → a.ids = []
  | _, _, .any _ => rfl
  | _, _, .int _ => rfl
  | _, _, .ik _ _ => rfl
  | _, _, .bool _ => rfl
  | _, _, .str _ => rfl
  | _, _, .sl _ _ _ _ _ _ _ _ _ _ => rfl
  | _, _, .fp _ _ _ => rfl
  | _, _, .fn h => Rfs.ids h
  | _, _, .agg h => Rfs.ids h
  | _, _, .tup h => Rfs.ids h
  | _, _, .nilsl => rfl
  | _, _, .slb _ _ _ => rfl
  | _, _, .nilp => rfl
  | _, _, .nilf => rfl
  | _, _, .con _ => rfl
theorem Rfs.ids {Φ : Nat → Prop} {w : World} : ∀ {vs : List Value} {as : List AV}, Rfs Φ w vs as → AV.idss as = []
  | _, _, .nil => rfl
  | _, _, .cons h t => by simp [AV.idss, Rf.ids h, Rfs.ids t]
end
theorem idss_nil {l : List AV} : AV.idss l = [] ↔ ∀ a ∈ l, a.ids = [] := by
  induction l with
  | nil => simp [AV.idss]
  | cons a l ih => simp [AV.idss, ih]
theorem setN_append {β : Type} : ∀ {o : Nat} {as cs rs : List β} (bs : List β), setN o as cs = some rs → setN o as (cs ++ bs) = some (rs ++ bs) := by
  intro o as cs
  fun_induction setN o as cs with
  | case1 => intro rs bs h; cases h; simp [setN]
  | case2 a as x cs r hr ih => intro rs bs h; cases h; simp [setN, ih bs hr]
  | case3 => intro rs bs h; cases h
  | case4 o as x cs r hr ih => intro rs bs h; cases h; simp [setN, ih bs hr]
  | case5 => intro rs bs h; cases h
  | case6 => intro rs bs h; cases h
theorem setN_prepend {β : Type} {as cs rs : List β} : ∀ (pre : List β) {o : Nat}, setN o as cs = some rs → setN (pre.length + o) as (pre ++ cs) = some (pre ++ rs)
  | [], o, h => by simpa using h
  | x :: pre, o, h => by
    have ih := setN_prepend pre h
    rw [List.length_cons, Nat.succ_add]
    simp [setN, ih]
theorem Post.writeRow {c : Ctx} {w w' : World} {id sz e : Nat} {ls ls' : List (List AV)} {css' : List (List Value)} {b : Nat} (h : HOk c w [(id, .row sz ls e)]) (hb : (c.hd id).ownBlock = some b) (hR : RowOk w' (c.hd id) sz e css') (hl : css'.length = ls'.length)
    (hr : ∀ (i : Nat) (us : List Value) (cs : List AV), css'[i]? = some us → ls'[i]? = some cs → Rfs c.Φ w us cs) (ho : ∀ k, k ≠ b → w'.heap[k]? = w.heap[k]?)
    (hs : w'.heap.size = w.heap.size) (h1 : w'.os = w.os) (h2 : w'.tape = w.tape) (h3 : w'.output = w.output) : Post c w c w' [(id, .row sz ls e)] [(id, .row sz ls' e)] [] := by
  have hlt := h.lt id _ b (lk_self _ _ _) hb
  have ht : ∀ x, x = b → Touch c [(id, .row sz ls e)] [(id, .row sz ls' e)] x := fun x hx => ⟨id, _, lk_self _ _ _, by rw [lk_self]; rfl, by rw [hx]; exact hb⟩
  have hfr : ∀ x, c.Φ x → w'.heap[x]? = w.heap[x]? := fun x hx => ho x fun e => hlt.2 (e ▸ hx)
  refine ⟨h1, h2, h3, by omega, fun b hb => hb, fun b hb => .inl hb, fun x hx hn => ho x fun e => hn (ht x e), fun _ _ => ⟨rfl, rfl⟩, ⟨fun i o hl => ?_, fun i o x hl hf => ?_, fun i i' o o' x hdis hl hl' hf => ?_, fun x hx => by have := h.phi x hx; omega⟩, fun i o x hl hf => ?_⟩ <;> rw [lk_cons] at hl <;> split at hl <;> first | (rename_i e1; subst e1; cases hl) | cases hl
  · exact ⟨css', hR, by assumption, fun i us cs hu hc => (hr i us cs hu hc).mono hfr fun _ h => h⟩
  · have : x = b := by have hf' : (c.hd id).ownBlock = some x := hf; rw [hb] at hf'; injection hf' with e; exact e.symm
    rw [this]
    exact ⟨by omega, hlt.2⟩
  · rw [lk_ne _ _ hdis] at hl'
    cases hl'
  · have : x = b := by have hf' : (c.hd id).ownBlock = some x := hf; rw [hb] at hf'; injection hf' with e; exact e.symm
    exact .inr (ht x this)
def stStore (tab : Tab) (os : Os) (t : TypeId) (x y : AV) (K : Kt) : Prop :=
  match lk tab t, y.cells? with
  | some ti, some vs => match Nat.beq vs.length ti.size with
    | true => match x with
      | .ptr id off => match lk os id with
        | some (.box cs e) => match setN off vs cs with
          | some cs' => K .any [id] [] [(id, .box cs' e)]
          | none => False
        | _ => False
      | .ep id i sz off => match lk os id, AV.idss vs with
        | some (.row sz' ls e), [] => match Nat.beq sz sz' with
          | true => i < ls.length ∧ ∀ cs, ls[i]? = some cs → match setN off vs cs with
            | some cs' => ∃ q, leLs (ls.set i cs') q ∧ K .any [id] [] [(id, .row sz' q e)]
            | none => False
          | false => False
        | _, _ => False
      | _ => False
    | false => False
  | _, _ => False
theorem run_storeAt {t : TypeId} {ti : TI} (hT : TIok P t ti) {w : World} {b p : Nat} {v : Value} (hv : v.cells.toList.length = ti.size) {e : TypeId} {us rs : List Value} (hb : w.heap[b]? = some (.cells us.toArray e)) (h1 : ∀ u ∈ v.cells.toList, u.oneCell' = true)
    (hs : setN p v.cells.toList us = some rs) : ∃ w', (Instr.storeAt t (.pointer (some ⟨b, p, none⟩)) v).run P w = .ok () w' ∧ w'.heap[b]? = some (.cells rs.toArray e) ∧ (∀ k, k ≠ b → w'.heap[k]? = w.heap[k]?) ∧ w'.heap.size = w.heap.size ∧ w'.os = w.os ∧ w'.tape = w.tape ∧ w'.output = w.output := by
  obtain ⟨w', h2, h3⟩ := run_storeCells (P := P) b p e v.cells.toList 0 us rs w hb h1 (by simpa using hs)
  refine ⟨w', ?_, h3⟩
  have hv' : v.cells.size = ti.size := by simpa using hv
  simp [Instr.storeAt, Instr.sureAddr, storeVar, hT.run_size, hv', h2]
theorem setN_block {sz : Nat} : ∀ (css : List (List Value)) (i off : Nat) (us vs rs : List Value), (∀ x ∈ css, x.length = sz) → css[i]? = some us → setN off vs us = some rs → setN (i * sz + off) vs css.flatten = some (css.set i rs).flatten := by
  intro css i off us vs rs hl hi hs
  obtain ⟨l1, l2⟩ := setN_len hs
  have hus : us.length = sz := hl us (List.mem_of_getElem? hi)
  have hil : i < css.length := (List.getElem?_eq_some_iff.1 hi).1
  have hfl := flat_len sz css hl
  have hb : i * sz + sz ≤ css.length * sz := by
    have : (i + 1) * sz ≤ css.length * sz := Nat.mul_le_mul_right _ hil
    rwa [Nat.succ_mul] at this
  obtain ⟨r, hr⟩ := setN_ex (i * sz + off) vs css.flatten (by rw [hfl]; omega)
  rw [hr]
  congr 1
  have hl' : ∀ x ∈ css.set i rs, x.length = sz := fun x hx => by
    rcases List.mem_or_eq_of_mem_set hx with h | h
    · exact hl x h
    · rw [h]; omega
  apply List.ext_getElem?
  intro j
  rw [setN_at hr j]
  have hfl' := flat_len sz (css.set i rs) hl'
  by_cases hj : j < css.length * sz
  · have hpos : 0 < sz := by rcases Nat.eq_zero_or_pos sz with h | h; subst h; omega; exact h
    have hd : j / sz < css.length := Nat.div_lt_of_lt_mul (by rwa [Nat.mul_comm] at hj)
    have hm : j % sz < sz := Nat.mod_lt _ hpos
    have ej : j / sz * sz + j % sz = j := by rw [Nat.mul_comm]; exact Nat.div_add_mod j sz
    have f1 := flat_get sz css hl (j / sz) (j % sz) css[j / sz] (List.getElem?_eq_getElem hd) hm
    rw [ej] at f1
    by_cases hij : i = j / sz
    · have f2 := flat_get sz (css.set i rs) hl' (j / sz) (j % sz) rs (by rw [List.getElem?_set, if_pos hij, if_pos hil]) hm
      rw [ej] at f2
      have e1 : css[j / sz] = us := by
        have h1 := List.getElem?_eq_getElem hd
        have h2 : css[j / sz]? = some us := by rw [← hij]; exact hi
        rw [h1] at h2
        injection h2
      rw [f2, f1, e1, setN_at hs]
      have hja : j = i * sz + j % sz := by rw [hij]; exact ej.symm
      by_cases hc : off ≤ j % sz ∧ j % sz < off + vs.length
      · rw [if_pos hc, if_pos (by omega)]
        congr 1
        omega
      · rw [if_neg hc, if_neg (by omega)]
    · have f2 := flat_get sz (css.set i rs) hl' (j / sz) (j % sz) css[j / sz] (by rw [List.getElem?_set, if_neg hij]; exact List.getElem?_eq_getElem hd) hm
      rw [ej] at f2
      rw [f2, f1, if_neg]
      rintro ⟨h1, h2⟩
      apply hij
      have : i * sz ≤ j ∧ j < i * sz + sz := by omega
      exact (Nat.div_eq_of_lt_le (by omega) (by rw [Nat.succ_mul]; omega)).symm
  · have e1 : css.flatten[j]? = none := List.getElem?_eq_none (by rw [hfl]; omega)
    have e2 : (css.set i rs).flatten[j]? = none := List.getElem?_eq_none (by rw [hfl', List.length_set]; omega)
    rw [e1, e2, if_neg (by omega)]
theorem st_store (hT : TabOk P tab) {t : TypeId} {x y : Operand} (ho : o.op = .store t x y) (h : stStore tab os t (ev x) (ev y) K) : Ans P o ev os K := by
  have opx : ∀ {c : Ctx} {w : World} {ρ : Operand → Value}, (∀ z ∈ o.op.operands.toList, Rd c w (ρ z) (ev z)) → Rd c w (ρ x) (ev x) ∧ Rd c w (ρ y) (ev y) := fun hr => ⟨hr x (by simp [ho, Op.operands]), hr y (by simp [ho, Op.operands])⟩
  have run : ∀ (ρ : Operand → Value) (w w' : World), (Instr.storeAt t (ρ x) (ρ y)).run P w = .ok () w' → (execOp ρ o).run P w = .ok .skip w' := fun ρ w w' h => by simp [execOp, ho, h]
  unfold stStore at h
  split at h
  · rename_i ti vs hti hvs
    split at h
    · rename_i hsz
      have hsz := Nat.eq_of_beq_eq_true hsz
      split at h
      · rename_i id off hx
        split at h
        · rename_i cs e hid
          split at h
          · rename_i cs' hcs'
            refine fun _ => ⟨_, [(id, .box cs e)], _, [], fun c w ρ hok hr => ?_, fun i ob h => lk_one h hid, fun _ h => (by cases h), h⟩
            obtain ⟨r1, r2⟩ := opx hr
            rw [hx] at r1
            obtain ⟨us, hb, hus⟩ := hok.rep id _ (lk_self _ _ _)
            obtain ⟨rv, h1⟩ := cells?_rd r2 hvs
            obtain ⟨rs, hs, hrs⟩ := setN_rds hcs' rv hus
            obtain ⟨w', q1, q2, q3, q4, q5, q6, q7⟩ := run_storeAt (P := P) (hT t ti hti) (by rw [rv.length]; exact hsz) hb h1 hs
            rw [run ρ w w' (by rw [r1.ptr_]; exact q1)]
            exact ⟨c, Post.write hok q2 hrs q3 q4 q5 q6 q7, Rd.any_ _⟩
          · exact h.elim
        · exact h.elim
      · rename_i id i sz off hx
        split at h
        · rename_i sz' ls e hid hids
          split at h
          · rename_i hsz2
            obtain rfl := Nat.eq_of_beq_eq_true hsz2
            obtain ⟨hi, h⟩ := h
            have hcs : ls[i]? = some ls[i] := List.getElem?_eq_getElem hi
            have h := h _ hcs
            split at h
            · rename_i cs' hcs'
              obtain ⟨q0, hq0, h⟩ := h
              refine fun _ => ⟨_, [(id, .row sz ls e)], _, [], fun c w ρ hok hr => ?_, fun i ob h => lk_one h hid, fun _ h => (by cases h), h⟩
              obtain ⟨r1, r2⟩ := opx hr
              rw [hx] at r1
              obtain ⟨css, p1, p2, p3⟩ := hok.rep id _ (lk_self _ _ _)
              obtain ⟨g, x0, m, cap, e1, hh⟩ := r1.ep_
              obtain ⟨rv, h1⟩ := cells?_rd r2 hvs
              have hilt : i < css.length := by omega
              have hci : css[i]? = some css[i] := List.getElem?_eq_getElem hilt
              have hrow := p3 i _ _ hci hcs
              obtain ⟨rs, hs, hrs⟩ := setN_rds hcs' rv (.of_rfs hrow)
              have hrids : AV.idss cs' = [] := idss_nil.2 fun a ha => by
                rcases setN_mem hcs' a ha with h | h
                · exact idss_nil.1 hids a h
                · exact idss_nil.1 hrow.ids a h
              rcases p1.lies with ⟨hv, hn⟩ | ⟨g', x', p, cap', cur, hv, hgb, c1, c2, c3, cx, c4⟩
              · omega
              · rw [hh] at hv
                injection hv with a1 a2 a3
                injection a1 with a1
                injection a1 with a1 a1x
                subst a1 a1x a3
                have hx0 := cx (by omega)
                have hblk := setN_block css i off css[i] (ρ y).cells.toList rs p1.len hci hs
                have hfl := flat_len sz css p1.len
                have hcl : cur.toList.length = (p + cap) * sz := by rw [← c3]; simp
                have hple : p * sz ≤ cur.toList.length := by rw [hcl]; exact Nat.mul_le_mul_right _ (by omega)
                have hpl : (cur.toList.take (p * sz)).length = p * sz := by rw [List.length_take]; omega
                have hcur : cur.toList = cur.toList.take (p * sz) ++ (css.flatten ++ (cur.toList.drop (p * sz)).drop (css.length * sz)) := by
                  rw [← c4, List.take_append_drop, List.take_append_drop]
                have hset := setN_prepend (cur.toList.take (p * sz)) (setN_append ((cur.toList.drop (p * sz)).drop (css.length * sz)) hblk)
                rw [← hcur, hpl] at hset
                have hgb' : w.heap[g]? = some (.cells cur.toList.toArray e) := by simpa using hgb
                obtain ⟨w', q1, q2, q3, q4, q5, q6, q7⟩ := run_storeAt (P := P) (hT t ti hti) (by rw [rv.length]; exact hsz) hgb' h1 hset
                rw [run ρ w w' (by rw [e1, hx0, Nat.add_assoc]; exact q1)]
                have hlen' : ∀ us ∈ css.set i rs, us.length = sz := fun us hu => by
                  rcases List.mem_or_eq_of_mem_set hu with h | h
                  · exact p1.len us h
                  · rw [h, (setN_len hs).1]; exact p1.len _ (List.getElem_mem hilt)
                have hfl' := flat_len sz (css.set i rs) hlen'
                have hRow : RowOk w' (c.hd id) sz e (css.set i rs) := by
                  refine ⟨.inr ⟨g, x0, p, cap, _, by rw [hh, List.length_set, a2], q2, by rw [List.length_set]; exact c1, c2, ?_, cx, ?_⟩, hlen', fun us hu => ?_⟩
                  · have e5 : cur.toList.length = (p + cap) * sz := hcl
                    rw [hcur, List.length_append, List.length_append, hfl] at e5
                    rw [List.size_toArray, List.length_append, List.length_append, hfl', List.length_set]
                    exact e5
                  · rw [List.toList_toArray, List.drop_left' hpl, List.take_left' (by rw [hfl'])]
                  · rcases List.mem_or_eq_of_mem_set hu with h | h
                    · exact p1.one us h
                    · rw [h]
                      intro u hu
                      rcases setN_mem hs u hu with h | h
                      · exact h1 u h
                      · exact p1.one _ (List.getElem_mem hilt) u h
                refine ⟨c, Post.leRow (U := []) (Post.writeRow hok (b := g) (by rw [hh]; rfl) hRow (by simpa using p2) (fun k us cs hu hc => ?_) q3 q4 q5 q6 q7) hq0, Rd.any_ _⟩
                rw [List.getElem?_set] at hu hc
                by_cases hk : i = k
                · subst hk
                  rw [if_pos rfl, if_pos hilt] at hu
                  rw [if_pos rfl, if_pos hi] at hc
                  cases hu
                  cases hc
                  exact hrs.rfs hrids
                · rw [if_neg hk] at hu hc
                  exact p3 k us cs hu hc
            · exact h.elim
          · exact h.elim
        · exact h.elim
      · exact h.elim
    · exact h.elim
  · exact h.elim
end
end Go.Proofs.Ytioalgofaiideaa
