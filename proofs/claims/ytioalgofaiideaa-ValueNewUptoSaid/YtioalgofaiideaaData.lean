/- The plain data of package api, and how each struct's cells in memory are read as such data. No program in sight. -/
import Derived.Test.YtioalgofaiideaaMem
namespace Go.Proofs.Ytioalgofaiideaa
open Go.RowKit

structure V where
  k : Int
  n : Int
  deriving DecidableEq, Inhabited
structure Ln where
  cls : Int
  found : Int
  deriving DecidableEq, Inhabited
structure St where
  cls : Int
  name : ByteArray
  pos : Int
  deriving Inhabited
structure Tl where
  site : St
  classes : List Ln
  deriving Inhabited
structure Ce where
  site : St
  epoch : Int
  many : Bool
  lines : List Ln
  deriving Inhabited
structure Ins where
  op : Int
  a : Int
  b : Int
  c : Int
  name : ByteArray
  deriving Inhabited
structure Me where
  name : ByteArray
  args : Int
  temps : Int
  prim : Int
  code : List Ins
  deriving Inhabited
structure Cl where
  name : ByteArray
  super : Int
  slots : Int
  methods : List Me
  deriving Inhabited
structure Ob where
  cls : Int
  slots : List V
  deriving Inhabited
structure Wd where
  classes : List Cl
  heap : List Ob
  epoch : Int
  deriving Inhabited
structure Fs where
  cls : Int
  name : ByteArray
  epoch : Int
  temps : Int
  code : List Ins
  deriving Inhabited

/-- a struct of plain cells -/
def Rep.flat {α : Type} (n : Nat) (hn : 0 < n) (f : α → List Value) (hl : ∀ a, (f a).length = n) (h1 : ∀ a, ∀ u ∈ f a, u.oneCell' = true) : Rep α where
  size := n
  pos := hn
  R := fun _ _ cs a => cs = f a
  mono := fun h _ _ => h
  len := fun {_ _ _ a} h => by rw [h]; exact hl a
  one := fun {_ _ _ a} h => by rw [h]; exact h1 a

/-- a struct of plain cells with one slice behind them -/
def Rep.with {α β : Type} (n : Nat) (f : α → List Value) (hl : ∀ a, (f a).length = n) (h1 : ∀ a, ∀ u ∈ f a, u.oneCell' = true) (r : Rep β) (g : α → List β) : Rep α where
  size := n + 1
  pos := Nat.succ_pos n
  R := fun w S cs a => ∃ v, cs = f a ++ [v] ∧ SL r w S v (g a)
  mono := fun ⟨v, h, hs⟩ ha hS => ⟨v, h, hs.mono ha hS⟩
  len := fun {_ _ _ a} ⟨v, h, _⟩ => by rw [h]; simp [hl a]
  one := fun {_ _ _ a} ⟨v, h, A, c, hv, _⟩ u hu => by
    rw [h, List.mem_append] at hu
    rcases hu with hu | hu
    · exact h1 a u hu
    · simp only [List.mem_singleton] at hu
      rw [hu, hv]
      rfl

def rInt : Rep Int := .flat 1 (by omega) (fun n => [.int .i64 n]) (by simp) (by simp [Value.oneCell'])
def rStr : Rep ByteArray := .flat 1 (by omega) (fun s => [.string s]) (by simp) (by simp [Value.oneCell'])
def rV : Rep V := .flat 2 (by omega) (fun v => [.int .i64 v.k, .int .i64 v.n]) (by simp) (by simp [Value.oneCell'])
def rLn : Rep Ln := .flat 2 (by omega) (fun x => [.int .i64 x.cls, .int .i64 x.found]) (by simp) (by simp [Value.oneCell'])
def rSt : Rep St := .flat 3 (by omega) (fun s => [.int .i64 s.cls, .string s.name, .int .i64 s.pos]) (by simp) (by simp [Value.oneCell'])
def rIns : Rep Ins := .flat 5 (by omega) (fun i => [.int .i64 i.op, .int .i64 i.a, .int .i64 i.b, .int .i64 i.c, .string i.name]) (by simp) (by simp [Value.oneCell'])
def rTl : Rep Tl := .with 3 (fun t => [.int .i64 t.site.cls, .string t.site.name, .int .i64 t.site.pos]) (by simp) (by simp [Value.oneCell']) rLn (·.classes)
def rCe : Rep Ce := .with 5 (fun t => [.int .i64 t.site.cls, .string t.site.name, .int .i64 t.site.pos, .int .i64 t.epoch, .bool t.many]) (by simp) (by simp [Value.oneCell']) rLn (·.lines)
def rOb : Rep Ob := .with 1 (fun o => [.int .i64 o.cls]) (by simp) (by simp [Value.oneCell']) rV (·.slots)
def rMe : Rep Me := .with 4 (fun m => [.string m.name, .int .i64 m.args, .int .i64 m.temps, .int .i64 m.prim]) (by simp) (by simp [Value.oneCell']) rIns (·.code)
def rCl : Rep Cl := .with 3 (fun c => [.string c.name, .int .i64 c.super, .int .i64 c.slots]) (by simp) (by simp [Value.oneCell']) rMe (·.methods)
def rFs : Rep Fs := .with 4 (fun f => [.int .i64 f.cls, .string f.name, .int .i64 f.epoch, .int .i64 f.temps]) (by simp) (by simp [Value.oneCell']) rIns (·.code)

/-- a world's three cells -/
def RW (w : World) (S : Sup) (vc vh : Value) (x : Wd) : Prop := SL rCl w S vc x.classes ∧ SL rOb w S vh x.heap
theorem RW.mono {w w' : World} {S S' : Sup} {vc vh : Value} {x : Wd} (h : RW w S vc vh x) (ha : Agree S w w') (hS : ∀ b, S b → S' b) : RW w' S' vc vh x := ⟨h.1.mono ha hS, h.2.mono ha hS⟩
theorem RW.below {w w' : World} {S : Sup} {B : Nat} {vc vh : Value} {x : Wd} (h : RW w S vc vh x) (hb : Below B w w') (hS : ∀ b, S b → b < B) : RW w' S vc vh x := h.mono (.of_below hb hS) fun _ h => h

/-! ### The i-th element of a list, its cells spelled as a walk spells them -/
section
variable {w : World} {S : Sup} {v : Value}
theorem SL.atV {l : List V} (h : SL rV w S v l) {i : Nat} (hi : i < l.length) : ∃ b o c, v = .slice (some ⟨b, o, none⟩) l.length c ∧ S b ∧
    w.cell? ⟨b, o + i * 2, none⟩ = some (.int .i64 l[i].k) ∧ w.cell? ⟨b, o + i * 2 + 1, none⟩ = some (.int .i64 l[i].n) := by
  obtain ⟨b, o, c, cs, hv, hb, hR, hc⟩ := h.at_ hi
  have hR' : cs = [.int .i64 l[i].k, .int .i64 l[i].n] := hR
  subst hR'
  exact ⟨b, o, c, hv, hb, hc 0 _ rfl, hc 1 _ rfl⟩
theorem SL.atLn {l : List Ln} (h : SL rLn w S v l) {i : Nat} (hi : i < l.length) : ∃ b o c, v = .slice (some ⟨b, o, none⟩) l.length c ∧ S b ∧
    w.cell? ⟨b, o + i * 2, none⟩ = some (.int .i64 l[i].cls) ∧ w.cell? ⟨b, o + i * 2 + 1, none⟩ = some (.int .i64 l[i].found) := by
  obtain ⟨b, o, c, cs, hv, hb, hR, hc⟩ := h.at_ hi
  have hR' : cs = [.int .i64 l[i].cls, .int .i64 l[i].found] := hR
  subst hR'
  exact ⟨b, o, c, hv, hb, hc 0 _ rfl, hc 1 _ rfl⟩
theorem SL.atInt {l : List Int} (h : SL rInt w S v l) {i : Nat} (hi : i < l.length) : ∃ b o c, v = .slice (some ⟨b, o, none⟩) l.length c ∧ S b ∧
    w.cell? ⟨b, o + i, none⟩ = some (.int .i64 l[i]) := by
  obtain ⟨b, o, c, cs, hv, hb, hR, hc⟩ := h.at_ hi
  have hR' : cs = [.int .i64 l[i]] := hR
  subst hR'
  have h0 : w.cell? ⟨b, o + i * 1 + 0, none⟩ = some (.int .i64 l[i]) := hc 0 _ rfl
  rw [show o + i * 1 + 0 = o + i by omega] at h0
  exact ⟨b, o, c, hv, hb, h0⟩
theorem SL.atSt {l : List St} (h : SL rSt w S v l) {i : Nat} (hi : i < l.length) : ∃ b o c, v = .slice (some ⟨b, o, none⟩) l.length c ∧ S b ∧
    w.cell? ⟨b, o + i * 3, none⟩ = some (.int .i64 l[i].cls) ∧ w.cell? ⟨b, o + i * 3 + 1, none⟩ = some (.string l[i].name) ∧ w.cell? ⟨b, o + i * 3 + 2, none⟩ = some (.int .i64 l[i].pos) := by
  obtain ⟨b, o, c, cs, hv, hb, hR, hc⟩ := h.at_ hi
  have hR' : cs = [.int .i64 l[i].cls, .string l[i].name, .int .i64 l[i].pos] := hR
  subst hR'
  exact ⟨b, o, c, hv, hb, hc 0 _ rfl, hc 1 _ rfl, hc 2 _ rfl⟩
theorem SL.atIns {l : List Ins} (h : SL rIns w S v l) {i : Nat} (hi : i < l.length) : ∃ b o c, v = .slice (some ⟨b, o, none⟩) l.length c ∧ S b ∧
    w.cell? ⟨b, o + i * 5, none⟩ = some (.int .i64 l[i].op) ∧ w.cell? ⟨b, o + i * 5 + 1, none⟩ = some (.int .i64 l[i].a) ∧ w.cell? ⟨b, o + i * 5 + 2, none⟩ = some (.int .i64 l[i].b) ∧
    w.cell? ⟨b, o + i * 5 + 3, none⟩ = some (.int .i64 l[i].c) ∧ w.cell? ⟨b, o + i * 5 + 4, none⟩ = some (.string l[i].name) := by
  obtain ⟨b, o, c, cs, hv, hb, hR, hc⟩ := h.at_ hi
  have hR' : cs = [.int .i64 l[i].op, .int .i64 l[i].a, .int .i64 l[i].b, .int .i64 l[i].c, .string l[i].name] := hR
  subst hR'
  exact ⟨b, o, c, hv, hb, hc 0 _ rfl, hc 1 _ rfl, hc 2 _ rfl, hc 3 _ rfl, hc 4 _ rfl⟩
theorem SL.atTl {l : List Tl} (h : SL rTl w S v l) {i : Nat} (hi : i < l.length) : ∃ b o c x, v = .slice (some ⟨b, o, none⟩) l.length c ∧ S b ∧
    w.cell? ⟨b, o + i * 4, none⟩ = some (.int .i64 l[i].site.cls) ∧ w.cell? ⟨b, o + i * 4 + 1, none⟩ = some (.string l[i].site.name) ∧ w.cell? ⟨b, o + i * 4 + 2, none⟩ = some (.int .i64 l[i].site.pos) ∧
    w.cell? ⟨b, o + i * 4 + 3, none⟩ = some x ∧ SL rLn w S x l[i].classes := by
  obtain ⟨b, o, c, cs, hv, hb, hR, hc⟩ := h.at_ hi
  obtain ⟨x, hcs, hx⟩ : ∃ x, cs = [.int .i64 l[i].site.cls, .string l[i].site.name, .int .i64 l[i].site.pos, x] ∧ SL rLn w S x l[i].classes := hR
  subst hcs
  exact ⟨b, o, c, x, hv, hb, hc 0 _ rfl, hc 1 _ rfl, hc 2 _ rfl, hc 3 _ rfl, hx⟩
theorem SL.atCe {l : List Ce} (h : SL rCe w S v l) {i : Nat} (hi : i < l.length) : ∃ b o c x, v = .slice (some ⟨b, o, none⟩) l.length c ∧ S b ∧
    w.cell? ⟨b, o + i * 6, none⟩ = some (.int .i64 l[i].site.cls) ∧ w.cell? ⟨b, o + i * 6 + 1, none⟩ = some (.string l[i].site.name) ∧ w.cell? ⟨b, o + i * 6 + 2, none⟩ = some (.int .i64 l[i].site.pos) ∧
    w.cell? ⟨b, o + i * 6 + 3, none⟩ = some (.int .i64 l[i].epoch) ∧ w.cell? ⟨b, o + i * 6 + 4, none⟩ = some (.bool l[i].many) ∧ w.cell? ⟨b, o + i * 6 + 5, none⟩ = some x ∧ SL rLn w S x l[i].lines := by
  obtain ⟨b, o, c, cs, hv, hb, hR, hc⟩ := h.at_ hi
  obtain ⟨x, hcs, hx⟩ : ∃ x, cs = [.int .i64 l[i].site.cls, .string l[i].site.name, .int .i64 l[i].site.pos, .int .i64 l[i].epoch, .bool l[i].many, x] ∧ SL rLn w S x l[i].lines := hR
  subst hcs
  exact ⟨b, o, c, x, hv, hb, hc 0 _ rfl, hc 1 _ rfl, hc 2 _ rfl, hc 3 _ rfl, hc 4 _ rfl, hc 5 _ rfl, hx⟩
theorem SL.atOb {l : List Ob} (h : SL rOb w S v l) {i : Nat} (hi : i < l.length) : ∃ b o c x, v = .slice (some ⟨b, o, none⟩) l.length c ∧ S b ∧
    w.cell? ⟨b, o + i * 2, none⟩ = some (.int .i64 l[i].cls) ∧ w.cell? ⟨b, o + i * 2 + 1, none⟩ = some x ∧ SL rV w S x l[i].slots := by
  obtain ⟨b, o, c, cs, hv, hb, hR, hc⟩ := h.at_ hi
  obtain ⟨x, hcs, hx⟩ : ∃ x, cs = [.int .i64 l[i].cls, x] ∧ SL rV w S x l[i].slots := hR
  subst hcs
  exact ⟨b, o, c, x, hv, hb, hc 0 _ rfl, hc 1 _ rfl, hx⟩
theorem SL.atMe {l : List Me} (h : SL rMe w S v l) {i : Nat} (hi : i < l.length) : ∃ b o c x, v = .slice (some ⟨b, o, none⟩) l.length c ∧ S b ∧
    w.cell? ⟨b, o + i * 5, none⟩ = some (.string l[i].name) ∧ w.cell? ⟨b, o + i * 5 + 1, none⟩ = some (.int .i64 l[i].args) ∧ w.cell? ⟨b, o + i * 5 + 2, none⟩ = some (.int .i64 l[i].temps) ∧
    w.cell? ⟨b, o + i * 5 + 3, none⟩ = some (.int .i64 l[i].prim) ∧ w.cell? ⟨b, o + i * 5 + 4, none⟩ = some x ∧ SL rIns w S x l[i].code := by
  obtain ⟨b, o, c, cs, hv, hb, hR, hc⟩ := h.at_ hi
  obtain ⟨x, hcs, hx⟩ : ∃ x, cs = [.string l[i].name, .int .i64 l[i].args, .int .i64 l[i].temps, .int .i64 l[i].prim, x] ∧ SL rIns w S x l[i].code := hR
  subst hcs
  exact ⟨b, o, c, x, hv, hb, hc 0 _ rfl, hc 1 _ rfl, hc 2 _ rfl, hc 3 _ rfl, hc 4 _ rfl, hx⟩
theorem SL.atCl {l : List Cl} (h : SL rCl w S v l) {i : Nat} (hi : i < l.length) : ∃ b o c x, v = .slice (some ⟨b, o, none⟩) l.length c ∧ S b ∧
    w.cell? ⟨b, o + i * 4, none⟩ = some (.string l[i].name) ∧ w.cell? ⟨b, o + i * 4 + 1, none⟩ = some (.int .i64 l[i].super) ∧ w.cell? ⟨b, o + i * 4 + 2, none⟩ = some (.int .i64 l[i].slots) ∧
    w.cell? ⟨b, o + i * 4 + 3, none⟩ = some x ∧ SL rMe w S x l[i].methods := by
  obtain ⟨b, o, c, cs, hv, hb, hR, hc⟩ := h.at_ hi
  obtain ⟨x, hcs, hx⟩ : ∃ x, cs = [.string l[i].name, .int .i64 l[i].super, .int .i64 l[i].slots, x] ∧ SL rMe w S x l[i].methods := hR
  subst hcs
  exact ⟨b, o, c, x, hv, hb, hc 0 _ rfl, hc 1 _ rfl, hc 2 _ rfl, hc 3 _ rfl, hx⟩
end
end Go.Proofs.Ytioalgofaiideaa
