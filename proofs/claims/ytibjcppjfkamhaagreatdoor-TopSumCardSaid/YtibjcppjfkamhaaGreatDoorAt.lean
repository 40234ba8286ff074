/- What the walk over readings knows of a program's types: a table, held against the program by one closed fact. -/
import Derived.Test.YtibjcppjfkamhaaGreatDoorAo
import Derived.ChangeKeysEq
import Derived.Stop.IfaceNil
namespace Go.Proofs.YtibjcppjfkamhaaGreatDoor
open Go.RowKit
set_option linter.unusedVariables false
structure TI where
 kind:Nat
 size:Nat
 bytes:Nat
 zero:List AV
 fields:List (Nat×Nat×Bool)
 elem:Nat
 len:Nat
 ik:IntKind
abbrev Q6 := List (Nat×TI)
def TI.agg (ti:TI):Bool:=match ti.kind with|1=>true|3=>true|_=>false
def aG7 : TypeDesc→Bool|.struct _=>true|.array _ _=>true|_=>false
def aF0 : List Value→List AV→Bool
 |[],[]=>true
 |.int k n::vs,.int m::as=>decide (k=.i64) && decide (n=0) && decide (m=0) && aF0 vs as
 |.int k n::vs,.ik k' m::as=>decide (k=k') && decide (n=m) && aF0 vs as
 |.bool b::vs,.bool b'::as=>decide (b=b') && aF0 vs as
 |.string s::vs,.str s'::as=>decide (s.size=0) && decide (s'.size=0) && aF0 vs as
 |.slice none 0 0::vs,.nilsl::as=>aF0 vs as
 |.pointer none::vs,.nilp::as=>aF0 vs as
 |.nilFunc::vs,.nilf::as=>aF0 vs as
 |.map none::vs,.any::as=>aF0 vs as
 |.nilIface::vs,.ifc true::as=>aF0 vs as
 |_,_=>false
theorem b77 {s:ByteArray} (h:s.size=0):s=ByteArray.empty:=by
 obtain ⟨⟨l⟩⟩:=s
 have:l=[]:=List.eq_nil_of_length_eq_zero h
 subst this
 rfl
theorem aH3 (Φ:Nat→Prop) (w:World):∀(vs:List Value) (as:List AV),aF0 vs as=true→J4 Φ w vs as∧∀u∈vs,u.oneCell'=true:=by
 intro vs as
 fun_induction aF0 vs as with
 |case1=>exact fun _=>⟨.nil,by simp⟩
 |case2 k n vs m as ih =>
  intro h
  simp only [Bool.and_eq_true,decide_eq_true_eq] at h
  obtain ⟨⟨⟨rfl,rfl⟩,rfl⟩,h⟩:=h
  exact ⟨.cons (.int (by simp [Z8])) (ih h).1,by simpa [Value.oneCell'] using (ih h).2⟩
 |case3 k n vs k' m as ih =>
  intro h
  simp only [Bool.and_eq_true,decide_eq_true_eq] at h
  obtain ⟨⟨rfl,rfl⟩,h⟩:=h
  exact ⟨.cons (.ik _ _) (ih h).1,by simpa [Value.oneCell'] using (ih h).2⟩
 |case4 b vs b' as ih =>
  intro h
  simp only [Bool.and_eq_true,decide_eq_true_eq] at h
  obtain ⟨rfl,h⟩:=h
  exact ⟨.cons (.bool _) (ih h).1,by simpa [Value.oneCell'] using (ih h).2⟩
 |case5 s vs s' as ih =>
  intro h
  simp only [Bool.and_eq_true,decide_eq_true_eq] at h
  obtain ⟨⟨h1,h2⟩,h⟩:=h
  have e:s=s':=(b77 h1).trans (b77 h2).symm
  subst e
  exact ⟨.cons (.str (by omega)) (ih h).1,by simpa [Value.oneCell'] using (ih h).2⟩
 |case6 vs as ih=>exact fun h=>⟨.cons .nilsl (ih h).1,by simpa [Value.oneCell'] using (ih h).2⟩
 |case7 vs as ih=>exact fun h=>⟨.cons .nilp (ih h).1,by simpa [Value.oneCell'] using (ih h).2⟩
 |case8 vs as ih=>exact fun h=>⟨.cons .nilf (ih h).1,by simpa [Value.oneCell'] using (ih h).2⟩
 |case9 vs as ih=>exact fun h=>⟨.cons (.any _) (ih h).1,by simpa [Value.oneCell'] using (ih h).2⟩
 |case10 vs as ih=>exact fun h=>⟨.cons .ifcn (ih h).1,by simpa [Value.oneCell'] using (ih h).2⟩
 |case11=>intro h; cases h
def aI2 (P:Program):List Field→List (Nat×Nat×Bool)→Bool
 |[],[]=>true
 |f::fs,(o,s,a)::l=>decide (f.offset=o) && decide ((P.info? f.type).map (·.size)=some s) && decide ((P.underlying f.type).map aG7=some a) && aI2 P fs l
 |_,_=>false
def dOk (P:Program) (ti:TI):TypeDesc→Bool
 |.struct fs=>decide (ti.kind=1) && aI2 P fs.toList ti.fields
 |.slice e=>decide (ti.kind=2) && decide (e=ti.elem)
 |.array n e=>decide (ti.kind=3) && decide (n=ti.len) && decide (e=ti.elem)
 |.string=>decide (ti.kind=4)
 |.int k=>decide (ti.kind=5) && decide (k=ti.ik)
 |.bool=>decide (ti.kind=6)
 |.pointer _=>decide (ti.kind=7)
 |.interface _=>decide (ti.kind=9)
 |.map k e=>decide (ti.kind=8) && decide (e=ti.elem) && decide (k=ti.len)
 |_=>decide (ti.kind=0)
def b23 : Value→Bool|.agg _=>true|_=>false
def cK7 (P:Program) (t:TypeId) (ti:TI):Bool :=
 match P.info? t,P.underlying t with
 |some i,some d=>decide (i.size=ti.size) && decide (i.bytes=ti.bytes) && decide (ti.zero.length=ti.size) && dOk P ti d &&
   match i.zero with
   |some z=>aF0 z.cells.toList ti.zero && decide (b23 z=ti.agg)
   |none=>false
 |_,_=>false
structure U4 (P:Program) (t:TypeId) (ti:TI):Prop where
 info:∃i z,P.info? t=some i∧i.size=ti.size∧i.bytes=ti.bytes∧i.zero=some z∧aF0 z.cells.toList ti.zero=true∧b23 z=ti.agg
 und:∃d,P.underlying t=some d∧dOk P ti d=true
 zl:ti.zero.length=ti.size
theorem U4.of {P:Program} {t:TypeId} {ti:TI} (h:cK7 P t ti=true):U4 P t ti:=by
 unfold cK7 at h
 split at h
 ·rename_i i d hi hd
  cases hz:i.zero with
  |none=>rw [hz] at h; simp at h
  |some z =>
   rw [hz] at h
   simp only [Bool.and_eq_true,decide_eq_true_eq] at h
   obtain ⟨⟨⟨⟨h1,h2⟩,h3⟩,h4⟩,h5,h6⟩:=h
   exact ⟨⟨i,z,hi,h1,h2,hz,h5,h6⟩,⟨d,hd,h4⟩,h3⟩
 ·cases h
def O3 (P:Program) (tab:Q6):Prop:=∀t ti,lk tab t=some ti→U4 P t ti
def cZ7 (P:Program) (tab:Q6):Bool:=tab.all fun p=>cK7 P p.1 p.2
theorem O3.of {P:Program} {tab:Q6} (h:cZ7 P tab=true):O3 P tab:=fun t ti hl=>U4.of (List.all_eq_true.1 h (t,ti) (aA5 hl))
section
variable {P:Program} {t:TypeId} {ti:TI} (w:World)
theorem cJ1 {d:TypeDesc} (h:dOk P ti d=true):aG7 d=ti.agg:=by
 cases d<;>simp only [dOk,Bool.and_eq_true,decide_eq_true_eq] at h<;>simp [aG7,TI.agg,h]
theorem U4.run_agg (h:U4 P t ti):(isAgg t).run P w=.ok ti.agg w:=by
 obtain ⟨d,hd,hk⟩:=h.und
 rw [←cJ1 hk]
 cases d<;>simp [isAgg,run_underlying hd,aG7]
theorem U4.run_size (h:U4 P t ti):(sizeOf t).run P w=.ok ti.size w:=by
 obtain ⟨i,z,hi,hs,_⟩:=h.info
 simp [sizeOf,typeInfo,hi,hs]
theorem U4.run_zero (h:U4 P t ti):∃z,(zeroValue t).run P w=.ok z w∧aF0 z.cells.toList ti.zero=true∧b23 z=ti.agg:=by
 obtain ⟨i,z,hi,_,_,hz,h1,h2⟩:=h.info
 exact ⟨z,by simp [zeroValue,typeInfo,hi,hz],h1,h2⟩
theorem U4.struct_ (h:U4 P t ti) (hk:ti.kind=1):∃fs,P.underlying t=some (.struct fs)∧aI2 P fs.toList ti.fields=true:=by
 obtain ⟨d,hd,hdk⟩:=h.und
 cases d<;>simp only [dOk,Bool.and_eq_true,decide_eq_true_eq,hk] at hdk<;>first|omega|exact ⟨_,hd,hdk.2⟩
theorem U4.slice_ (h:U4 P t ti) (hk:ti.kind=2):P.underlying t=some (.slice ti.elem):=by
 obtain ⟨d,hd,hdk⟩:=h.und
 cases d<;>simp only [dOk,Bool.and_eq_true,decide_eq_true_eq,hk] at hdk<;>first|omega|(rw [hd,hdk.2])
theorem U4.ptr_ (h:U4 P t ti) (hk:ti.kind=7):∃e,P.underlying t=some (.pointer e):=by
 obtain ⟨d,hd,hdk⟩:=h.und
 cases d<;>simp only [dOk,Bool.and_eq_true,decide_eq_true_eq,hk] at hdk<;>first|omega|exact ⟨_,hd⟩
theorem U4.map_ (h:U4 P t ti) (hk:ti.kind=8):P.underlying t=some (.map ti.len ti.elem):=by
 obtain ⟨d,hd,hdk⟩:=h.und
 cases d<;>simp only [dOk,Bool.and_eq_true,decide_eq_true_eq,hk] at hdk<;>first|omega|(rw [hd,hdk.1.2,hdk.2])
theorem U4.iface_ (h:U4 P t ti) (hk:ti.kind=9):P.isIface t=true:=by
 obtain ⟨d,hd,hdk⟩:=h.und
 cases d<;>simp only [dOk,Bool.and_eq_true,decide_eq_true_eq,hk] at hdk<;>first|omega|(unfold Program.isIface; rw [hd])
theorem U4.bool_ (h:U4 P t ti) (hk:ti.kind=6):P.underlying t=some .bool:=by
 obtain ⟨d,hd,hdk⟩:=h.und
 cases d<;>simp only [dOk,Bool.and_eq_true,decide_eq_true_eq,hk] at hdk<;>first|omega|exact hd
theorem U4.array_ (h:U4 P t ti) (hk:ti.kind=3):P.underlying t=some (.array ti.len ti.elem):=by
 obtain ⟨d,hd,hdk⟩:=h.und
 cases d<;>simp only [dOk,Bool.and_eq_true,decide_eq_true_eq,hk] at hdk<;>first|omega|(rw [hd,hdk.1.2,hdk.2])
theorem U4.string_ (h:U4 P t ti) (hk:ti.kind=4):P.underlying t=some .string:=by
 obtain ⟨d,hd,hdk⟩:=h.und
 cases d<;>simp only [dOk,Bool.and_eq_true,decide_eq_true_eq,hk] at hdk<;>first|omega|(rw [hd])
theorem U4.int_ (h:U4 P t ti) (hk:ti.kind=5):P.underlying t=some (.int ti.ik):=by
 obtain ⟨d,hd,hdk⟩:=h.und
 cases d<;>simp only [dOk,Bool.and_eq_true,decide_eq_true_eq,hk] at hdk<;>first|omega|(rw [hd,hdk.2])
theorem a00 : ∀(fs:List Field) (l:List (Nat×Nat×Bool)),aI2 P fs l=true→∀(i o s:Nat) (a:Bool),l[i]?=some (o,s,a) →
  ∃f,fs[i]?=some f∧f.offset=o∧(∃x,P.info? f.type=some x∧x.size=s)∧∃d,P.underlying f.type=some d∧aG7 d=a
 |[],[],_,i,o,s,a,h=>by simp at h
 |f::fs,(o',s',a')::l,h,0,o,s,a,hi=>by
  simp only [aI2,Bool.and_eq_true,decide_eq_true_eq] at h
  simp at hi
  obtain ⟨rfl,rfl,rfl⟩:=hi
  obtain ⟨⟨⟨h1,h2⟩,h3⟩,_⟩:=h
  simp only [Option.map_eq_some_iff] at h2 h3
  exact ⟨f,rfl,h1,h2,h3⟩
 |f::fs,(o',s',a')::l,h,i+1,o,s,a,hi=>by
  simp only [aI2,Bool.and_eq_true,decide_eq_true_eq] at h
  simpa using a00 fs l h.2 i o s a (by simpa using hi)
end
end Go.Proofs.YtibjcppjfkamhaaGreatDoor
