/- What the walk over readings knows of a program's types: a table, held against the program by one closed fact. -/
import Derived.Test.YtibjcppjfkamhaaGreatDoorAo
import Derived.ChangeKeysEq
import Derived.Stop.IfaceNil
namespace Go.Proofs.YtibjcppjfkamhaaGreatDoor
open Go.RowKit
set_option linter.unusedVariables false
structure TI where
 kind:Nat
 size:Nat
 bytes:Nat
 zero:List AV
 fields:List (Nat×Nat×Bool)
 elem:Nat
 len:Nat
 ik:IntKind
abbrev O3 := List (Nat×TI)
def TI.agg (ti:TI):Bool:=match ti.kind with|1=>true|3=>true|_=>false
def aD8 : TypeDesc→Bool|.struct _=>true|.array _ _=>true|_=>false
def aC5 : List Value→List AV→Bool
 |[],[]=>true
 |.int k n::vs,.int m::as=>decide (k=.i64) && decide (n=0) && decide (m=0) && aC5 vs as
 |.int k n::vs,.ik k' m::as=>decide (k=k') && decide (n=m) && aC5 vs as
 |.bool b::vs,.bool b'::as=>decide (b=b') && aC5 vs as
 |.string s::vs,.str s'::as=>decide (s.size=0) && decide (s'.size=0) && aC5 vs as
 |.slice none 0 0::vs,.nilsl::as=>aC5 vs as
 |.pointer none::vs,.nilp::as=>aC5 vs as
 |.nilFunc::vs,.nilf::as=>aC5 vs as
 |.map none::vs,.any::as=>aC5 vs as
 |.nilIface::vs,.ifc true::as=>aC5 vs as
 |_,_=>false
theorem b31 {s:ByteArray} (h:s.size=0):s=ByteArray.empty:=by
 obtain ⟨⟨l⟩⟩:=s
 have:l=[]:=List.eq_nil_of_length_eq_zero h
 subst this
 rfl
theorem aE6 (Φ:Nat→Prop) (w:World):∀(vs:List Value) (as:List AV),aC5 vs as=true→I4 Φ w vs as∧∀u∈vs,u.oneCell'=true:=by
 intro vs as
 fun_induction aC5 vs as with
 |case1=>exact fun _=>⟨.nil,by simp⟩
 |case2 k n vs m as ih =>
  intro h
  simp only [Bool.and_eq_true,decide_eq_true_eq] at h
  obtain ⟨⟨⟨rfl,rfl⟩,rfl⟩,h⟩:=h
  exact ⟨.cons (.int (by simp [InR])) (ih h).1,by simpa [Value.oneCell'] using (ih h).2⟩
 |case3 k n vs k' m as ih =>
  intro h
  simp only [Bool.and_eq_true,decide_eq_true_eq] at h
  obtain ⟨⟨rfl,rfl⟩,h⟩:=h
  exact ⟨.cons (.ik _ _) (ih h).1,by simpa [Value.oneCell'] using (ih h).2⟩
 |case4 b vs b' as ih =>
  intro h
  simp only [Bool.and_eq_true,decide_eq_true_eq] at h
  obtain ⟨rfl,h⟩:=h
  exact ⟨.cons (.bool _) (ih h).1,by simpa [Value.oneCell'] using (ih h).2⟩
 |case5 s vs s' as ih =>
  intro h
  simp only [Bool.and_eq_true,decide_eq_true_eq] at h
  obtain ⟨⟨h1,h2⟩,h⟩:=h
  have e:s=s':=(b31 h1).trans (b31 h2).symm
  subst e
  exact ⟨.cons (.str (by omega)) (ih h).1,by simpa [Value.oneCell'] using (ih h).2⟩
 |case6 vs as ih=>exact fun h=>⟨.cons .nilsl (ih h).1,by simpa [Value.oneCell'] using (ih h).2⟩
 |case7 vs as ih=>exact fun h=>⟨.cons .nilp (ih h).1,by simpa [Value.oneCell'] using (ih h).2⟩
 |case8 vs as ih=>exact fun h=>⟨.cons .nilf (ih h).1,by simpa [Value.oneCell'] using (ih h).2⟩
 |case9 vs as ih=>exact fun h=>⟨.cons (.any _) (ih h).1,by simpa [Value.oneCell'] using (ih h).2⟩
 |case10 vs as ih=>exact fun h=>⟨.cons .ifcn (ih h).1,by simpa [Value.oneCell'] using (ih h).2⟩
 |case11=>intro h; cases h
def aF5 (P:Program):List Field→List (Nat×Nat×Bool)→Bool
 |[],[]=>true
 |f::fs,(o,s,a)::l=>decide (f.offset=o) && decide ((P.info? f.type).map (·.size)=some s) && decide ((P.underlying f.type).map aD8=some a) && aF5 P fs l
 |_,_=>false
def dOk (P:Program) (ti:TI):TypeDesc→Bool
 |.struct fs=>decide (ti.kind=1) && aF5 P fs.toList ti.fields
 |.slice e=>decide (ti.kind=2) && decide (e=ti.elem)
 |.array n e=>decide (ti.kind=3) && decide (n=ti.len) && decide (e=ti.elem)
 |.string=>decide (ti.kind=4)
 |.int k=>decide (ti.kind=5) && decide (k=ti.ik)
 |.bool=>decide (ti.kind=6)
 |.pointer _=>decide (ti.kind=7)
 |.interface _=>decide (ti.kind=9)
 |.map k e=>decide (ti.kind=8) && decide (e=ti.elem) && decide (k=ti.len)
 |_=>decide (ti.kind=0)
def bX0 : Value→Bool|.agg _=>true|_=>false
def cF1 (P:Program) (t:TypeId) (ti:TI):Bool :=
 match P.info? t,P.underlying t with
 |some i,some d=>decide (i.size=ti.size) && decide (i.bytes=ti.bytes) && decide (ti.zero.length=ti.size) && dOk P ti d &&
   match i.zero with
   |some z=>aC5 z.cells.toList ti.zero && decide (bX0 z=ti.agg)
   |none=>false
 |_,_=>false
structure P7 (P:Program) (t:TypeId) (ti:TI):Prop where
 info:∃i z,P.info? t=some i∧i.size=ti.size∧i.bytes=ti.bytes∧i.zero=some z∧aC5 z.cells.toList ti.zero=true∧bX0 z=ti.agg
 und:∃d,P.underlying t=some d∧dOk P ti d=true
 zl:ti.zero.length=ti.size
theorem P7.of {P:Program} {t:TypeId} {ti:TI} (h:cF1 P t ti=true):P7 P t ti:=by
 unfold cF1 at h
 split at h
 ·rename_i i d hi hd
  cases hz:i.zero with
  |none=>rw [hz] at h; simp at h
  |some z =>
   rw [hz] at h
   simp only [Bool.and_eq_true,decide_eq_true_eq] at h
   obtain ⟨⟨⟨⟨h1,h2⟩,h3⟩,h4⟩,h5,h6⟩:=h
   exact ⟨⟨i,z,hi,h1,h2,hz,h5,h6⟩,⟨d,hd,h4⟩,h3⟩
 ·cases h
def M3 (P:Program) (tab:O3):Prop:=∀t ti,lk tab t=some ti→P7 P t ti
def cS4 (P:Program) (tab:O3):Bool:=tab.all fun p=>cF1 P p.1 p.2
theorem M3.of {P:Program} {tab:O3} (h:cS4 P tab=true):M3 P tab:=fun t ti hl=>P7.of (List.all_eq_true.1 h (t,ti) (Y3 hl))
section
variable {P:Program} {t:TypeId} {ti:TI} (w:World)
theorem cF2 {d:TypeDesc} (h:dOk P ti d=true):aD8 d=ti.agg:=by
 cases d<;>simp only [dOk,Bool.and_eq_true,decide_eq_true_eq] at h<;>simp [aD8,TI.agg,h]
theorem P7.run_agg (h:P7 P t ti):(isAgg t).run P w=.ok ti.agg w:=by
 obtain ⟨d,hd,hk⟩:=h.und
 rw [←cF2 hk]
 cases d<;>simp [isAgg,run_underlying hd,aD8]
theorem P7.run_size (h:P7 P t ti):(sizeOf t).run P w=.ok ti.size w:=by
 obtain ⟨i,z,hi,hs,_⟩:=h.info
 simp [sizeOf,typeInfo,hi,hs]
theorem P7.run_zero (h:P7 P t ti):∃z,(zeroValue t).run P w=.ok z w∧aC5 z.cells.toList ti.zero=true∧bX0 z=ti.agg:=by
 obtain ⟨i,z,hi,_,_,hz,h1,h2⟩:=h.info
 exact ⟨z,by simp [zeroValue,typeInfo,hi,hz],h1,h2⟩
theorem P7.struct_ (h:P7 P t ti) (hk:ti.kind=1):∃fs,P.underlying t=some (.struct fs)∧aF5 P fs.toList ti.fields=true:=by
 obtain ⟨d,hd,hdk⟩:=h.und
 cases d<;>simp only [dOk,Bool.and_eq_true,decide_eq_true_eq,hk] at hdk<;>first|omega|exact ⟨_,hd,hdk.2⟩
theorem P7.slice_ (h:P7 P t ti) (hk:ti.kind=2):P.underlying t=some (.slice ti.elem):=by
 obtain ⟨d,hd,hdk⟩:=h.und
 cases d<;>simp only [dOk,Bool.and_eq_true,decide_eq_true_eq,hk] at hdk<;>first|omega|(rw [hd,hdk.2])
theorem P7.ptr_ (h:P7 P t ti) (hk:ti.kind=7):∃e,P.underlying t=some (.pointer e):=by
 obtain ⟨d,hd,hdk⟩:=h.und
 cases d<;>simp only [dOk,Bool.and_eq_true,decide_eq_true_eq,hk] at hdk<;>first|omega|exact ⟨_,hd⟩
theorem P7.map_ (h:P7 P t ti) (hk:ti.kind=8):P.underlying t=some (.map ti.len ti.elem):=by
 obtain ⟨d,hd,hdk⟩:=h.und
 cases d<;>simp only [dOk,Bool.and_eq_true,decide_eq_true_eq,hk] at hdk<;>first|omega|(rw [hd,hdk.1.2,hdk.2])
theorem P7.iface_ (h:P7 P t ti) (hk:ti.kind=9):P.isIface t=true:=by
 obtain ⟨d,hd,hdk⟩:=h.und
 cases d<;>simp only [dOk,Bool.and_eq_true,decide_eq_true_eq,hk] at hdk<;>first|omega|(unfold Program.isIface; rw [hd])
theorem P7.bool_ (h:P7 P t ti) (hk:ti.kind=6):P.underlying t=some .bool:=by
 obtain ⟨d,hd,hdk⟩:=h.und
 cases d<;>simp only [dOk,Bool.and_eq_true,decide_eq_true_eq,hk] at hdk<;>first|omega|exact hd
theorem P7.array_ (h:P7 P t ti) (hk:ti.kind=3):P.underlying t=some (.array ti.len ti.elem):=by
 obtain ⟨d,hd,hdk⟩:=h.und
 cases d<;>simp only [dOk,Bool.and_eq_true,decide_eq_true_eq,hk] at hdk<;>first|omega|(rw [hd,hdk.1.2,hdk.2])
theorem P7.string_ (h:P7 P t ti) (hk:ti.kind=4):P.underlying t=some .string:=by
 obtain ⟨d,hd,hdk⟩:=h.und
 cases d<;>simp only [dOk,Bool.and_eq_true,decide_eq_true_eq,hk] at hdk<;>first|omega|(rw [hd])
theorem P7.int_ (h:P7 P t ti) (hk:ti.kind=5):P.underlying t=some (.int ti.ik):=by
 obtain ⟨d,hd,hdk⟩:=h.und
 cases d<;>simp only [dOk,Bool.and_eq_true,decide_eq_true_eq,hk] at hdk<;>first|omega|(rw [hd,hdk.2])
theorem aV7 : ∀(fs:List Field) (l:List (Nat×Nat×Bool)),aF5 P fs l=true→∀(i o s:Nat) (a:Bool),l[i]?=some (o,s,a) →
  ∃f,fs[i]?=some f∧f.offset=o∧(∃x,P.info? f.type=some x∧x.size=s)∧∃d,P.underlying f.type=some d∧aD8 d=a
 |[],[],_,i,o,s,a,h=>by simp at h
 |f::fs,(o',s',a')::l,h,0,o,s,a,hi=>by
  simp only [aF5,Bool.and_eq_true,decide_eq_true_eq] at h
  simp at hi
  obtain ⟨rfl,rfl,rfl⟩:=hi
  obtain ⟨⟨⟨h1,h2⟩,h3⟩,_⟩:=h
  simp only [Option.map_eq_some_iff] at h2 h3
  exact ⟨f,rfl,h1,h2,h3⟩
 |f::fs,(o',s',a')::l,h,i+1,o,s,a,hi=>by
  simp only [aF5,Bool.and_eq_true,decide_eq_true_eq] at h
  simpa using aV7 fs l h.2 i o s a (by simpa using hi)
end
end Go.Proofs.YtibjcppjfkamhaaGreatDoor
