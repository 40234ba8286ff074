/- What a Go value reads as: readings (AV), what lies in memory that never turns again (Rf), what a call has of its own (Rd, objects). No program in sight, no conditions. -/
import Derived.Test.YtibjcppjfkamhaaGreatDoorPost
import Derived.WalkSpells
import Derived.WalkLawsBesides
import Derived.Maps.AppendAt
import Derived.Laws.OwnMore
namespace Go.Proofs.YtibjcppjfkamhaaGreatDoor
open Go.RowKit
set_option linter.unusedVariables false
abbrev Z8 (n:Int):Prop:=-9223372036854775808≤n∧n≤9223372036854775807
inductive AV : Type where
 |any
 |int (n:Int)
 |ik (k:IntKind) (n:Int)
 |bool (b:Bool)
 |str (s:ByteArray)
 |sl (sz:Nat) (ls:List (List AV))
 |ptr (id off:Nat)
 |fp (cs:List AV)
 |own (id:Nat)
 |osl (id n:Nat)
 |osr (id n sz:Nat)
 |ep (id i sz off:Nat)
 |fn (f:Nat) (caps:List AV)
 |agg (cs:List AV)
 |tup (l:List AV)
 |nilsl
  |slb (b:Bool)
 |nilp
 |nilf
 |mp (id:Nat)
 |nst (id:Nat)
  |np (id:Nat)
  |ifc (b:Bool)
 |con (v:Value)
 deriving Inhabited
mutual
inductive Rf (Φ:Nat→Prop) (w:World):Value→AV→Prop
 |any (v:Value):Rf Φ w v .any
 |int {n:Int}:Z8 n→Rf Φ w (.int .i64 n) (.int n)
 |ik (k:IntKind) (n:Int):Rf Φ w (.int k n) (.ik k n)
 |bool (b:Bool):Rf Φ w (.bool b) (.bool b)
 |str {s:ByteArray}:s.size≤maxLen→Rf Φ w (.string s) (.str s)
 |sl {A:Option Addr} {c sz:Nat} {ls:List (List AV)} (us:Nat→List Value) (b o:Nat):ls.length≤c→c≤maxLen→(0 < ls.length→A=some ⟨b,o,none⟩∧Φ b) →
   (∀i cs,ls[i]?=some cs→(us i).length=sz)→(∀i cs,ls[i]?=some cs→∀j u,(us i)[j]?=some u→w.cell? ⟨b,o+i*sz+j,none⟩=some u) →
   (∀i cs,ls[i]?=some cs→J4 Φ w (us i) cs)→(∀i cs,ls[i]?=some cs→∀u∈us i,u.oneCell'=true)→Rf Φ w (.slice A ls.length c) (.sl sz ls)
 |fp {b o:Nat} {us:List Value} {cs:List AV}:Φ b→(∀j u,us[j]?=some u→w.cell? ⟨b,o+j,none⟩=some u)→J4 Φ w us cs→Rf Φ w (.pointer (some ⟨b,o,none⟩)) (.fp cs)
 |fn {f:Nat} {us:List Value} {cs:List AV}:J4 Φ w us cs→Rf Φ w (.func (.func f) #[] us.toArray) (.fn f cs)
 |agg {us:List Value} {cs:List AV}:J4 Φ w us cs→Rf Φ w (.agg us.toArray) (.agg cs)
 |tup {us:List Value} {cs:List AV}:J4 Φ w us cs→Rf Φ w (.tuple us.toArray) (.tup cs)
 |nilsl:Rf Φ w (.slice none 0 0) .nilsl
 |slb (A:Option Addr) (n c:Nat):Rf Φ w (.slice A n c) (.slb A.isNone)
 |nilp:Rf Φ w (.pointer none) .nilp
 |nilf:Rf Φ w .nilFunc .nilf
 |ifcn:Rf Φ w .nilIface (.ifc true)
 |ifcs (t:TypeId) (p:Value):Rf Φ w (.iface t p) (.ifc false)
 |con (v:Value):Rf Φ w v (.con v)
inductive J4 (Φ:Nat→Prop) (w:World):List Value→List AV→Prop
 |nil:J4 Φ w [] []
 |cons {v:Value} {a:AV} {vs:List Value} {as:List AV}:Rf Φ w v a→J4 Φ w vs as→J4 Φ w (v::vs) (a::as)
end
mutual
theorem Rf.mono {Φ Φ':Nat→Prop} {w w':World} (hw:∀b,Φ b→w'.heap[b]?=w.heap[b]?) (hΦ:∀b,Φ b→Φ' b):∀{v:Value} {a:AV},Rf Φ w v a→Rf Φ' w' v a
 |_,_,.any v=>.any v
 |_,_,.int h=>.int h
 |_,_,.ik k n=>.ik k n
 |_,_,.bool b=>.bool b
 |_,_,.str h=>.str h
 |_,_,.sl us b o h1 h2 h3 h4 h5 h6 h7=>.sl us b o h1 h2 (fun h=>⟨(h3 h).1,hΦ b (h3 h).2⟩) h4
   (fun i cs h j u hj=>(World.cell?_of_block (w:=w) (a:=⟨b,o+i*_+j,none⟩) (hw b (h3 (by have:=(List.getElem?_eq_some_iff.1 h).1; omega)).2)).trans (h5 i cs h j u hj))
   (fun i cs h=>J4.mono hw hΦ (h6 i cs h)) h7
 |_,_,.fp hb hc hr=>.fp (hΦ _ hb) (fun j u hj=>(World.cell?_of_block (w:=w) (hw _ hb)).trans (hc j u hj)) (J4.mono hw hΦ hr)
 |_,_,.fn h=>.fn (J4.mono hw hΦ h)
 |_,_,.agg h=>.agg (J4.mono hw hΦ h)
 |_,_,.tup h=>.tup (J4.mono hw hΦ h)
 |_,_,.nilsl=>.nilsl
 |_,_,.slb A n c=>.slb A n c
 |_,_,.nilp=>.nilp
 |_,_,.nilf=>.nilf
 |_,_,.ifcn=>.ifcn
 |_,_,.ifcs t p=>.ifcs t p
 |_,_,.con v=>.con v
theorem J4.mono {Φ Φ':Nat→Prop} {w w':World} (hw:∀b,Φ b→w'.heap[b]?=w.heap[b]?) (hΦ:∀b,Φ b→Φ' b):∀{vs:List Value} {as:List AV},J4 Φ w vs as→J4 Φ' w' vs as
 |_,_,.nil=>.nil
 |_,_,.cons h t=>.cons (Rf.mono hw hΦ h) (J4.mono hw hΦ t)
end
section
variable {Φ:Nat→Prop} {w:World}
theorem J4.length : ∀{vs:List Value} {as:List AV},J4 Φ w vs as→vs.length=as.length
 |_,_,.nil=>rfl
 |_,_,.cons _ t=>by simp [J4.length t]
theorem J4.get : ∀{vs:List Value} {as:List AV},J4 Φ w vs as→∀{i:Nat} {a:AV},as[i]?=some a→∃v,vs[i]?=some v∧Rf Φ w v a
 |_,_,.cons (v:=v) h t,0,a,e=>⟨v,rfl,by simp at e; exact e▸h⟩
 |_,_,.cons h t,i+1,a,e=>by simpa using J4.get t (by simpa using e)
theorem J4.append : ∀{vs:List Value} {as:List AV} {us:List Value} {bs:List AV},J4 Φ w vs as→J4 Φ w us bs→J4 Φ w (vs++us) (as++bs)
 |_,_,_,_,.nil,h=>h
 |_,_,_,_,.cons x t,h=>.cons x (J4.append t h)
theorem J4.take (n:Nat):∀{vs:List Value} {as:List AV},J4 Φ w vs as→∀n,J4 Φ w (vs.take n) (as.take n)
 |_,_,.nil,n=>by simpa using .nil
 |_,_,.cons h t,0=>by simpa using .nil
 |_,_,.cons h t,n+1=>.cons h (J4.take n t n)
theorem J4.drop : ∀{vs:List Value} {as:List AV},J4 Φ w vs as→∀n,J4 Φ w (vs.drop n) (as.drop n)
 |_,_,.nil,n=>by simpa using .nil
 |_,_,.cons h t,0=>.cons h t
 |_,_,.cons h t,n+1=>by simpa using J4.drop t n
end
structure Ctx where
 Φ:Nat→Prop
 μ:Nat→Nat
 hd:Nat→Value
mutual
inductive Rd (c:Ctx) (w:World):Value→AV→Prop
 |fz {v:Value} {a:AV}:Rf c.Φ w v a→Rd c w v a
 |ptr {id off b:Nat}:c.μ id=b→Rd c w (.pointer (some ⟨b,off,none⟩)) (.ptr id off)
 |own {id n cap:Nat} {A:Option Addr}:c.hd id=.slice A n cap→n≤cap→cap≤maxLen→Rd c w (.slice A n cap) (.own id)
 |osl {id n m cap:Nat} {A:Option Addr}:c.hd id=.slice A m cap→n≤m→m≤cap→cap≤maxLen→Rd c w (.slice A n cap) (.osl id n)
 |osr {id n sz m cap:Nat} {A:Option Addr}:c.hd id=.slice A m cap→n≤m→m≤cap→cap≤maxLen→Rd c w (.slice (if cap=n then A else A.map (·.add (n*sz))) (m - n) (cap - n)) (.osr id n sz)
 |ep {id i sz off m cap g x:Nat}:c.hd id=.slice (some ⟨g,x,none⟩) m cap→Rd c w (.pointer (some ⟨g,x+i*sz+off,none⟩)) (.ep id i sz off)
 |fn {f:Nat} {us:List Value} {cs:List AV}:F6 c w us cs→Rd c w (.func (.func f) #[] us.toArray) (.fn f cs)
 |agg {us:List Value} {cs:List AV}:F6 c w us cs→Rd c w (.agg us.toArray) (.agg cs)
 |tup {us:List Value} {cs:List AV}:F6 c w us cs→Rd c w (.tuple us.toArray) (.tup cs)
 |mp {id b:Nat}:c.μ id=b→Rd c w (.map (some b)) (.mp id)
 |nst {id n cap:Nat} {A:Option Addr} {vs:List Value}:c.hd id=.tuple (.slice A n cap::vs).toArray→n≤cap→cap≤maxLen→Rd c w (.slice A n cap) (.nst id)
 |npn {id:Nat}:Rd c w (.pointer none) (.np id)
 |nps {id b:Nat}:c.μ id=b→Rd c w (.pointer (some ⟨b,0,none⟩)) (.np id)
inductive F6 (c:Ctx) (w:World):List Value→List AV→Prop
 |nil:F6 c w [] []
 |cons {v:Value} {a:AV} {vs:List Value} {as:List AV}:Rd c w v a→F6 c w vs as→F6 c w (v::vs) (a::as)
end
mutual
def AV.ids : AV→List Nat
 |.ptr id _=>[id]
 |.own id=>[id]
 |.osl id _=>[id]
 |.osr id _ _=>[id]
 |.ep id _ _ _=>[id]
 |.mp id=>[id]
 |.nst id=>[id]
 |.np id=>[id]
 |.fn _ cs=>AV.idss cs
 |.agg cs=>AV.idss cs
 |.tup cs=>AV.idss cs
 |_=>[]
def AV.idss : List AV→List Nat
 |[]=>[]
 |a::l=>a.ids++AV.idss l
end
mutual
theorem Rd.mono {c c':Ctx} {w w':World} (hw:∀b,c.Φ b→w'.heap[b]?=w.heap[b]?) (hΦ:∀b,c.Φ b→c'.Φ b):∀{v:Value} {a:AV},(∀id∈a.ids,c'.μ id=c.μ id∧c'.hd id=c.hd id)→Rd c w v a→Rd c' w' v a
 |_,_,_,.fz h=>.fz (h.mono hw hΦ)
 |_,_,hi,.ptr h=>.ptr ((hi _ (by simp [AV.ids])).1.trans h)
 |_,_,hi,.own h h1 h2=>.own ((hi _ (by simp [AV.ids])).2.trans h) h1 h2
 |_,_,hi,.osl h h1 h2 h3=>.osl ((hi _ (by simp [AV.ids])).2.trans h) h1 h2 h3
 |_,_,hi,.osr h h1 h2 h3=>.osr ((hi _ (by simp [AV.ids])).2.trans h) h1 h2 h3
 |_,_,hi,.ep h=>.ep ((hi _ (by simp [AV.ids])).2.trans h)
 |_,_,hi,.fn h=>.fn (F6.mono hw hΦ (by simpa only [AV.ids] using hi) h)
 |_,_,hi,.agg h=>.agg (F6.mono hw hΦ (by simpa only [AV.ids] using hi) h)
 |_,_,hi,.tup h=>.tup (F6.mono hw hΦ (by simpa only [AV.ids] using hi) h)
 |_,_,hi,.mp h=>.mp ((hi _ (by simp [AV.ids])).1.trans h)
 |_,_,hi,.nst h h1 h2=>.nst ((hi _ (by simp [AV.ids])).2.trans h) h1 h2
 |_,_,hi,.npn=>.npn
 |_,_,hi,.nps h=>.nps ((hi _ (by simp [AV.ids])).1.trans h)
theorem F6.mono {c c':Ctx} {w w':World} (hw:∀b,c.Φ b→w'.heap[b]?=w.heap[b]?) (hΦ:∀b,c.Φ b→c'.Φ b):∀{vs:List Value} {as:List AV},(∀id∈AV.idss as,c'.μ id=c.μ id∧c'.hd id=c.hd id)→F6 c w vs as→F6 c' w' vs as
 |_,_,_,.nil=>.nil
 |_,_,hi,.cons h t=>.cons (Rd.mono hw hΦ (fun id h=>hi id (by simp [AV.idss,h])) h) (F6.mono hw hΦ (fun id h=>hi id (by simp [AV.idss,h])) t)
end
section
variable {c:Ctx} {w:World}
theorem F6.length : ∀{vs:List Value} {as:List AV},F6 c w vs as→vs.length=as.length
 |_,_,.nil=>rfl
 |_,_,.cons _ t=>by simp [F6.length t]
theorem F6.get : ∀{vs:List Value} {as:List AV},F6 c w vs as→∀{i:Nat} {a:AV},as[i]?=some a→∃v,vs[i]?=some v∧Rd c w v a
 |_,_,.cons (v:=v) h t,0,a,e=>⟨v,rfl,by simp at e; exact e▸h⟩
 |_,_,.cons h t,i+1,a,e=>by simpa using F6.get t (by simpa using e)
theorem F6.append : ∀{vs:List Value} {as:List AV} {us:List Value} {bs:List AV},F6 c w vs as→F6 c w us bs→F6 c w (vs++us) (as++bs)
 |_,_,_,_,.nil,h=>h
 |_,_,_,_,.cons x t,h=>.cons x (F6.append t h)
theorem F6.take : ∀{vs:List Value} {as:List AV},F6 c w vs as→∀n,F6 c w (vs.take n) (as.take n)
 |_,_,.nil,n=>by simpa using .nil
 |_,_,.cons h t,0=>by simpa using .nil
 |_,_,.cons h t,n+1=>.cons h (F6.take t n)
theorem F6.drop : ∀{vs:List Value} {as:List AV},F6 c w vs as→∀n,F6 c w (vs.drop n) (as.drop n)
 |_,_,.nil,n=>by simpa using .nil
 |_,_,.cons h t,0=>.cons h t
 |_,_,.cons h t,n+1=>by simpa using F6.drop t n
theorem F6.set : ∀{vs:List Value} {as:List AV},F6 c w vs as→∀(n:Nat) {v:Value} {a:AV},Rd c w v a→F6 c w (vs.set n v) (as.set n a)
 |_,_,.nil,n,_,_,_=>by simpa using .nil
 |_,_,.cons h t,0,_,_,k=>.cons k t
 |_,_,.cons h t,n+1,_,_,k=>.cons h (F6.set t n k)
theorem F6.of_rfs : ∀{vs:List Value} {as:List AV},J4 c.Φ w vs as→F6 c w vs as
 |_,_,.nil=>.nil
 |_,_,.cons h t=>.cons (.fz h) (F6.of_rfs t)
theorem Rd.agg_ {v:Value} {cs:List AV} (h:Rd c w v (.agg cs)):∃us,v=.agg us.toArray∧F6 c w us cs:=by
 cases h with
 |fz h=>cases h with|agg h=>exact ⟨_,rfl,.of_rfs h⟩
 |agg h=>exact ⟨_,rfl,h⟩
theorem Rd.tup_ {v:Value} {cs:List AV} (h:Rd c w v (.tup cs)):∃us,v=.tuple us.toArray∧F6 c w us cs:=by
 cases h with
 |fz h=>cases h with|tup h=>exact ⟨_,rfl,.of_rfs h⟩
 |tup h=>exact ⟨_,rfl,h⟩
theorem Rd.fn_ {v:Value} {f:Nat} {cs:List AV} (h:Rd c w v (.fn f cs)):∃us,v=.func (.func f) #[] us.toArray∧F6 c w us cs:=by
 cases h with
 |fz h=>cases h with|fn h=>exact ⟨_,rfl,.of_rfs h⟩
 |fn h=>exact ⟨_,rfl,h⟩
theorem Rd.int_ {v:Value} {n:Int} (h:Rd c w v (.int n)):v=.int .i64 n∧Z8 n:=by
 cases h with|fz h=>cases h with|int h=>exact ⟨rfl,h⟩
theorem Rd.ik_ {v:Value} {k:IntKind} {n:Int} (h:Rd c w v (.ik k n)):v=.int k n:=by
 cases h with|fz h=>cases h with|ik=>rfl
theorem Rd.bool_ {v:Value} {b:Bool} (h:Rd c w v (.bool b)):v=.bool b:=by
 cases h with|fz h=>cases h with|bool=>rfl
theorem Rd.str_ {v:Value} {s:ByteArray} (h:Rd c w v (.str s)):v=.string s∧s.size≤maxLen:=by
 cases h with|fz h=>cases h with|str h=>exact ⟨rfl,h⟩
theorem Rd.nilsl_ {v:Value} (h:Rd c w v .nilsl):v=.slice none 0 0:=by
 cases h with|fz h=>cases h with|nilsl=>rfl
theorem Rd.slb_ {v:Value} {b:Bool} (h:Rd c w v (.slb b)):∃A n k,v=.slice A n k∧b=A.isNone:=by
 cases h with|fz h=>cases h with|slb A n k=>exact ⟨_,_,_,rfl,rfl⟩
theorem Rd.nilp_ {v:Value} (h:Rd c w v .nilp):v=.pointer none:=by
 cases h with|fz h=>cases h with|nilp=>rfl
theorem Rd.con_ {v u:Value} (h:Rd c w v (.con u)):v=u:=by
 cases h with|fz h=>cases h with|con=>rfl
theorem Rd.ptr_ {v:Value} {id off:Nat} (h:Rd c w v (.ptr id off)):v=.pointer (some ⟨c.μ id,off,none⟩):=by
 cases h with
 |fz h=>cases h
 |ptr h=>rw [h]
theorem Rd.mp_ {v:Value} {id:Nat} (h:Rd c w v (.mp id)):v=.map (some (c.μ id)):=by
 cases h with
 |fz h=>cases h
 |mp h=>rw [h]
theorem Rd.nst_ {v:Value} {id:Nat} (h:Rd c w v (.nst id)):∃A n cap vs,v=.slice A n cap∧c.hd id=.tuple (.slice A n cap::vs).toArray∧n≤cap∧cap≤maxLen:=by
 cases h with
 |fz h=>cases h
 |nst h h1 h2=>exact ⟨_,_,_,_,rfl,h,h1,h2⟩
theorem Rd.np_ {v:Value} {id:Nat} (h:Rd c w v (.np id)):v=.pointer none∨v=.pointer (some ⟨c.μ id,0,none⟩):=by
 cases h with
 |fz h=>cases h
 |npn=>exact .inl rfl
 |nps h=>exact .inr (by rw [h])
theorem Rd.ifc_ {v:Value} {b:Bool} (h:Rd c w v (.ifc b)):(v=.nilIface∧b=true)∨∃t p,v=.iface t p∧b=false:=by
 cases h with|fz h=>cases h with
  |ifcn=>exact .inl ⟨rfl,rfl⟩
  |ifcs t p=>exact .inr ⟨t,p,rfl,rfl⟩
theorem Rd.fp_ {v:Value} {cs:List AV} (h:Rd c w v (.fp cs)):∃b o us,v=.pointer (some ⟨b,o,none⟩)∧c.Φ b∧(∀j u,us[j]?=some u→w.cell? ⟨b,o+j,none⟩=some u)∧J4 c.Φ w us cs:=by
 cases h with|fz h=>cases h with|fp h1 h2 h3=>exact ⟨_,_,_,rfl,h1,h2,h3⟩
theorem Rd.sl_ {v:Value} {sz:Nat} {ls:List (List AV)} (h:Rd c w v (.sl sz ls)):∃(A:Option Addr) (k:Nat) (us:Nat→List Value) (b o:Nat),v=.slice A ls.length k∧ls.length≤k∧k≤maxLen∧(0 < ls.length→A=some ⟨b,o,none⟩∧c.Φ b) ∧
  (∀i cs,ls[i]?=some cs→(us i).length=sz)∧(∀i cs,ls[i]?=some cs→∀j u,(us i)[j]?=some u→w.cell? ⟨b,o+i*sz+j,none⟩=some u)∧(∀(i:Nat) (cs:List AV),ls[i]?=some cs→J4 c.Φ w (us i:List Value) cs)∧(∀i cs,ls[i]?=some cs→∀u∈us i,u.oneCell'=true):=by
 cases h with|fz h=>cases h with|sl us b o h1 h2 h3 h4 h5 h6 h7=>exact ⟨_,_,us,b,o,rfl,h1,h2,h3,h4,h5,h6,h7⟩
theorem Rd.own_ {v:Value} {id:Nat} (h:Rd c w v (.own id)):∃A n cap,v=.slice A n cap∧c.hd id=.slice A n cap∧n≤cap∧cap≤maxLen:=by
 cases h with
 |fz h=>cases h
 |own h h1 h2=>exact ⟨_,_,_,rfl,h,h1,h2⟩
theorem Rd.osl_ {v:Value} {id n:Nat} (h:Rd c w v (.osl id n)):∃A m cap,v=.slice A n cap∧c.hd id=.slice A m cap∧n≤m∧m≤cap∧cap≤maxLen:=by
 cases h with
 |fz h=>cases h
 |osl h h1 h2 h3=>exact ⟨_,_,_,rfl,h,h1,h2,h3⟩
theorem Rd.osr_ {v:Value} {id n sz:Nat} (h:Rd c w v (.osr id n sz)):∃A m cap,v=.slice (if cap=n then A else A.map (·.add (n*sz))) (m - n) (cap - n)∧c.hd id=.slice A m cap∧n≤m∧m≤cap∧cap≤maxLen:=by
 cases h with
 |fz h=>cases h
 |osr h h1 h2 h3=>exact ⟨_,_,_,rfl,h,h1,h2,h3⟩
theorem Rd.ep_ {v:Value} {id i sz off:Nat} (h:Rd c w v (.ep id i sz off)):∃g x m cap,v=.pointer (some ⟨g,x+i*sz+off,none⟩)∧c.hd id=.slice (some ⟨g,x,none⟩) m cap:=by
 cases h with
 |fz h=>cases h
 |ep h=>exact ⟨_,_,_,_,rfl,h⟩
def b61 : AV→Bool
 |.any=>false
 |.agg _=>false
 |.tup _=>false
 |.con v=>v.oneCell'
 |_=>true
theorem Rd.one {v:Value} {a:AV} (h:Rd c w v a) (h1:b61 a=true):v.oneCell'=true:=by
 cases h with
 |fz h=>cases h<;>first|rfl|cases h1|exact h1
 |_=>first|rfl|cases h1
theorem F6.one : ∀{vs:List Value} {as:List AV},F6 c w vs as→as.all b61=true→∀u∈vs,u.oneCell'=true
 |_,_,.nil,_=>by simp
 |_,_,.cons h t,h1=>by
  simp only [List.all_cons,Bool.and_eq_true] at h1
  intro u hu
  rcases List.mem_cons.1 hu with rfl|hu
  ·exact h.one h1.1
  ·exact F6.one t h1.2 u hu
mutual
theorem Rd.rf : ∀{v:Value} {a:AV},a.ids=[]→Rd c w v a→Rf c.Φ w v a
 |_,_,_,.fz h=>h
 |_,_,hi,.ptr _=>by simp [AV.ids] at hi
 |_,_,hi,.own _ _ _=>by simp [AV.ids] at hi
 |_,_,hi,.osl _ _ _ _=>by simp [AV.ids] at hi
 |_,_,hi,.osr _ _ _ _=>by simp [AV.ids] at hi
 |_,_,hi,.ep _=>by simp [AV.ids] at hi
 |_,_,hi,.mp _=>by simp [AV.ids] at hi
 |_,_,hi,.nst _ _ _=>by simp [AV.ids] at hi
 |_,_,hi,.npn=>by simp [AV.ids] at hi
 |_,_,hi,.nps _=>by simp [AV.ids] at hi
 |_,_,hi,.fn h=>.fn (F6.rfs (by simpa only [AV.ids] using hi) h)
 |_,_,hi,.agg h=>.agg (F6.rfs (by simpa only [AV.ids] using hi) h)
 |_,_,hi,.tup h=>.tup (F6.rfs (by simpa only [AV.ids] using hi) h)
theorem F6.rfs : ∀{vs:List Value} {as:List AV},AV.idss as=[]→F6 c w vs as→J4 c.Φ w vs as
 |_,_,_,.nil=>.nil
 |_,_,hi,.cons h t=>by
  simp only [AV.idss,List.append_eq_nil_iff] at hi
  exact .cons (Rd.rf hi.1 h) (F6.rfs hi.2 t)
end
theorem Rd.any_ (v:Value):Rd c w v .any:=.fz (.any v)
end
end Go.Proofs.YtibjcppjfkamhaaGreatDoor
