/- Ghosts for boxes that hold rows of their own: a nil slice in a box is a row; a row in a box has another name. No program in sight. -/
import Derived.Test.YtahmeibkdhbngaaN
namespace Go.Proofs.Ytahmeibkdhbngaa
open Go.RowKit
set_option linter.unusedVariables false
section
variable {Γ:H7}
theorem l6.setHd {c:Ctx} {w:World} {vs:List Value} {xs:List AV} {g:Nat} {v:Value} (h:l6 c w vs xs) (hg:(AV.idss xs).all (fun i=>!Nat.beq i g)=true):l6 (c.setHd g v) w vs xs :=
 l6.mono (c:=c) (c':=c.setHd g v) (fun _ _=>rfl) (fun _ h=>h) (fun id hid=>⟨rfl,by
  have:=List.all_eq_true.1 hg id hid
  have hne:id≠g:=fun e=>by subst e; simp at this
  simp [Ctx.setHd,hne]⟩) h
end
def ixd {α:Type} (p:α→Bool) (d:α) (l:List α):List α×Nat:=match l.findIdx? p with
 |some k=>(l,k)
 |none=>(l++[d],l.length)
theorem bF6 {α:Type} {l:List α} {k:Nat} {x:α} (h:l[k]?=some x):l.take (k+1)=l.take k++[x]:=by
 rw [List.take_add_one,h]; rfl
theorem aW2 (z:List (Hd×List AV×List (List AV))) (x:Hd×List AV×List (List AV)):p8 (z++[x])=p8 z++[x.2.1++[.con x.1.v]]:=by simp [p8]
theorem a01 (z:List (Hd×List AV×List (List AV))) (x:Hd×List AV×List (List AV)):J9 (z++[x])=J9 z++[(x.1,x.2.2)]:=by simp [J9]
theorem a13 {z:List (Hd×List AV×List (List AV))} {α:Type} {l:List α} {f:α→List AV×List (List AV)} (h:z.map (·.2)=l.map f):z.length=l.length:=by
 have:=congrArg List.length h
 simpa using this
def ixf {α:Type} (p:α→Bool) (l:List α):Int:=match l.findIdx? p with
 |some i=>i
 |none=>-1
theorem aD7 {α:Type} (p:α→Bool) (x:α) (l:List α):(x::l).findIdx? p=if p x=true then some 0 else (l.findIdx? p).map (·+1):=by
 rw [List.findIdx?_cons]
theorem aT1 {α:Type} (p:α→Bool) (l:List α):(∃(k:Nat) (x:α),ixf p l=(k:Int)∧l[k]?=some x∧p x=true∧l.findIdx? p=some k)∨(ixf p l=-1∧l.findIdx? p=none):=by
 unfold ixf
 cases h:l.findIdx? p with
 |none=>exact .inr ⟨rfl,rfl⟩
 |some k =>
  obtain ⟨hk,hp,_⟩:=List.findIdx?_eq_some_iff_getElem.1 h
  exact .inl ⟨k,l[k],rfl,List.getElem?_eq_getElem hk,hp,rfl⟩
theorem List.getElem_cons_eraseIdx_perm' {α:Type}:∀{l:List α} {n:Nat} (h:n < l.length),(l[n]::l.eraseIdx n).Perm l
 |x::l,0,_=>.refl _
 |x::l,n+1,h=>by
  have ih:=List.getElem_cons_eraseIdx_perm' (l:=l) (n:=n) (by simpa using h)
  exact (List.Perm.swap x _ _).trans (ih.cons x)
theorem bB6 {α:Type} {l:List α} {k:Nat} {x:α} (h:l[k]?=some x) {f:α→α}:l.modify k f=l.set k (f x):=by
 apply List.ext_getElem?
 intro j
 rw [List.getElem?_modify,List.getElem?_set]
 split
 ·rename_i e
  subst e
  rw [h,if_pos (List.getElem?_eq_some_iff.1 h).1]
  rfl
 ·cases l[j]?<;>rfl
theorem set_perm {α:Type}:∀{l:List α} {k:Nat} {a:α},k < l.length→(l.set k a).Perm (a::l.eraseIdx k)
 |x::l,0,a,_=>.refl _
 |x::l,k+1,a,h=>((set_perm (l:=l) (k:=k) (a:=a) (by simpa using h)).cons x).trans (List.Perm.swap _ _ _)
theorem bP4 {α β:Type} {z:List (Hd×β)} {l:List α} {f:α→β} (h:z.map (·.2)=l.map f) {k:Nat} {x:α} (hx:l[k]?=some x):∃g,z[k]?=some (g,f x):=by
 have:(z.map (·.2))[k]?=some (f x):=by rw [h]; simp [hx]
 rw [List.getElem?_map,Option.map_eq_some_iff] at this
 obtain ⟨⟨g,b⟩,h1,h2⟩:=this
 exact ⟨g,by rw [h1,←h2]⟩
end Go.Proofs.Ytahmeibkdhbngaa
