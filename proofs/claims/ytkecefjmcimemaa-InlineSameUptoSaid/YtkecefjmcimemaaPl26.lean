import Derived.Test.YtkecefjmcimemaaPl19
import Derived.Test.YtkecefjmcimemaaPl23
/- Whoever stands in does the same: where things lie in fast code. No program in sight. -/
namespace Go.Proofs.Ytkecefjmcimemaa
open Go.RowKit
set_option linter.unusedVariables false
def bgn : List L8→Nat→Nat
 |_,0=>0
 |[],_+1=>0
 |x::l,p+1=>x.len+bgn l p
theorem b26 : ∀{l:List L8} {p:Nat} {x:L8},l[p]?=some x→bgn l (p+1)=bgn l p+x.len
 |[],p,x,h=>by simp at h
 |y::l,0,x,h=>by
  simp only [List.getElem?_cons_zero,Option.some.injEq] at h
  subst h
  cases l<;>simp [bgn]
 |y::l,p+1,x,h=>by
  rw [bgn,bgn,b26 (p:=p) (l:=l) (by simpa using h)]
  omega
theorem L8.len_pos (x:L8):1≤x.len:=by
 cases x with
 |pl i=>exact Nat.le_refl _
 |pc y s c p=>simp only [L8.len,M8]; omega
theorem cJ9 : ∀{l:List L8} {p q:Nat},p < q→q≤l.length→bgn l p < bgn l q
 |[],p,q,h,hq=>by simp at hq; omega
 |x::l,p,0,h,hq=>by omega
 |x::l,0,q+1,h,hq=>by
  have:=x.len_pos
  simp only [bgn]
  omega
 |x::l,p+1,q+1,h,hq=>by
  have:=cJ9 (l:=l) (p:=p) (q:=q) (by omega) (by simpa using hq)
  simp only [bgn]
  omega
theorem bZ5 : ∀(l:List L8) (b p:Nat),p < l.length→(Q0 l b)[p]?=some ((b+bgn l p:Nat):Int)
 |[],b,p,h=>by simp at h
 |x::l,b,0,h=>by simp [Q0,bgn]
 |x::l,b,p+1,h=>by
  rw [Q0,List.getElem?_cons_succ,bZ5 l (b+x.len) p (by simpa using h),bgn,Nat.add_assoc]
theorem bU3 (bs:List Int):∀(l:List L8) (b:Nat),(aG6 bs l b).length=bgn l l.length
 |[],b=>rfl
 |.pl i::l,b=>by simp [aG6,bgn,bU3 bs l (b+1),L8.len]; omega
 |.pc y s c p::l,b=>by simp [aG6,bgn,bU3 bs l (b+M8 y),L8.len,aC5]
theorem b29 (bs:List Int):∀(l:List L8) (b p:Nat) (i:Ins),l[p]?=some (.pl i)→(aG6 bs l b)[bgn l p]?=some (aU0 bs i)
 |[],b,p,i,h=>by simp at h
 |.pl j::l,b,0,i,h=>by
  simp only [List.getElem?_cons_zero,Option.some.injEq,L8.pl.injEq] at h
  subst h
  rfl
 |.pc y s c q::l,b,0,i,h=>by simp at h
 |.pl j::l,b,p+1,i,h=>by
  rw [bgn,aG6,show (L8.pl j).len+bgn l p=bgn l p+1 by simp [L8.len]; omega,List.getElem?_cons_succ]
  exact b29 bs l (b+1) p i (by simpa using h)
 |.pc y s c q::l,b,p+1,i,h=>by
  rw [bgn,aG6,List.getElem?_append_right (by simp [L8.len,aC5])]
  simp only [L8.len,aC5,Nat.add_sub_cancel_left]
  exact b29 bs l (b+M8 y) p i (by simpa using h)
theorem b07 (bs:List Int):∀(l:List L8) (b p:Nat) (y:Me) (s c q:Int),l[p]?=some (.pc y s c q)→∀r,r < M8 y→(aG6 bs l b)[bgn l p+r]?=(aC8 y s c q (b+bgn l p))[r]?
 |[],b,p,y,s,c,q,h,r,hr=>by simp at h
 |.pl j::l,b,0,y,s,c,q,h,r,hr=>by simp at h
 |.pc y' s' c' q'::l,b,0,y,s,c,q,h,r,hr=>by
  simp only [List.getElem?_cons_zero,Option.some.injEq,L8.pc.injEq] at h
  obtain ⟨rfl,rfl,rfl,rfl⟩:=h
  simp only [bgn,aG6,Nat.zero_add,Nat.add_zero]
  rw [List.getElem?_append_left (by rw [aC5]; exact hr)]
 |.pl j::l,b,p+1,y,s,c,q,h,r,hr=>by
  rw [bgn,aG6,show (L8.pl j).len+bgn l p+r=bgn l p+r+1 by simp [L8.len]; omega,List.getElem?_cons_succ,b07 bs l (b+1) p y s c q (by simpa using h) r hr]
  congr 2
  simp [L8.len]; omega
 |.pc y' s' c' q'::l,b,p+1,y,s,c,q,h,r,hr=>by
  rw [bgn,aG6,List.getElem?_append_right (by simp [L8.len,aC5]; omega)]
  simp only [L8.len,aC5]
  rw [show M8 y'+bgn l p+r - M8 y'=bgn l p+r by omega,b07 bs l (b+M8 y') p y s c q (by simpa using h) r hr]
  congr 2
  omega
theorem aN1 (w:Wd) (hL:aI1 w) (sites:List Int) (L:Nat):∀(r:List Ins) (k size:Nat) (t:Int),t≤(I8 w sites L r k size t).2
 |[],k,size,t=>Int.le_refl _
 |i::r,k,size,t=>by
  rw [I8]
  split
  ·rename_i y c hc
   obtain ⟨_,_,_,hm,_⟩:=aS4 hc
   obtain ⟨kk,xx,h1,h2⟩:=bQ3 hm
   have hy:=(hL kk xx h1 y h2).toLeafy
   have:=aN1 w hL sites L r (k+1) (size+M8 y) (t+(1+y.args+y.temps))
   have a1:=hy.args
   have a2:=hy.temps
   simp only
   omega
  ·exact aN1 w hL sites L r (k+1) (size+1) t
theorem bU7 (w:Wd) (hL:aI1 w) (sites:List Int) (L:Nat):∀(r:List Ins) (k size:Nat) (t:Int) (p:Nat) (i:Ins),r[p]?=some i→∃t' sz,t≤t' ∧
  ((aF7 w sites L (k+p) i sz t'=none∧(I8 w sites L r k size t).1[p]?=some (.pl (Q4 (k+p) i))) ∨
   ∃y c,aF7 w sites L (k+p) i sz t'=some (y,c)∧(I8 w sites L r k size t).1[p]?=some (.pc y t' c ((k+p:Nat):Int))∧t'+1+y.args+y.temps≤(I8 w sites L r k size t).2)
 |[],k,size,t,p,i,h=>by simp at h
 |j::r,k,size,t,p,i,h=>by
  rw [I8]
  cases hc:aF7 w sites L k j size t with
  |none =>
   cases p with
   |zero =>
    simp only [List.getElem?_cons_zero,Option.some.injEq] at h
    subst h
    exact ⟨t,size,Int.le_refl _,.inl ⟨hc,rfl⟩⟩
   |succ p =>
    obtain ⟨t',sz,h1,h2⟩:=bU7 w hL sites L r (k+1) (size+1) t p i (by simpa using h)
    refine ⟨t',sz,h1,?_⟩
    rw [show k+1+p=k+(p+1) by omega] at h2
    simpa using h2
  |some q =>
   obtain ⟨y,c⟩:=q
   obtain ⟨_,_,_,hm,_⟩:=aS4 hc
   obtain ⟨kk,xx,g1,g2⟩:=bQ3 hm
   have hy:=(hL kk xx g1 y g2).toLeafy
   have a1:=hy.args
   have a2:=hy.temps
   cases p with
   |zero =>
    simp only [List.getElem?_cons_zero,Option.some.injEq] at h
    subst h
    have:=aN1 w hL sites L r (k+1) (size+M8 y) (t+(1+y.args+y.temps))
    exact ⟨t,size,Int.le_refl _,.inr ⟨y,c,hc,rfl,by simp only; omega⟩⟩
   |succ p =>
    obtain ⟨t',sz,h1,h2⟩:=bU7 w hL sites L r (k+1) (size+M8 y) (t+(1+y.args+y.temps)) p i (by simpa using h)
    refine ⟨t',sz,by omega,?_⟩
    rw [show k+1+p=k+(p+1) by omega] at h2
    simpa using h2
end Go.Proofs.Ytkecefjmcimemaa
