import Derived.Test.YtkecefjmcimemaaPl19
import Derived.Test.YtkecefjmcimemaaPl23
/- Whoever stands in does the same: where things lie in fast code. No program in sight. -/
namespace Go.Proofs.Ytkecefjmcimemaa
open Go.RowKit
set_option linter.unusedVariables false
def Y9 : List L8→Nat→Nat
 |_,0=>0
 |[],_+1=>0
 |x::l,p+1=>x.len+Y9 l p
theorem b54 : ∀{l:List L8} {p:Nat} {x:L8},l[p]?=some x→Y9 l (p+1)=Y9 l p+x.len
 |[],p,x,h=>by simp at h
 |y::l,0,x,h=>by
  simp only [List.getElem?_cons_zero,Option.some.injEq] at h
  subst h
  cases l<;>simp [Y9]
 |y::l,p+1,x,h=>by
  rw [Y9,Y9,b54 (p:=p) (l:=l) (by simpa using h)]
  omega
theorem L8.len_pos (x:L8):1≤x.len:=by
 cases x with
 |pl i=>exact Nat.le_refl _
 |pc y s c p=>simp only [L8.len,M7]; omega
theorem cL7 : ∀{l:List L8} {p q:Nat},p < q→q≤l.length→Y9 l p < Y9 l q
 |[],p,q,h,hq=>by simp at hq; omega
 |x::l,p,0,h,hq=>by omega
 |x::l,0,q+1,h,hq=>by
  have:=x.len_pos
  simp only [Y9]
  omega
 |x::l,p+1,q+1,h,hq=>by
  have:=cL7 (l:=l) (p:=p) (q:=q) (by omega) (by simpa using hq)
  simp only [Y9]
  omega
theorem b25 : ∀(l:List L8) (b p:Nat),p < l.length→(P8 l b)[p]?=some ((b+Y9 l p:Nat):Int)
 |[],b,p,h=>by simp at h
 |x::l,b,0,h=>by simp [P8,Y9]
 |x::l,b,p+1,h=>by
  rw [P8,List.getElem?_cons_succ,b25 l (b+x.len) p (by simpa using h),Y9,Nat.add_assoc]
theorem bX4 (bs:List Int):∀(l:List L8) (b:Nat),(aG2 bs l b).length=Y9 l l.length
 |[],b=>rfl
 |.pl i::l,b=>by simp [aG2,Y9,bX4 bs l (b+1),L8.len]; omega
 |.pc y s c p::l,b=>by simp [aG2,Y9,bX4 bs l (b+M7 y),L8.len,aC2]
theorem b40 (bs:List Int):∀(l:List L8) (b p:Nat) (i:Ins),l[p]?=some (.pl i)→(aG2 bs l b)[Y9 l p]?=some (aV2 bs i)
 |[],b,p,i,h=>by simp at h
 |.pl j::l,b,0,i,h=>by
  simp only [List.getElem?_cons_zero,Option.some.injEq,L8.pl.injEq] at h
  subst h
  rfl
 |.pc y s c q::l,b,0,i,h=>by simp at h
 |.pl j::l,b,p+1,i,h=>by
  rw [Y9,aG2,show (L8.pl j).len+Y9 l p=Y9 l p+1 by simp [L8.len]; omega,List.getElem?_cons_succ]
  exact b40 bs l (b+1) p i (by simpa using h)
 |.pc y s c q::l,b,p+1,i,h=>by
  rw [Y9,aG2,List.getElem?_append_right (by simp [L8.len,aC2])]
  simp only [L8.len,aC2,Nat.add_sub_cancel_left]
  exact b40 bs l (b+M7 y) p i (by simpa using h)
theorem b53 (bs:List Int):∀(l:List L8) (b p:Nat) (y:Me) (s c q:Int),l[p]?=some (.pc y s c q)→∀r,r < M7 y→(aG2 bs l b)[Y9 l p+r]?=(aC8 y s c q (b+Y9 l p))[r]?
 |[],b,p,y,s,c,q,h,r,hr=>by simp at h
 |.pl j::l,b,0,y,s,c,q,h,r,hr=>by simp at h
 |.pc y' s' c' q'::l,b,0,y,s,c,q,h,r,hr=>by
  simp only [List.getElem?_cons_zero,Option.some.injEq,L8.pc.injEq] at h
  obtain ⟨rfl,rfl,rfl,rfl⟩:=h
  simp only [Y9,aG2,Nat.zero_add,Nat.add_zero]
  rw [List.getElem?_append_left (by rw [aC2]; exact hr)]
 |.pl j::l,b,p+1,y,s,c,q,h,r,hr=>by
  rw [Y9,aG2,show (L8.pl j).len+Y9 l p+r=Y9 l p+r+1 by simp [L8.len]; omega,List.getElem?_cons_succ,b53 bs l (b+1) p y s c q (by simpa using h) r hr]
  congr 2
  simp [L8.len]; omega
 |.pc y' s' c' q'::l,b,p+1,y,s,c,q,h,r,hr=>by
  rw [Y9,aG2,List.getElem?_append_right (by simp [L8.len,aC2]; omega)]
  simp only [L8.len,aC2]
  rw [show M7 y'+Y9 l p+r - M7 y'=Y9 l p+r by omega,b53 bs l (b+M7 y') p y s c q (by simpa using h) r hr]
  congr 2
  omega
theorem aN0 (w:Wd) (hL:aH3 w) (sites:List Int) (L:Nat):∀(r:List Ins) (k size:Nat) (t:Int),t≤(I9 w sites L r k size t).2
 |[],k,size,t=>Int.le_refl _
 |i::r,k,size,t=>by
  rw [I9]
  split
  ·rename_i y c hc
   obtain ⟨_,_,_,hm,_⟩:=aT8 hc
   obtain ⟨kk,xx,h1,h2⟩:=bQ4 hm
   have hy:=(hL kk xx h1 y h2).toLeafy
   have:=aN0 w hL sites L r (k+1) (size+M7 y) (t+(1+y.args+y.temps))
   have a1:=hy.args
   have a2:=hy.temps
   simp only
   omega
  ·exact aN0 w hL sites L r (k+1) (size+1) t
theorem bX8 (w:Wd) (hL:aH3 w) (sites:List Int) (L:Nat):∀(r:List Ins) (k size:Nat) (t:Int) (p:Nat) (i:Ins),r[p]?=some i→∃t' sz,t≤t' ∧
  ((aE8 w sites L (k+p) i sz t'=none∧(I9 w sites L r k size t).1[p]?=some (.pl (Q0 (k+p) i))) ∨
   ∃y c,aE8 w sites L (k+p) i sz t'=some (y,c)∧(I9 w sites L r k size t).1[p]?=some (.pc y t' c ((k+p:Nat):Int))∧t'+1+y.args+y.temps≤(I9 w sites L r k size t).2)
 |[],k,size,t,p,i,h=>by simp at h
 |j::r,k,size,t,p,i,h=>by
  rw [I9]
  cases hc:aE8 w sites L k j size t with
  |none =>
   cases p with
   |zero =>
    simp only [List.getElem?_cons_zero,Option.some.injEq] at h
    subst h
    exact ⟨t,size,Int.le_refl _,.inl ⟨hc,rfl⟩⟩
   |succ p =>
    obtain ⟨t',sz,h1,h2⟩:=bX8 w hL sites L r (k+1) (size+1) t p i (by simpa using h)
    refine ⟨t',sz,h1,?_⟩
    rw [show k+1+p=k+(p+1) by omega] at h2
    simpa using h2
  |some q =>
   obtain ⟨y,c⟩:=q
   obtain ⟨_,_,_,hm,_⟩:=aT8 hc
   obtain ⟨kk,xx,g1,g2⟩:=bQ4 hm
   have hy:=(hL kk xx g1 y g2).toLeafy
   have a1:=hy.args
   have a2:=hy.temps
   cases p with
   |zero =>
    simp only [List.getElem?_cons_zero,Option.some.injEq] at h
    subst h
    have:=aN0 w hL sites L r (k+1) (size+M7 y) (t+(1+y.args+y.temps))
    exact ⟨t,size,Int.le_refl _,.inr ⟨y,c,hc,rfl,by simp only; omega⟩⟩
   |succ p =>
    obtain ⟨t',sz,h1,h2⟩:=bX8 w hL sites L r (k+1) (size+M7 y) (t+(1+y.args+y.temps)) p i (by simpa using h)
    refine ⟨t',sz,by omega,?_⟩
    rw [show k+1+p=k+(p+1) by omega] at h2
    simpa using h2
end Go.Proofs.Ytkecefjmcimemaa
