import Derived.Test.YtibjcppjfkamhaaGreatDoorPl60
import Derived.Lib.IndexMore
/- Plain laws: texts are read. No program in sight. -/
namespace Go.Proofs.YtibjcppjfkamhaaGreatDoor
open Go.RowKit
set_option linter.unusedVariables false
def aQ6 : BL→Option (BL×BL)
 |[]=>none
 |b::r=>if b=32 then some ([],r) else (aQ6 r).map fun p=>(b::p.1,p.2)
theorem index_one (t:BL):(aQ6 t=none∧Lib.index t [32]=-1)∨∃w r,aQ6 t=some (w,r)∧Lib.index t [32]=(w.length:Int)∧t=w++32::r∧(32:UInt8) ∉ w:=by
 induction t with
 |nil=>exact .inl ⟨rfl,rfl⟩
 |cons b t ih =>
  by_cases hb:b=32
  ·subst hb
   exact .inr ⟨[],t,by simp [aQ6],by simp [Lib.index],rfl,by simp⟩
  ·have hp:([32]:BL).isPrefixOf (b::t)=false:=by simp [List.isPrefixOf]; exact fun e=>hb e.symm
   rcases ih with ⟨h1,h2⟩|⟨w,r,h1,h2,h3,h4⟩
   ·exact .inl ⟨by simp [aQ6,hb,h1],by simp [Lib.index,hp,h2]⟩
   ·refine .inr ⟨b::w,r,by simp [aQ6,hb,h1],?_,by rw [h3]; rfl,by simp [h4,Ne.symm hb]⟩
    have hne:¬((w.length:Int) == -1)=true:=by simp
    simp only [Lib.index,hp,h2,List.length_cons]
    rw [if_neg (by simp),if_neg hne]
    omega
theorem bU8 {t w r:BL} (h:aQ6 t=some (w,r)):t=w++32::r∧(32:UInt8) ∉ w:=by
 rcases index_one t with ⟨h1,_⟩|⟨w',r',h1,_,h3,h4⟩
 ·rw [h1] at h; cases h
 ·rw [h1] at h; cases h; exact ⟨h3,h4⟩
theorem cJ1 {w:BL} (r:BL) (h:(32:UInt8) ∉ w):aQ6 (w++32::r)=some (w,r):=by
 induction w with
 |nil=>simp [aQ6]
 |cons b w ih =>
  have hb:b≠32:=fun e=>h (by simp [e])
  simp [aQ6,hb,ih (fun e=>h (by simp [e]))]
theorem cU8 (t:BL):Lib.cut t [32]=match aQ6 t with
  |some (w,r)=>(w,r,true)
  |none=>(t,[],false):=by
 unfold Lib.cut
 rcases index_one t with ⟨h1,h2⟩|⟨w,r,h1,h2,h3,h4⟩
 ·rw [h1,h2]; rfl
 ·rw [h1,h2,if_pos (by omega)]
  simp only [Int.toNat_natCast,List.length_singleton]
  subst h3
  simp
def pw (t:BL):Option (ByteArray×BL):=match aQ6 t with
 |some (w,r)=>if w=[] then none else some (⟨w.toArray⟩,r)
 |none=>none
def WrW (s:ByteArray):Prop:=s.data.toList≠[]∧(32:UInt8) ∉ s.data.toList
theorem a99 {t:BL} {s:ByteArray} {r:BL} (h:pw t=some (s,r)):t=wdT s++r∧WrW s:=by
 unfold pw at h
 split at h
 ·rename_i w r' hc
  split at h
  ·cases h
  ·rename_i hw
   cases h
   obtain ⟨h1,h2⟩:=bU8 hc
   exact ⟨by rw [h1]; simp [wdT],hw,h2⟩
 ·cases h
theorem a90 {s:ByteArray} (r:BL) (h:WrW s):pw (wdT s++r)=some (s,r):=by
 have e:wdT s++r=s.data.toList++32::r:=by simp [wdT]
 unfold pw
 rw [e,cJ1 r h.2]
 simp only [h.1,if_false]
def pn (t:BL):Option (Int×BL):=(pw t).bind fun p=>match Lib.atoiAll p.1.data.toList with
 |.ok n=>if Lib.itoa n=p.1.data.toList then some (n,p.2) else none
 |_=>none
theorem aD0 {t:BL} {n:Int} {r:BL} (h:pn t=some (n,r)):t=nmT n++r∧D6 n:=by
 unfold pn at h
 cases hp:pw t with
 |none=>rw [hp] at h; cases h
 |some p =>
  rw [hp] at h
  simp only [Option.bind_some] at h
  split at h
  ·rename_i m hm
   split at h
   ·rename_i he
    cases h
    have:=(a99 (s:=p.1) (r:=p.2) hp).1
    exact ⟨by rw [this,wdT,←he]; rfl,Lib.atoiAll_bounds hm⟩
   ·cases h
  ·cases h
theorem aG3 {n:Int} (r:BL) (h:D6 n):pn (nmT n++r)=some (n,r):=by
 have hw:WrW ⟨(Lib.itoa n).toArray⟩:=bV4 n
 have e:nmT n=wdT ⟨(Lib.itoa n).toArray⟩:=rfl
 unfold pn
 rw [e,a90 r hw]
 simp only [Option.bind_some]
 rw [cF2 h]
 simp
def pc (most:Int) (t:BL):Option (Int×BL):=(pn t).bind fun p=>if p.1 < 0∨most < p.1 then none else some p
def aA4 {α:Type} (p:BL→Option (α×BL)):Nat→BL→Option (List α×BL)
 |0,t=>some ([],t)
 |n+1,t=>(p t).bind fun x=>(aA4 p n x.2).bind fun l=>some (x.1::l.1,l.2)
def bD7 (t:BL):Option (Ins×BL):=(pn t).bind fun a=>(pn a.2).bind fun b=>if a.1=14 then (pw b.2).bind fun s=>some (⟨a.1,b.1,0,0,s.1⟩,s.2) else some (⟨a.1,b.1,0,0,ByteArray.empty⟩,b.2)
def pMe (t:BL):Option (Me×BL):=(pw t).bind fun s=>(pn s.2).bind fun a=>(pn a.2).bind fun b=>(pn b.2).bind fun c=>(pc 60 c.2).bind fun n=>(aA4 bD7 n.1.toNat n.2).bind fun l=>some (⟨s.1,a.1,b.1,c.1,l.1⟩,l.2)
def pCl (t:BL):Option (Cl×BL):=(pw t).bind fun s=>(pn s.2).bind fun a=>(pn a.2).bind fun b=>(pc 8 b.2).bind fun n=>(aA4 pMe n.1.toNat n.2).bind fun l=>some (⟨s.1,a.1,b.1,l.1⟩,l.2)
def pV (t:BL):Option (V×BL):=(pn t).bind fun a=>(pn a.2).bind fun b=>some (⟨a.1,b.1⟩,b.2)
def pOb (t:BL):Option (Ob×BL):=(pn t).bind fun a=>(pc 6 a.2).bind fun n=>(aA4 pV n.1.toNat n.2).bind fun l=>some (⟨a.1,l.1⟩,l.2)
def pWo (t:BL):Option (Wd×BL):=(pn t).bind fun e=>(pc 12 e.2).bind fun n=>(aA4 pCl n.1.toNat n.2).bind fun l=>(pc 60 l.2).bind fun m=>(aA4 pOb m.1.toNat m.2).bind fun h=>some (⟨l.1,h.1,e.1⟩,h.2)
structure D9 {α:Type} (tx:α→BL) (p:BL→Option (α×BL)) (W:α→Prop):Prop where
 there:∀x r,W x→p (tx x++r)=some (x,r)
 back:∀t x r,p t=some (x,r)→t=tx x++r∧W x
theorem D9.word : D9 wdT pw WrW:=⟨fun x r h=>a90 r h,fun t x r h=>a99 h⟩
theorem D9.num : D9 nmT pn D6:=⟨fun x r h=>aG3 r h,fun t x r h=>aD0 h⟩
theorem D9.count (most:Int):D9 nmT (pc most) fun n=>D6 n∧0≤n∧n≤most:=by
 refine ⟨fun n r h=>?_,fun t n r h=>?_⟩
 ·unfold pc
  rw [aG3 r h.1]
  simp only [Option.bind_some]
  rw [if_neg (by omega)]
 ·unfold pc at h
  cases hp:pn t with
  |none=>rw [hp] at h; cases h
  |some p =>
   rw [hp] at h
   simp only [Option.bind_some] at h
   split at h
   ·cases h
   ·cases h
    obtain ⟨h1,h2⟩:=aD0 hp
    exact ⟨h1,h2,by omega,by omega⟩
theorem D9.rep {α:Type} {tx:α→BL} {p:BL→Option (α×BL)} {W:α→Prop} (h:D9 tx p W):∀n:Nat,D9 (fun l=>(l.map tx).flatten) (aA4 p n) fun l=>l.length=n∧∀x∈l,W x
 |0=>⟨fun l r hl=>by
   have:l=[]:=List.eq_nil_of_length_eq_zero hl.1
   subst this
   rfl,fun t l r hl=>by cases hl; exact ⟨rfl,rfl,by simp⟩⟩
 |n+1=>by
  have ih:=D9.rep h n
  refine ⟨fun l r hl=>?_,fun t l r hl=>?_⟩
  ·cases l with
   |nil=>simp at hl
   |cons x l =>
    simp only [List.map_cons,List.flatten_cons,List.append_assoc,aA4]
    rw [h.there x _ (hl.2 x (by simp))]
    simp only [Option.bind_some]
    rw [ih.there l r ⟨by simpa using hl.1,fun y hy=>hl.2 y (by simp [hy])⟩]
    rfl
  ·simp only [aA4,Option.bind_eq_some_iff] at hl
   obtain ⟨x,hx,m,hm,e⟩:=hl
   cases e
   obtain ⟨h1,h2⟩:=h.back t x.1 x.2 hx
   obtain ⟨h3,h4,h5⟩:=ih.back x.2 m.1 m.2 hm
   refine ⟨by rw [h1,h3]; simp,by simp [h4],fun y hy=>?_⟩
   rcases List.mem_cons.1 hy with rfl|hy
   ·exact h2
   ·exact h5 y hy
def cA2 (i:Ins):Prop:=D6 i.op∧D6 i.a∧i.b=0∧i.c=0∧(i.op=14→WrW i.name)∧(i.op≠14→i.name=ByteArray.empty)
def cO3 (m:Me):Prop:=WrW m.name∧D6 m.args∧D6 m.temps∧D6 m.prim∧m.code.length≤60∧∀i∈m.code,cA2 i
def cL4 (c:Cl):Prop:=WrW c.name∧D6 c.super∧D6 c.slots∧c.methods.length≤8∧∀m∈c.methods,cO3 m
def WrV (v:V):Prop:=D6 v.k∧D6 v.n
def cW6 (o:Ob):Prop:=D6 o.cls∧o.slots.length≤6∧∀v∈o.slots,WrV v
def bS4 (w:Wd):Prop:=D6 w.epoch∧w.classes.length≤12∧w.heap.length≤60∧(∀c∈w.classes,cL4 c)∧∀o∈w.heap,cW6 o
theorem aK8 (a b:Int):Q6 [a,b]=nmT a++nmT b:=by simp [Q6]
theorem b95 (a b c:Int):Q6 [a,b,c]=nmT a++(nmT b++nmT c):=by simp [Q6]
theorem cD2 (a b c d:Int):Q6 [a,b,c,d]=nmT a++(nmT b++(nmT c++nmT d)):=by simp [Q6]
theorem cE1 (a:Int):Q6 [a]=nmT a:=by simp [Q6]
theorem a94 {n:Nat} {m:Int} (h:(n:Int)≤m) (hm:m≤1000):D6 (n:Int)∧(0:Int)≤(n:Int)∧(n:Int)≤m:=by unfold D6; omega
theorem D9.ins : D9 aE4 bD7 cA2:=by
 refine ⟨fun i r h=>?_,fun t i r h=>?_⟩
 ·obtain ⟨h1,h2,h3,h4,h5,h6⟩:=h
  obtain ⟨op,a,b,c,nm⟩:=i
  simp only at h1 h2 h3 h4 h5 h6
  subst h3 h4
  unfold aE4 bD7
  simp only [aK8,List.append_assoc]
  rw [aG3 _ h1]
  simp only [Option.bind_some]
  rw [aG3 _ h2]
  simp only [Option.bind_some]
  by_cases ho:op=14
  ·subst ho
   simp only [if_true]
   rw [a90 r (h5 rfl)]
   rfl
  ·simp only [ho,if_false,h6 ho,List.nil_append]
 ·unfold bD7 at h
  simp only [Option.bind_eq_some_iff] at h
  obtain ⟨a,ha,b,hb,h⟩:=h
  obtain ⟨a1,a2⟩:=aD0 (n:=a.1) (r:=a.2) ha
  obtain ⟨b1,b2⟩:=aD0 (n:=b.1) (r:=b.2) hb
  split at h
  ·rename_i ho
   simp only [Option.bind_eq_some_iff] at h
   obtain ⟨s,hs,e⟩:=h
   cases e
   obtain ⟨s1,s2⟩:=a99 (s:=s.1) (r:=s.2) hs
   refine ⟨?_,a2,b2,rfl,rfl,fun _=>s2,fun h=>absurd ho h⟩
   rw [a1,b1,s1]
   simp only [aE4,aK8,ho,if_true,List.append_assoc]
  ·rename_i ho
   cases h
   refine ⟨?_,a2,b2,rfl,rfl,fun h=>absurd h ho,fun _=>rfl⟩
   rw [a1,b1]
   simp only [aE4,aK8,ho,if_false,List.append_assoc,List.nil_append]
theorem D9.me : D9 meT pMe cO3:=by
 refine ⟨fun m r h=>?_,fun t m r h=>?_⟩
 ·obtain ⟨h1,h2,h3,h4,h5,h6⟩:=h
  unfold meT pMe
  simp only [cD2,List.append_assoc]
  rw [a90 _ h1]
  simp only [Option.bind_some]
  rw [aG3 _ h2]
  simp only [Option.bind_some]
  rw [aG3 _ h3]
  simp only [Option.bind_some]
  rw [aG3 _ h4]
  simp only [Option.bind_some]
  rw [(D9.count 60).there _ _ (a94 (by omega) (by decide))]
  simp only [Option.bind_some,Int.toNat_natCast]
  rw [(D9.rep D9.ins m.code.length).there m.code r ⟨rfl,h6⟩]
  rfl
 ·unfold pMe at h
  simp only [Option.bind_eq_some_iff] at h
  obtain ⟨s,hs,a,ha,b,hb,c,hc,n,hn,l,hl,e⟩:=h
  cases e
  obtain ⟨s1,s2⟩:=a99 (s:=s.1) (r:=s.2) hs
  obtain ⟨a1,a2⟩:=aD0 (n:=a.1) (r:=a.2) ha
  obtain ⟨b1,b2⟩:=aD0 (n:=b.1) (r:=b.2) hb
  obtain ⟨c1,c2⟩:=aD0 (n:=c.1) (r:=c.2) hc
  obtain ⟨n1,n2,n3,n4⟩:=(D9.count 60).back _ n.1 n.2 hn
  obtain ⟨l1,l2,l3⟩:=(D9.rep D9.ins n.1.toNat).back _ l.1 l.2 hl
  refine ⟨?_,s2,a2,b2,c2,by show l.1.length≤60; omega,l3⟩
  have e:((l.1.length:Nat):Int)=n.1:=by omega
  simp only [meT,cD2,e,List.append_assoc]
  rw [s1,a1,b1,c1,n1,l1]
theorem D9.cl : D9 clT pCl cL4:=by
 refine ⟨fun m r h=>?_,fun t m r h=>?_⟩
 ·obtain ⟨h1,h2,h3,h5,h6⟩:=h
  unfold clT pCl
  simp only [b95,List.append_assoc]
  rw [a90 _ h1]
  simp only [Option.bind_some]
  rw [aG3 _ h2]
  simp only [Option.bind_some]
  rw [aG3 _ h3]
  simp only [Option.bind_some]
  rw [(D9.count 8).there _ _ (a94 (by omega) (by decide))]
  simp only [Option.bind_some,Int.toNat_natCast]
  rw [(D9.rep D9.me m.methods.length).there m.methods r ⟨rfl,h6⟩]
  rfl
 ·unfold pCl at h
  simp only [Option.bind_eq_some_iff] at h
  obtain ⟨s,hs,a,ha,b,hb,n,hn,l,hl,e⟩:=h
  cases e
  obtain ⟨s1,s2⟩:=a99 (s:=s.1) (r:=s.2) hs
  obtain ⟨a1,a2⟩:=aD0 (n:=a.1) (r:=a.2) ha
  obtain ⟨b1,b2⟩:=aD0 (n:=b.1) (r:=b.2) hb
  obtain ⟨n1,n2,n3,n4⟩:=(D9.count 8).back _ n.1 n.2 hn
  obtain ⟨l1,l2,l3⟩:=(D9.rep D9.me n.1.toNat).back _ l.1 l.2 hl
  refine ⟨?_,s2,a2,b2,by show l.1.length≤8; omega,l3⟩
  have e:((l.1.length:Nat):Int)=n.1:=by omega
  simp only [clT,b95,e,List.append_assoc]
  rw [s1,a1,b1,n1,l1]
theorem D9.v : D9 vT pV WrV:=by
 refine ⟨fun v r h=>?_,fun t v r h=>?_⟩
 ·unfold vT pV
  simp only [aK8,List.append_assoc]
  rw [aG3 _ h.1]
  simp only [Option.bind_some]
  rw [aG3 _ h.2]
  rfl
 ·unfold pV at h
  simp only [Option.bind_eq_some_iff] at h
  obtain ⟨a,ha,b,hb,e⟩:=h
  cases e
  obtain ⟨a1,a2⟩:=aD0 (n:=a.1) (r:=a.2) ha
  obtain ⟨b1,b2⟩:=aD0 (n:=b.1) (r:=b.2) hb
  refine ⟨?_,a2,b2⟩
  simp only [vT,aK8,List.append_assoc]
  rw [a1,b1]
theorem D9.ob : D9 obT pOb cW6:=by
 refine ⟨fun m r h=>?_,fun t m r h=>?_⟩
 ·obtain ⟨h1,h5,h6⟩:=h
  unfold obT pOb
  simp only [aK8,List.append_assoc]
  rw [aG3 _ h1]
  simp only [Option.bind_some]
  rw [(D9.count 6).there _ _ (a94 (by omega) (by decide))]
  simp only [Option.bind_some,Int.toNat_natCast]
  rw [(D9.rep D9.v m.slots.length).there m.slots r ⟨rfl,h6⟩]
  rfl
 ·unfold pOb at h
  simp only [Option.bind_eq_some_iff] at h
  obtain ⟨a,ha,n,hn,l,hl,e⟩:=h
  cases e
  obtain ⟨a1,a2⟩:=aD0 (n:=a.1) (r:=a.2) ha
  obtain ⟨n1,n2,n3,n4⟩:=(D9.count 6).back _ n.1 n.2 hn
  obtain ⟨l1,l2,l3⟩:=(D9.rep D9.v n.1.toNat).back _ l.1 l.2 hl
  refine ⟨?_,a2,by show l.1.length≤6; omega,l3⟩
  have e:((l.1.length:Nat):Int)=n.1:=by omega
  simp only [obT,aK8,e,List.append_assoc]
  rw [a1,n1,l1]
theorem D9.wo : D9 woT pWo bS4:=by
 refine ⟨fun m r h=>?_,fun t m r h=>?_⟩
 ·obtain ⟨h1,h2,h3,h5,h6⟩:=h
  unfold woT pWo
  simp only [aK8,cE1,List.append_assoc]
  rw [aG3 _ h1]
  simp only [Option.bind_some]
  rw [(D9.count 12).there _ _ (a94 (by omega) (by decide))]
  simp only [Option.bind_some,Int.toNat_natCast]
  rw [(D9.rep D9.cl m.classes.length).there m.classes _ ⟨rfl,h5⟩]
  simp only [Option.bind_some]
  rw [(D9.count 60).there _ _ (a94 (by omega) (by decide))]
  simp only [Option.bind_some,Int.toNat_natCast]
  rw [(D9.rep D9.ob m.heap.length).there m.heap r ⟨rfl,h6⟩]
  rfl
 ·unfold pWo at h
  simp only [Option.bind_eq_some_iff] at h
  obtain ⟨a,ha,n,hn,l,hl,k,hk,o,ho,e⟩:=h
  cases e
  obtain ⟨a1,a2⟩:=aD0 (n:=a.1) (r:=a.2) ha
  obtain ⟨n1,n2,n3,n4⟩:=(D9.count 12).back _ n.1 n.2 hn
  obtain ⟨l1,l2,l3⟩:=(D9.rep D9.cl n.1.toNat).back _ l.1 l.2 hl
  obtain ⟨k1,k2,k3,k4⟩:=(D9.count 60).back _ k.1 k.2 hk
  obtain ⟨o1,o2,o3⟩:=(D9.rep D9.ob k.1.toNat).back _ o.1 o.2 ho
  refine ⟨?_,a2,by show l.1.length≤12; omega,by show o.1.length≤60; omega,l3,o3⟩
  have e:((l.1.length:Nat):Int)=n.1:=by omega
  have e2:((o.1.length:Nat):Int)=k.1:=by omega
  simp only [woT,aK8,cE1,e,e2,List.append_assoc]
  rw [a1,n1,l1,k1,o1]
end Go.Proofs.YtibjcppjfkamhaaGreatDoor
