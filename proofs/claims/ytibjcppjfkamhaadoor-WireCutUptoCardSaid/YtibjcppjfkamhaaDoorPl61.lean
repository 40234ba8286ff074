import Derived.Test.YtibjcppjfkamhaaDoorPl60
import Derived.Lib.IndexMore
/- Plain laws: texts are read. No program in sight. -/
namespace Go.Proofs.YtibjcppjfkamhaaDoor
open Go.RowKit
set_option linter.unusedVariables false
def aJ3 : BL→Option (BL×BL)
 |[]=>none
 |b::r=>if b=32 then some ([],r) else (aJ3 r).map fun p=>(b::p.1,p.2)
theorem index_one (t:BL):(aJ3 t=none∧Lib.index t [32]=-1)∨∃w r,aJ3 t=some (w,r)∧Lib.index t [32]=(w.length:Int)∧t=w++32::r∧(32:UInt8) ∉ w:=by
 induction t with
 |nil=>exact .inl ⟨rfl,rfl⟩
 |cons b t ih =>
  by_cases hb:b=32
  ·subst hb
   exact .inr ⟨[],t,by simp [aJ3],by simp [Lib.index],rfl,by simp⟩
  ·have hp:([32]:BL).isPrefixOf (b::t)=false:=by simp [List.isPrefixOf]; exact fun e=>hb e.symm
   rcases ih with ⟨h1,h2⟩|⟨w,r,h1,h2,h3,h4⟩
   ·exact .inl ⟨by simp [aJ3,hb,h1],by simp [Lib.index,hp,h2]⟩
   ·refine .inr ⟨b::w,r,by simp [aJ3,hb,h1],?_,by rw [h3]; rfl,by simp [h4,Ne.symm hb]⟩
    have hne:¬((w.length:Int) == -1)=true:=by simp
    simp only [Lib.index,hp,h2,List.length_cons]
    rw [if_neg (by simp),if_neg hne]
    omega
theorem bJ0 {t w r:BL} (h:aJ3 t=some (w,r)):t=w++32::r∧(32:UInt8) ∉ w:=by
 rcases index_one t with ⟨h1,_⟩|⟨w',r',h1,_,h3,h4⟩
 ·rw [h1] at h; cases h
 ·rw [h1] at h; cases h; exact ⟨h3,h4⟩
theorem cA7 {w:BL} (r:BL) (h:(32:UInt8) ∉ w):aJ3 (w++32::r)=some (w,r):=by
 induction w with
 |nil=>simp [aJ3]
 |cons b w ih =>
  have hb:b≠32:=fun e=>h (by simp [e])
  simp [aJ3,hb,ih (fun e=>h (by simp [e]))]
theorem cI2 (t:BL):Lib.cut t [32]=match aJ3 t with
  |some (w,r)=>(w,r,true)
  |none=>(t,[],false):=by
 unfold Lib.cut
 rcases index_one t with ⟨h1,h2⟩|⟨w,r,h1,h2,h3,h4⟩
 ·rw [h1,h2]; rfl
 ·rw [h1,h2,if_pos (by omega)]
  simp only [Int.toNat_natCast,List.length_singleton]
  subst h3
  simp
def pw (t:BL):Option (ByteArray×BL):=match aJ3 t with
 |some (w,r)=>if w=[] then none else some (⟨w.toArray⟩,r)
 |none=>none
def WrW (s:ByteArray):Prop:=s.data.toList≠[]∧(32:UInt8) ∉ s.data.toList
theorem aU5 {t:BL} {s:ByteArray} {r:BL} (h:pw t=some (s,r)):t=wdT s++r∧WrW s:=by
 unfold pw at h
 split at h
 ·rename_i w r' hc
  split at h
  ·cases h
  ·rename_i hw
   cases h
   obtain ⟨h1,h2⟩:=bJ0 hc
   exact ⟨by rw [h1]; simp [wdT],hw,h2⟩
 ·cases h
theorem aY6 {s:ByteArray} (r:BL) (h:WrW s):pw (wdT s++r)=some (s,r):=by
 have e:wdT s++r=s.data.toList++32::r:=by simp [wdT]
 unfold pw
 rw [e,cA7 r h.2]
 simp only [h.1,if_false]
def pn (t:BL):Option (Int×BL):=(pw t).bind fun p=>match Lib.atoiAll p.1.data.toList with
 |.ok n=>if Lib.itoa n=p.1.data.toList then some (n,p.2) else none
 |_=>none
theorem Y3 {t:BL} {n:Int} {r:BL} (h:pn t=some (n,r)):t=nmT n++r∧z8 n:=by
 unfold pn at h
 cases hp:pw t with
 |none=>rw [hp] at h; cases h
 |some p =>
  rw [hp] at h
  simp only [Option.bind_some] at h
  split at h
  ·rename_i m hm
   split at h
   ·rename_i he
    cases h
    have:=(aU5 (s:=p.1) (r:=p.2) hp).1
    exact ⟨by rw [this,wdT,←he]; rfl,Lib.atoiAll_bounds hm⟩
   ·cases h
  ·cases h
theorem aB2 {n:Int} (r:BL) (h:z8 n):pn (nmT n++r)=some (n,r):=by
 have hw:WrW ⟨(Lib.itoa n).toArray⟩:=b56 n
 have e:nmT n=wdT ⟨(Lib.itoa n).toArray⟩:=rfl
 unfold pn
 rw [e,aY6 r hw]
 simp only [Option.bind_some]
 rw [b35 h]
 simp
def pc (most:Int) (t:BL):Option (Int×BL):=(pn t).bind fun p=>if p.1 < 0∨most < p.1 then none else some p
def aC8 {α:Type} (p:BL→Option (α×BL)):Nat→BL→Option (List α×BL)
 |0,t=>some ([],t)
 |n+1,t=>(p t).bind fun x=>(aC8 p n x.2).bind fun l=>some (x.1::l.1,l.2)
def bI6 (t:BL):Option (Ins×BL):=(pn t).bind fun a=>(pn a.2).bind fun b=>if a.1=14 then (pw b.2).bind fun s=>some (⟨a.1,b.1,0,0,s.1⟩,s.2) else some (⟨a.1,b.1,0,0,ByteArray.empty⟩,b.2)
def pMe (t:BL):Option (Me×BL):=(pw t).bind fun s=>(pn s.2).bind fun a=>(pn a.2).bind fun b=>(pn b.2).bind fun c=>(pc 60 c.2).bind fun n=>(aC8 bI6 n.1.toNat n.2).bind fun l=>some (⟨s.1,a.1,b.1,c.1,l.1⟩,l.2)
def pCl (t:BL):Option (Cl×BL):=(pw t).bind fun s=>(pn s.2).bind fun a=>(pn a.2).bind fun b=>(pc 8 b.2).bind fun n=>(aC8 pMe n.1.toNat n.2).bind fun l=>some (⟨s.1,a.1,b.1,l.1⟩,l.2)
def pV (t:BL):Option (V×BL):=(pn t).bind fun a=>(pn a.2).bind fun b=>some (⟨a.1,b.1⟩,b.2)
def pOb (t:BL):Option (Ob×BL):=(pn t).bind fun a=>(pc 6 a.2).bind fun n=>(aC8 pV n.1.toNat n.2).bind fun l=>some (⟨a.1,l.1⟩,l.2)
def pWo (t:BL):Option (Wd×BL):=(pn t).bind fun e=>(pc 12 e.2).bind fun n=>(aC8 pCl n.1.toNat n.2).bind fun l=>(pc 60 l.2).bind fun m=>(aC8 pOb m.1.toNat m.2).bind fun h=>some (⟨l.1,h.1,e.1⟩,h.2)
structure y8 {α:Type} (tx:α→BL) (p:BL→Option (α×BL)) (W:α→Prop):Prop where
 there:∀x r,W x→p (tx x++r)=some (x,r)
 back:∀t x r,p t=some (x,r)→t=tx x++r∧W x
theorem y8.word : y8 wdT pw WrW:=⟨fun x r h=>aY6 r h,fun t x r h=>aU5 h⟩
theorem y8.num : y8 nmT pn z8:=⟨fun x r h=>aB2 r h,fun t x r h=>Y3 h⟩
theorem y8.count (most:Int):y8 nmT (pc most) fun n=>z8 n∧0≤n∧n≤most:=by
 refine ⟨fun n r h=>?_,fun t n r h=>?_⟩
 ·unfold pc
  rw [aB2 r h.1]
  simp only [Option.bind_some]
  rw [if_neg (by omega)]
 ·unfold pc at h
  cases hp:pn t with
  |none=>rw [hp] at h; cases h
  |some p =>
   rw [hp] at h
   simp only [Option.bind_some] at h
   split at h
   ·cases h
   ·cases h
    obtain ⟨h1,h2⟩:=Y3 hp
    exact ⟨h1,h2,by omega,by omega⟩
theorem y8.rep {α:Type} {tx:α→BL} {p:BL→Option (α×BL)} {W:α→Prop} (h:y8 tx p W):∀n:Nat,y8 (fun l=>(l.map tx).flatten) (aC8 p n) fun l=>l.length=n∧∀x∈l,W x
 |0=>⟨fun l r hl=>by
   have:l=[]:=List.eq_nil_of_length_eq_zero hl.1
   subst this
   rfl,fun t l r hl=>by cases hl; exact ⟨rfl,rfl,by simp⟩⟩
 |n+1=>by
  have ih:=y8.rep h n
  refine ⟨fun l r hl=>?_,fun t l r hl=>?_⟩
  ·cases l with
   |nil=>simp at hl
   |cons x l =>
    simp only [List.map_cons,List.flatten_cons,List.append_assoc,aC8]
    rw [h.there x _ (hl.2 x (by simp))]
    simp only [Option.bind_some]
    rw [ih.there l r ⟨by simpa using hl.1,fun y hy=>hl.2 y (by simp [hy])⟩]
    rfl
  ·simp only [aC8,Option.bind_eq_some_iff] at hl
   obtain ⟨x,hx,m,hm,e⟩:=hl
   cases e
   obtain ⟨h1,h2⟩:=h.back t x.1 x.2 hx
   obtain ⟨h3,h4,h5⟩:=ih.back x.2 m.1 m.2 hm
   refine ⟨by rw [h1,h3]; simp,by simp [h4],fun y hy=>?_⟩
   rcases List.mem_cons.1 hy with rfl|hy
   ·exact h2
   ·exact h5 y hy
def cD1 (i:Ins):Prop:=z8 i.op∧z8 i.a∧i.b=0∧i.c=0∧(i.op=14→WrW i.name)∧(i.op≠14→i.name=ByteArray.empty)
def b92 (m:Me):Prop:=WrW m.name∧z8 m.args∧z8 m.temps∧z8 m.prim∧m.code.length≤60∧∀i∈m.code,cD1 i
def cJ3 (c:Cl):Prop:=WrW c.name∧z8 c.super∧z8 c.slots∧c.methods.length≤8∧∀m∈c.methods,b92 m
def WrV (v:V):Prop:=z8 v.k∧z8 v.n
def cJ4 (o:Ob):Prop:=z8 o.cls∧o.slots.length≤6∧∀v∈o.slots,WrV v
def bH2 (w:Wd):Prop:=z8 w.epoch∧w.classes.length≤12∧w.heap.length≤60∧(∀c∈w.classes,cJ3 c)∧∀o∈w.heap,cJ4 o
theorem aE6 (a b:Int):M5 [a,b]=nmT a++nmT b:=by simp [M5]
theorem bY7 (a b c:Int):M5 [a,b,c]=nmT a++(nmT b++nmT c):=by simp [M5]
theorem bX9 (a b c d:Int):M5 [a,b,c,d]=nmT a++(nmT b++(nmT c++nmT d)):=by simp [M5]
theorem bX0 (a:Int):M5 [a]=nmT a:=by simp [M5]
theorem aS8 {n:Nat} {m:Int} (h:(n:Int)≤m) (hm:m≤1000):z8 (n:Int)∧(0:Int)≤(n:Int)∧(n:Int)≤m:=by unfold z8; omega
theorem y8.ins : y8 aA9 bI6 cD1:=by
 refine ⟨fun i r h=>?_,fun t i r h=>?_⟩
 ·obtain ⟨h1,h2,h3,h4,h5,h6⟩:=h
  obtain ⟨op,a,b,c,nm⟩:=i
  simp only at h1 h2 h3 h4 h5 h6
  subst h3 h4
  unfold aA9 bI6
  simp only [aE6,List.append_assoc]
  rw [aB2 _ h1]
  simp only [Option.bind_some]
  rw [aB2 _ h2]
  simp only [Option.bind_some]
  by_cases ho:op=14
  ·subst ho
   simp only [if_true]
   rw [aY6 r (h5 rfl)]
   rfl
  ·simp only [ho,if_false,h6 ho,List.nil_append]
 ·unfold bI6 at h
  simp only [Option.bind_eq_some_iff] at h
  obtain ⟨a,ha,b,hb,h⟩:=h
  obtain ⟨a1,a2⟩:=Y3 (n:=a.1) (r:=a.2) ha
  obtain ⟨b1,b2⟩:=Y3 (n:=b.1) (r:=b.2) hb
  split at h
  ·rename_i ho
   simp only [Option.bind_eq_some_iff] at h
   obtain ⟨s,hs,e⟩:=h
   cases e
   obtain ⟨s1,s2⟩:=aU5 (s:=s.1) (r:=s.2) hs
   refine ⟨?_,a2,b2,rfl,rfl,fun _=>s2,fun h=>absurd ho h⟩
   rw [a1,b1,s1]
   simp only [aA9,aE6,ho,if_true,List.append_assoc]
  ·rename_i ho
   cases h
   refine ⟨?_,a2,b2,rfl,rfl,fun h=>absurd h ho,fun _=>rfl⟩
   rw [a1,b1]
   simp only [aA9,aE6,ho,if_false,List.append_assoc,List.nil_append]
theorem y8.me : y8 meT pMe b92:=by
 refine ⟨fun m r h=>?_,fun t m r h=>?_⟩
 ·obtain ⟨h1,h2,h3,h4,h5,h6⟩:=h
  unfold meT pMe
  simp only [bX9,List.append_assoc]
  rw [aY6 _ h1]
  simp only [Option.bind_some]
  rw [aB2 _ h2]
  simp only [Option.bind_some]
  rw [aB2 _ h3]
  simp only [Option.bind_some]
  rw [aB2 _ h4]
  simp only [Option.bind_some]
  rw [(y8.count 60).there _ _ (aS8 (by omega) (by decide))]
  simp only [Option.bind_some,Int.toNat_natCast]
  rw [(y8.rep y8.ins m.code.length).there m.code r ⟨rfl,h6⟩]
  rfl
 ·unfold pMe at h
  simp only [Option.bind_eq_some_iff] at h
  obtain ⟨s,hs,a,ha,b,hb,c,hc,n,hn,l,hl,e⟩:=h
  cases e
  obtain ⟨s1,s2⟩:=aU5 (s:=s.1) (r:=s.2) hs
  obtain ⟨a1,a2⟩:=Y3 (n:=a.1) (r:=a.2) ha
  obtain ⟨b1,b2⟩:=Y3 (n:=b.1) (r:=b.2) hb
  obtain ⟨c1,c2⟩:=Y3 (n:=c.1) (r:=c.2) hc
  obtain ⟨n1,n2,n3,n4⟩:=(y8.count 60).back _ n.1 n.2 hn
  obtain ⟨l1,l2,l3⟩:=(y8.rep y8.ins n.1.toNat).back _ l.1 l.2 hl
  refine ⟨?_,s2,a2,b2,c2,by show l.1.length≤60; omega,l3⟩
  have e:((l.1.length:Nat):Int)=n.1:=by omega
  simp only [meT,bX9,e,List.append_assoc]
  rw [s1,a1,b1,c1,n1,l1]
theorem y8.cl : y8 clT pCl cJ3:=by
 refine ⟨fun m r h=>?_,fun t m r h=>?_⟩
 ·obtain ⟨h1,h2,h3,h5,h6⟩:=h
  unfold clT pCl
  simp only [bY7,List.append_assoc]
  rw [aY6 _ h1]
  simp only [Option.bind_some]
  rw [aB2 _ h2]
  simp only [Option.bind_some]
  rw [aB2 _ h3]
  simp only [Option.bind_some]
  rw [(y8.count 8).there _ _ (aS8 (by omega) (by decide))]
  simp only [Option.bind_some,Int.toNat_natCast]
  rw [(y8.rep y8.me m.methods.length).there m.methods r ⟨rfl,h6⟩]
  rfl
 ·unfold pCl at h
  simp only [Option.bind_eq_some_iff] at h
  obtain ⟨s,hs,a,ha,b,hb,n,hn,l,hl,e⟩:=h
  cases e
  obtain ⟨s1,s2⟩:=aU5 (s:=s.1) (r:=s.2) hs
  obtain ⟨a1,a2⟩:=Y3 (n:=a.1) (r:=a.2) ha
  obtain ⟨b1,b2⟩:=Y3 (n:=b.1) (r:=b.2) hb
  obtain ⟨n1,n2,n3,n4⟩:=(y8.count 8).back _ n.1 n.2 hn
  obtain ⟨l1,l2,l3⟩:=(y8.rep y8.me n.1.toNat).back _ l.1 l.2 hl
  refine ⟨?_,s2,a2,b2,by show l.1.length≤8; omega,l3⟩
  have e:((l.1.length:Nat):Int)=n.1:=by omega
  simp only [clT,bY7,e,List.append_assoc]
  rw [s1,a1,b1,n1,l1]
theorem y8.v : y8 vT pV WrV:=by
 refine ⟨fun v r h=>?_,fun t v r h=>?_⟩
 ·unfold vT pV
  simp only [aE6,List.append_assoc]
  rw [aB2 _ h.1]
  simp only [Option.bind_some]
  rw [aB2 _ h.2]
  rfl
 ·unfold pV at h
  simp only [Option.bind_eq_some_iff] at h
  obtain ⟨a,ha,b,hb,e⟩:=h
  cases e
  obtain ⟨a1,a2⟩:=Y3 (n:=a.1) (r:=a.2) ha
  obtain ⟨b1,b2⟩:=Y3 (n:=b.1) (r:=b.2) hb
  refine ⟨?_,a2,b2⟩
  simp only [vT,aE6,List.append_assoc]
  rw [a1,b1]
theorem y8.ob : y8 obT pOb cJ4:=by
 refine ⟨fun m r h=>?_,fun t m r h=>?_⟩
 ·obtain ⟨h1,h5,h6⟩:=h
  unfold obT pOb
  simp only [aE6,List.append_assoc]
  rw [aB2 _ h1]
  simp only [Option.bind_some]
  rw [(y8.count 6).there _ _ (aS8 (by omega) (by decide))]
  simp only [Option.bind_some,Int.toNat_natCast]
  rw [(y8.rep y8.v m.slots.length).there m.slots r ⟨rfl,h6⟩]
  rfl
 ·unfold pOb at h
  simp only [Option.bind_eq_some_iff] at h
  obtain ⟨a,ha,n,hn,l,hl,e⟩:=h
  cases e
  obtain ⟨a1,a2⟩:=Y3 (n:=a.1) (r:=a.2) ha
  obtain ⟨n1,n2,n3,n4⟩:=(y8.count 6).back _ n.1 n.2 hn
  obtain ⟨l1,l2,l3⟩:=(y8.rep y8.v n.1.toNat).back _ l.1 l.2 hl
  refine ⟨?_,a2,by show l.1.length≤6; omega,l3⟩
  have e:((l.1.length:Nat):Int)=n.1:=by omega
  simp only [obT,aE6,e,List.append_assoc]
  rw [a1,n1,l1]
theorem y8.wo : y8 Z7 pWo bH2:=by
 refine ⟨fun m r h=>?_,fun t m r h=>?_⟩
 ·obtain ⟨h1,h2,h3,h5,h6⟩:=h
  unfold Z7 pWo
  simp only [aE6,bX0,List.append_assoc]
  rw [aB2 _ h1]
  simp only [Option.bind_some]
  rw [(y8.count 12).there _ _ (aS8 (by omega) (by decide))]
  simp only [Option.bind_some,Int.toNat_natCast]
  rw [(y8.rep y8.cl m.classes.length).there m.classes _ ⟨rfl,h5⟩]
  simp only [Option.bind_some]
  rw [(y8.count 60).there _ _ (aS8 (by omega) (by decide))]
  simp only [Option.bind_some,Int.toNat_natCast]
  rw [(y8.rep y8.ob m.heap.length).there m.heap r ⟨rfl,h6⟩]
  rfl
 ·unfold pWo at h
  simp only [Option.bind_eq_some_iff] at h
  obtain ⟨a,ha,n,hn,l,hl,k,hk,o,ho,e⟩:=h
  cases e
  obtain ⟨a1,a2⟩:=Y3 (n:=a.1) (r:=a.2) ha
  obtain ⟨n1,n2,n3,n4⟩:=(y8.count 12).back _ n.1 n.2 hn
  obtain ⟨l1,l2,l3⟩:=(y8.rep y8.cl n.1.toNat).back _ l.1 l.2 hl
  obtain ⟨k1,k2,k3,k4⟩:=(y8.count 60).back _ k.1 k.2 hk
  obtain ⟨o1,o2,o3⟩:=(y8.rep y8.ob k.1.toNat).back _ o.1 o.2 ho
  refine ⟨?_,a2,by show l.1.length≤12; omega,by show o.1.length≤60; omega,l3,o3⟩
  have e:((l.1.length:Nat):Int)=n.1:=by omega
  have e2:((o.1.length:Nat):Int)=k.1:=by omega
  simp only [Z7,aE6,bX0,e,e2,List.append_assoc]
  rw [a1,n1,l1,k1,o1]
end Go.Proofs.YtibjcppjfkamhaaDoor
