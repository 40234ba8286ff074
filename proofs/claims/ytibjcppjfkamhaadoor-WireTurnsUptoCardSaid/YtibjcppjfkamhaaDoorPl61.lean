import Derived.Test.YtibjcppjfkamhaaDoorPl60
import Derived.Lib.IndexMore
/- Plain laws: texts are read. No program in sight. -/
namespace Go.Proofs.YtibjcppjfkamhaaDoor
open Go.RowKit
set_option linter.unusedVariables false
def aL0 : BL→Option (BL×BL)
 |[]=>none
 |b::r=>if b=32 then some ([],r) else (aL0 r).map fun p=>(b::p.1,p.2)
theorem index_one (t:BL):(aL0 t=none∧Lib.index t [32]=-1)∨∃w r,aL0 t=some (w,r)∧Lib.index t [32]=(w.length:Int)∧t=w++32::r∧(32:UInt8) ∉ w:=by
 induction t with
 |nil=>exact .inl ⟨rfl,rfl⟩
 |cons b t ih =>
  by_cases hb:b=32
  ·subst hb
   exact .inr ⟨[],t,by simp [aL0],by simp [Lib.index],rfl,by simp⟩
  ·have hp:([32]:BL).isPrefixOf (b::t)=false:=by simp [List.isPrefixOf]; exact fun e=>hb e.symm
   rcases ih with ⟨h1,h2⟩|⟨w,r,h1,h2,h3,h4⟩
   ·exact .inl ⟨by simp [aL0,hb,h1],by simp [Lib.index,hp,h2]⟩
   ·refine .inr ⟨b::w,r,by simp [aL0,hb,h1],?_,by rw [h3]; rfl,by simp [h4,Ne.symm hb]⟩
    have hne:¬((w.length:Int) == -1)=true:=by simp
    simp only [Lib.index,hp,h2,List.length_cons]
    rw [if_neg (by simp),if_neg hne]
    omega
theorem bM9 {t w r:BL} (h:aL0 t=some (w,r)):t=w++32::r∧(32:UInt8) ∉ w:=by
 rcases index_one t with ⟨h1,_⟩|⟨w',r',h1,_,h3,h4⟩
 ·rw [h1] at h; cases h
 ·rw [h1] at h; cases h; exact ⟨h3,h4⟩
theorem b99 {w:BL} (r:BL) (h:(32:UInt8) ∉ w):aL0 (w++32::r)=some (w,r):=by
 induction w with
 |nil=>simp [aL0]
 |cons b w ih =>
  have hb:b≠32:=fun e=>h (by simp [e])
  simp [aL0,hb,ih (fun e=>h (by simp [e]))]
theorem cM4 (t:BL):Lib.cut t [32]=match aL0 t with
  |some (w,r)=>(w,r,true)
  |none=>(t,[],false):=by
 unfold Lib.cut
 rcases index_one t with ⟨h1,h2⟩|⟨w,r,h1,h2,h3,h4⟩
 ·rw [h1,h2]; rfl
 ·rw [h1,h2,if_pos (by omega)]
  simp only [Int.toNat_natCast,List.length_singleton]
  subst h3
  simp
def pw (t:BL):Option (ByteArray×BL):=match aL0 t with
 |some (w,r)=>if w=[] then none else some (⟨w.toArray⟩,r)
 |none=>none
def WrW (s:ByteArray):Prop:=s.data.toList≠[]∧(32:UInt8) ∉ s.data.toList
theorem aU6 {t:BL} {s:ByteArray} {r:BL} (h:pw t=some (s,r)):t=wdT s++r∧WrW s:=by
 unfold pw at h
 split at h
 ·rename_i w r' hc
  split at h
  ·cases h
  ·rename_i hw
   cases h
   obtain ⟨h1,h2⟩:=bM9 hc
   exact ⟨by rw [h1]; simp [wdT],hw,h2⟩
 ·cases h
theorem aZ6 {s:ByteArray} (r:BL) (h:WrW s):pw (wdT s++r)=some (s,r):=by
 have e:wdT s++r=s.data.toList++32::r:=by simp [wdT]
 unfold pw
 rw [e,b99 r h.2]
 simp only [h.1,if_false]
def pn (t:BL):Option (Int×BL):=(pw t).bind fun p=>match Lib.atoiAll p.1.data.toList with
 |.ok n=>if Lib.itoa n=p.1.data.toList then some (n,p.2) else none
 |_=>none
theorem Z4 {t:BL} {n:Int} {r:BL} (h:pn t=some (n,r)):t=nmT n++r∧C8 n:=by
 unfold pn at h
 cases hp:pw t with
 |none=>rw [hp] at h; cases h
 |some p =>
  rw [hp] at h
  simp only [Option.bind_some] at h
  split at h
  ·rename_i m hm
   split at h
   ·rename_i he
    cases h
    have:=(aU6 (s:=p.1) (r:=p.2) hp).1
    exact ⟨by rw [this,wdT,←he]; rfl,Lib.atoiAll_bounds hm⟩
   ·cases h
  ·cases h
theorem aC5 {n:Int} (r:BL) (h:C8 n):pn (nmT n++r)=some (n,r):=by
 have hw:WrW ⟨(Lib.itoa n).toArray⟩:=b74 n
 have e:nmT n=wdT ⟨(Lib.itoa n).toArray⟩:=rfl
 unfold pn
 rw [e,aZ6 r hw]
 simp only [Option.bind_some]
 rw [b65 h]
 simp
def pc (most:Int) (t:BL):Option (Int×BL):=(pn t).bind fun p=>if p.1 < 0∨most < p.1 then none else some p
def aE3 {α:Type} (p:BL→Option (α×BL)):Nat→BL→Option (List α×BL)
 |0,t=>some ([],t)
 |n+1,t=>(p t).bind fun x=>(aE3 p n x.2).bind fun l=>some (x.1::l.1,l.2)
def bK6 (t:BL):Option (Ins×BL):=(pn t).bind fun a=>(pn a.2).bind fun b=>if a.1=14 then (pw b.2).bind fun s=>some (⟨a.1,b.1,0,0,s.1⟩,s.2) else some (⟨a.1,b.1,0,0,ByteArray.empty⟩,b.2)
def pMe (t:BL):Option (Me×BL):=(pw t).bind fun s=>(pn s.2).bind fun a=>(pn a.2).bind fun b=>(pn b.2).bind fun c=>(pc 60 c.2).bind fun n=>(aE3 bK6 n.1.toNat n.2).bind fun l=>some (⟨s.1,a.1,b.1,c.1,l.1⟩,l.2)
def pCl (t:BL):Option (Cl×BL):=(pw t).bind fun s=>(pn s.2).bind fun a=>(pn a.2).bind fun b=>(pc 8 b.2).bind fun n=>(aE3 pMe n.1.toNat n.2).bind fun l=>some (⟨s.1,a.1,b.1,l.1⟩,l.2)
def pV (t:BL):Option (V×BL):=(pn t).bind fun a=>(pn a.2).bind fun b=>some (⟨a.1,b.1⟩,b.2)
def pOb (t:BL):Option (Ob×BL):=(pn t).bind fun a=>(pc 6 a.2).bind fun n=>(aE3 pV n.1.toNat n.2).bind fun l=>some (⟨a.1,l.1⟩,l.2)
def pWo (t:BL):Option (Wd×BL):=(pn t).bind fun e=>(pc 12 e.2).bind fun n=>(aE3 pCl n.1.toNat n.2).bind fun l=>(pc 60 l.2).bind fun m=>(aE3 pOb m.1.toNat m.2).bind fun h=>some (⟨l.1,h.1,e.1⟩,h.2)
structure C9 {α:Type} (tx:α→BL) (p:BL→Option (α×BL)) (W:α→Prop):Prop where
 there:∀x r,W x→p (tx x++r)=some (x,r)
 back:∀t x r,p t=some (x,r)→t=tx x++r∧W x
theorem C9.word : C9 wdT pw WrW:=⟨fun x r h=>aZ6 r h,fun t x r h=>aU6 h⟩
theorem C9.num : C9 nmT pn C8:=⟨fun x r h=>aC5 r h,fun t x r h=>Z4 h⟩
theorem C9.count (most:Int):C9 nmT (pc most) fun n=>C8 n∧0≤n∧n≤most:=by
 refine ⟨fun n r h=>?_,fun t n r h=>?_⟩
 ·unfold pc
  rw [aC5 r h.1]
  simp only [Option.bind_some]
  rw [if_neg (by omega)]
 ·unfold pc at h
  cases hp:pn t with
  |none=>rw [hp] at h; cases h
  |some p =>
   rw [hp] at h
   simp only [Option.bind_some] at h
   split at h
   ·cases h
   ·cases h
    obtain ⟨h1,h2⟩:=Z4 hp
    exact ⟨h1,h2,by omega,by omega⟩
theorem C9.rep {α:Type} {tx:α→BL} {p:BL→Option (α×BL)} {W:α→Prop} (h:C9 tx p W):∀n:Nat,C9 (fun l=>(l.map tx).flatten) (aE3 p n) fun l=>l.length=n∧∀x∈l,W x
 |0=>⟨fun l r hl=>by
   have:l=[]:=List.eq_nil_of_length_eq_zero hl.1
   subst this
   rfl,fun t l r hl=>by cases hl; exact ⟨rfl,rfl,by simp⟩⟩
 |n+1=>by
  have ih:=C9.rep h n
  refine ⟨fun l r hl=>?_,fun t l r hl=>?_⟩
  ·cases l with
   |nil=>simp at hl
   |cons x l =>
    simp only [List.map_cons,List.flatten_cons,List.append_assoc,aE3]
    rw [h.there x _ (hl.2 x (by simp))]
    simp only [Option.bind_some]
    rw [ih.there l r ⟨by simpa using hl.1,fun y hy=>hl.2 y (by simp [hy])⟩]
    rfl
  ·simp only [aE3,Option.bind_eq_some_iff] at hl
   obtain ⟨x,hx,m,hm,e⟩:=hl
   cases e
   obtain ⟨h1,h2⟩:=h.back t x.1 x.2 hx
   obtain ⟨h3,h4,h5⟩:=ih.back x.2 m.1 m.2 hm
   refine ⟨by rw [h1,h3]; simp,by simp [h4],fun y hy=>?_⟩
   rcases List.mem_cons.1 hy with rfl|hy
   ·exact h2
   ·exact h5 y hy
def cG1 (i:Ins):Prop:=C8 i.op∧C8 i.a∧i.b=0∧i.c=0∧(i.op=14→WrW i.name)∧(i.op≠14→i.name=ByteArray.empty)
def cA5 (m:Me):Prop:=WrW m.name∧C8 m.args∧C8 m.temps∧C8 m.prim∧m.code.length≤60∧∀i∈m.code,cG1 i
def cL8 (c:Cl):Prop:=WrW c.name∧C8 c.super∧C8 c.slots∧c.methods.length≤8∧∀m∈c.methods,cA5 m
def WrV (v:V):Prop:=C8 v.k∧C8 v.n
def cM6 (o:Ob):Prop:=C8 o.cls∧o.slots.length≤6∧∀v∈o.slots,WrV v
def bC5 (w:Wd):Prop:=C8 w.epoch∧w.classes.length≤12∧w.heap.length≤60∧(∀c∈w.classes,cL8 c)∧∀o∈w.heap,cM6 o
theorem aG2 (a b:Int):N8 [a,b]=nmT a++nmT b:=by simp [N8]
theorem b08 (a b c:Int):N8 [a,b,c]=nmT a++(nmT b++nmT c):=by simp [N8]
theorem bZ5 (a b c d:Int):N8 [a,b,c,d]=nmT a++(nmT b++(nmT c++nmT d)):=by simp [N8]
theorem bZ7 (a:Int):N8 [a]=nmT a:=by simp [N8]
theorem aW2 {n:Nat} {m:Int} (h:(n:Int)≤m) (hm:m≤1000):C8 (n:Int)∧(0:Int)≤(n:Int)∧(n:Int)≤m:=by unfold C8; omega
theorem C9.ins : C9 aC4 bK6 cG1:=by
 refine ⟨fun i r h=>?_,fun t i r h=>?_⟩
 ·obtain ⟨h1,h2,h3,h4,h5,h6⟩:=h
  obtain ⟨op,a,b,c,nm⟩:=i
  simp only at h1 h2 h3 h4 h5 h6
  subst h3 h4
  unfold aC4 bK6
  simp only [aG2,List.append_assoc]
  rw [aC5 _ h1]
  simp only [Option.bind_some]
  rw [aC5 _ h2]
  simp only [Option.bind_some]
  by_cases ho:op=14
  ·subst ho
   simp only [if_true]
   rw [aZ6 r (h5 rfl)]
   rfl
  ·simp only [ho,if_false,h6 ho,List.nil_append]
 ·unfold bK6 at h
  simp only [Option.bind_eq_some_iff] at h
  obtain ⟨a,ha,b,hb,h⟩:=h
  obtain ⟨a1,a2⟩:=Z4 (n:=a.1) (r:=a.2) ha
  obtain ⟨b1,b2⟩:=Z4 (n:=b.1) (r:=b.2) hb
  split at h
  ·rename_i ho
   simp only [Option.bind_eq_some_iff] at h
   obtain ⟨s,hs,e⟩:=h
   cases e
   obtain ⟨s1,s2⟩:=aU6 (s:=s.1) (r:=s.2) hs
   refine ⟨?_,a2,b2,rfl,rfl,fun _=>s2,fun h=>absurd ho h⟩
   rw [a1,b1,s1]
   simp only [aC4,aG2,ho,if_true,List.append_assoc]
  ·rename_i ho
   cases h
   refine ⟨?_,a2,b2,rfl,rfl,fun h=>absurd h ho,fun _=>rfl⟩
   rw [a1,b1]
   simp only [aC4,aG2,ho,if_false,List.append_assoc,List.nil_append]
theorem C9.me : C9 meT pMe cA5:=by
 refine ⟨fun m r h=>?_,fun t m r h=>?_⟩
 ·obtain ⟨h1,h2,h3,h4,h5,h6⟩:=h
  unfold meT pMe
  simp only [bZ5,List.append_assoc]
  rw [aZ6 _ h1]
  simp only [Option.bind_some]
  rw [aC5 _ h2]
  simp only [Option.bind_some]
  rw [aC5 _ h3]
  simp only [Option.bind_some]
  rw [aC5 _ h4]
  simp only [Option.bind_some]
  rw [(C9.count 60).there _ _ (aW2 (by omega) (by decide))]
  simp only [Option.bind_some,Int.toNat_natCast]
  rw [(C9.rep C9.ins m.code.length).there m.code r ⟨rfl,h6⟩]
  rfl
 ·unfold pMe at h
  simp only [Option.bind_eq_some_iff] at h
  obtain ⟨s,hs,a,ha,b,hb,c,hc,n,hn,l,hl,e⟩:=h
  cases e
  obtain ⟨s1,s2⟩:=aU6 (s:=s.1) (r:=s.2) hs
  obtain ⟨a1,a2⟩:=Z4 (n:=a.1) (r:=a.2) ha
  obtain ⟨b1,b2⟩:=Z4 (n:=b.1) (r:=b.2) hb
  obtain ⟨c1,c2⟩:=Z4 (n:=c.1) (r:=c.2) hc
  obtain ⟨n1,n2,n3,n4⟩:=(C9.count 60).back _ n.1 n.2 hn
  obtain ⟨l1,l2,l3⟩:=(C9.rep C9.ins n.1.toNat).back _ l.1 l.2 hl
  refine ⟨?_,s2,a2,b2,c2,by show l.1.length≤60; omega,l3⟩
  have e:((l.1.length:Nat):Int)=n.1:=by omega
  simp only [meT,bZ5,e,List.append_assoc]
  rw [s1,a1,b1,c1,n1,l1]
theorem C9.cl : C9 clT pCl cL8:=by
 refine ⟨fun m r h=>?_,fun t m r h=>?_⟩
 ·obtain ⟨h1,h2,h3,h5,h6⟩:=h
  unfold clT pCl
  simp only [b08,List.append_assoc]
  rw [aZ6 _ h1]
  simp only [Option.bind_some]
  rw [aC5 _ h2]
  simp only [Option.bind_some]
  rw [aC5 _ h3]
  simp only [Option.bind_some]
  rw [(C9.count 8).there _ _ (aW2 (by omega) (by decide))]
  simp only [Option.bind_some,Int.toNat_natCast]
  rw [(C9.rep C9.me m.methods.length).there m.methods r ⟨rfl,h6⟩]
  rfl
 ·unfold pCl at h
  simp only [Option.bind_eq_some_iff] at h
  obtain ⟨s,hs,a,ha,b,hb,n,hn,l,hl,e⟩:=h
  cases e
  obtain ⟨s1,s2⟩:=aU6 (s:=s.1) (r:=s.2) hs
  obtain ⟨a1,a2⟩:=Z4 (n:=a.1) (r:=a.2) ha
  obtain ⟨b1,b2⟩:=Z4 (n:=b.1) (r:=b.2) hb
  obtain ⟨n1,n2,n3,n4⟩:=(C9.count 8).back _ n.1 n.2 hn
  obtain ⟨l1,l2,l3⟩:=(C9.rep C9.me n.1.toNat).back _ l.1 l.2 hl
  refine ⟨?_,s2,a2,b2,by show l.1.length≤8; omega,l3⟩
  have e:((l.1.length:Nat):Int)=n.1:=by omega
  simp only [clT,b08,e,List.append_assoc]
  rw [s1,a1,b1,n1,l1]
theorem C9.v : C9 vT pV WrV:=by
 refine ⟨fun v r h=>?_,fun t v r h=>?_⟩
 ·unfold vT pV
  simp only [aG2,List.append_assoc]
  rw [aC5 _ h.1]
  simp only [Option.bind_some]
  rw [aC5 _ h.2]
  rfl
 ·unfold pV at h
  simp only [Option.bind_eq_some_iff] at h
  obtain ⟨a,ha,b,hb,e⟩:=h
  cases e
  obtain ⟨a1,a2⟩:=Z4 (n:=a.1) (r:=a.2) ha
  obtain ⟨b1,b2⟩:=Z4 (n:=b.1) (r:=b.2) hb
  refine ⟨?_,a2,b2⟩
  simp only [vT,aG2,List.append_assoc]
  rw [a1,b1]
theorem C9.ob : C9 obT pOb cM6:=by
 refine ⟨fun m r h=>?_,fun t m r h=>?_⟩
 ·obtain ⟨h1,h5,h6⟩:=h
  unfold obT pOb
  simp only [aG2,List.append_assoc]
  rw [aC5 _ h1]
  simp only [Option.bind_some]
  rw [(C9.count 6).there _ _ (aW2 (by omega) (by decide))]
  simp only [Option.bind_some,Int.toNat_natCast]
  rw [(C9.rep C9.v m.slots.length).there m.slots r ⟨rfl,h6⟩]
  rfl
 ·unfold pOb at h
  simp only [Option.bind_eq_some_iff] at h
  obtain ⟨a,ha,n,hn,l,hl,e⟩:=h
  cases e
  obtain ⟨a1,a2⟩:=Z4 (n:=a.1) (r:=a.2) ha
  obtain ⟨n1,n2,n3,n4⟩:=(C9.count 6).back _ n.1 n.2 hn
  obtain ⟨l1,l2,l3⟩:=(C9.rep C9.v n.1.toNat).back _ l.1 l.2 hl
  refine ⟨?_,a2,by show l.1.length≤6; omega,l3⟩
  have e:((l.1.length:Nat):Int)=n.1:=by omega
  simp only [obT,aG2,e,List.append_assoc]
  rw [a1,n1,l1]
theorem C9.wo : C9 woT pWo bC5:=by
 refine ⟨fun m r h=>?_,fun t m r h=>?_⟩
 ·obtain ⟨h1,h2,h3,h5,h6⟩:=h
  unfold woT pWo
  simp only [aG2,bZ7,List.append_assoc]
  rw [aC5 _ h1]
  simp only [Option.bind_some]
  rw [(C9.count 12).there _ _ (aW2 (by omega) (by decide))]
  simp only [Option.bind_some,Int.toNat_natCast]
  rw [(C9.rep C9.cl m.classes.length).there m.classes _ ⟨rfl,h5⟩]
  simp only [Option.bind_some]
  rw [(C9.count 60).there _ _ (aW2 (by omega) (by decide))]
  simp only [Option.bind_some,Int.toNat_natCast]
  rw [(C9.rep C9.ob m.heap.length).there m.heap r ⟨rfl,h6⟩]
  rfl
 ·unfold pWo at h
  simp only [Option.bind_eq_some_iff] at h
  obtain ⟨a,ha,n,hn,l,hl,k,hk,o,ho,e⟩:=h
  cases e
  obtain ⟨a1,a2⟩:=Z4 (n:=a.1) (r:=a.2) ha
  obtain ⟨n1,n2,n3,n4⟩:=(C9.count 12).back _ n.1 n.2 hn
  obtain ⟨l1,l2,l3⟩:=(C9.rep C9.cl n.1.toNat).back _ l.1 l.2 hl
  obtain ⟨k1,k2,k3,k4⟩:=(C9.count 60).back _ k.1 k.2 hk
  obtain ⟨o1,o2,o3⟩:=(C9.rep C9.ob k.1.toNat).back _ o.1 o.2 ho
  refine ⟨?_,a2,by show l.1.length≤12; omega,by show o.1.length≤60; omega,l3,o3⟩
  have e:((l.1.length:Nat):Int)=n.1:=by omega
  have e2:((o.1.length:Nat):Int)=k.1:=by omega
  simp only [woT,aG2,bZ7,e,e2,List.append_assoc]
  rw [a1,n1,l1,k1,o1]
end Go.Proofs.YtibjcppjfkamhaaDoor
