import Derived.Test.YtahmeibkdhbngaaPl10
/- Plain laws of the mirrors: what a method of a right world is; fast code. No program in sight. -/
namespace Go.Proofs.Ytahmeibkdhbngaa
open Go.RowKit
set_option linter.unusedVariables false
structure MeP (N:Nat) (w:Wd) (k:Int) (m:Me):Prop where
 args:0≤m.args∧m.args≤4
 temps:0≤m.temps∧m.temps≤6
 len:m.code.length≤60
 num:∀i∈m.code,J9 N w k m i=some 0
theorem cV2 (N:Nat) (w:Wd) (k:Int) (m:Me) (f:M0) (hN:1048578≤N) (hs:w.classes.length≤1048576) (h:T9 N w k m=some f) (h0:f.err=0):MeP N w k m:=by
 unfold T9 at h
 simp only [aA7,Option.bind_some] at h
 by_cases a1:k < 0
 ·simp only [a1,decide_true,cond_true,Option.bind_some] at h; cases h; cases h0
 by_cases a2:(w.classes.length:Int)≤k
 ·simp only [a1,a2,decide_true,decide_false,cond_true,cond_false,Option.bind_some] at h; cases h; cases h0
 simp only [a1,a2,decide_false,cond_false,Option.bind_some] at h
 cases hn:aF6 m.name with
 |false=>rw [hn] at h; simp only [Bool.not_false,cond_true] at h; cases h; cases h0
 |true =>
  rw [hn] at h
  simp only [Bool.not_true,cond_false] at h
  by_cases b1:m.args < 0
  ·simp only [b1,decide_true,cond_true,Option.bind_some] at h; cases h; cases h0
  by_cases b2:4 < m.args
  ·simp only [b1,b2,decide_true,decide_false,cond_true,cond_false,Option.bind_some] at h; cases h; cases h0
  by_cases b3:m.temps < 0
  ·simp only [b1,b2,b3,decide_true,decide_false,cond_true,cond_false,Option.bind_some] at h; cases h; cases h0
  by_cases b4:6 < m.temps
  ·simp only [b1,b2,b3,b4,decide_true,decide_false,cond_true,cond_false,Option.bind_some] at h; cases h; cases h0
  simp only [b1,b2,b3,b4,decide_false,cond_false,Option.bind_some] at h
  by_cases b5:m.prim=0
  ·simp only [b5,decide_true,Bool.not_true,cond_false] at h
   by_cases b6:(m.code.length:Int)=0
   ·simp only [b6,decide_true,cond_true,Option.bind_some] at h; cases h; cases h0
   by_cases b7:(60:Int) < (m.code.length:Int)
   ·simp only [b6,b7,decide_true,decide_false,cond_true,cond_false,Option.bind_some] at h; cases h; cases h0
   simp only [b6,b7,decide_false,cond_false,Option.bind_some] at h
   obtain ⟨o,h1,h2⟩:=aJ6 N w k m hN hs m.code 0
   rw [h1] at h
   simp only [Option.bind_some] at h
   cases o with
   |next u=>exact ⟨by omega,by omega,by omega,h2 rfl⟩
   |ret r =>
    have h:some r=some f:=h
    cases h
    exfalso
    have key:∀(l:List Ins) (j:Nat) (r:M0),K5 N w k m l j=some (.ret r)→r.err≠0:=by
     intro l
     induction l with
     |nil=>intro j r h; rw [K5] at h; cases h
     |cons x l ih =>
      intro j r h
      obtain ⟨q,hq⟩:=aV1 N w k m x hN hs
      rw [K5,hq] at h
      simp only [Option.bind_some] at h
      by_cases hz:q=0
      ·simp only [hz,decide_true,Bool.not_true,cond_false] at h; exact ih _ _ h
      ·simp only [hz,decide_false,Bool.not_false,cond_true] at h; cases h; exact hz
    exact key _ _ _ h1 h0
  ·simp only [b5,decide_false,Bool.not_false,cond_true] at h; cases h; cases h0
theorem c92 {N:Nat} {w:Wd} (hN:1048578≤N) (hs:w.classes.length≤1048576) (h:aG6 N w) {k:Nat} {c:Cl} (hc:w.classes[k]?=some c) {m:Me} (hm:m∈c.methods):MeP N w (k:Int) m:=by
 rcases (h.meth k c hc).2.2.2 m hm with ⟨_,p,_,_,_,h1,h2,h3⟩|⟨f,h1,h2⟩
 ·exact ⟨by omega,by omega,by rw [h3]; simp,by rw [h3]; intro i hi; cases hi⟩
 ·exact cV2 N w k m f hN hs h1 h2
end Go.Proofs.Ytahmeibkdhbngaa
namespace Go.Proofs.Ytahmeibkdhbngaa
open Go.RowKit
set_option linter.unusedVariables false
end Go.Proofs.Ytahmeibkdhbngaa
namespace Go.Proofs.Ytahmeibkdhbngaa
open Go.RowKit
set_option linter.unusedVariables false
theorem a05 (N:Nat) (w:Wd) (hs:w.classes.length≤1048576):∀(n:Nat) (k:Nat) (c acc:Int),k≤w.classes.length+1→w.classes.length+1 - k < n →
  aA2 N w n c acc (k:Int)=some ((aD3 w (w.classes.length+1 - k) c).foldl (fun n k=>match w.classes[k.toNat]? with|some x=>wr (n+x.slots)|none=>n) acc)
 |0,k,c,acc,_,h=>by omega
 |n+1,k,c,acc,hk,hn=>by
  rw [aA2]
  by_cases h0:0≤c
  ·by_cases h1:c < w.classes.length
   ·obtain ⟨x,hx,hnth⟩:=aC1 h0 h1
    by_cases h2:k≤w.classes.length
    ·have h2':(k:Int)≤(w.classes.length:Int):=by omega
     have e:w.classes.length+1 - k=(w.classes.length - k)+1:=by omega
     have wk:wr ((k:Int)+1)=((k+1:Nat):Int):=by rw [I4 (by unfold F9; omega)]; omega
     simp only [h0,h1,h2',decide_true,cond_true,Option.bind_some,hnth,wk]
     rw [a05 N w hs n (k+1) _ _ (by omega) (by omega),e,aD3,if_pos h0,hx]
     simp only [List.foldl_cons,hx]
     rw [show w.classes.length+1 - (k+1)=w.classes.length - k by omega]
    ·have h2':¬(k:Int)≤(w.classes.length:Int):=by omega
     have e:w.classes.length+1 - k=0:=by omega
     simp only [h0,h1,h2',decide_true,decide_false,cond_true,cond_false,Option.bind_some,e]
     rfl
   ·have hx:w.classes[c.toNat]?=none:=bS6 h1
    simp only [h0,h1,decide_true,decide_false,cond_true,cond_false,Option.bind_some]
    cases hm:w.classes.length+1 - k with
    |zero=>rfl
    |succ m=>rw [aD3,if_pos h0,hx]; rfl
  ·simp only [h0,decide_false,cond_false,Option.bind_some]
   cases hm:w.classes.length+1 - k with
   |zero=>rfl
   |succ m=>rw [aD3,if_neg h0]; rfl
theorem b35 (N:Nat) (w:Wd) (c:Int) (hN:1048578≤N) (hs:w.classes.length≤1048576):aL3 N w c=some (F8 w c):=by
 unfold aL3 F8
 have h:=a05 N w hs N 0 c 0 (by omega) (by omega)
 simp only [Nat.sub_zero,Int.ofNat_zero] at h
 rw [h]
 rfl
theorem bB1 (N:Nat) (s:ByteArray):∀(n k:Nat),n+k=s.size→aC5 N s n k=some (if (s.data.toList.drop k).all nmB=true then .next () else .ret false)
 |0,k,h=>by
  rw [List.drop_eq_nil_of_le (by rw [show s.data.toList.length=s.size from rfl]; omega)]
  rfl
 |n+1,k,h=>by
  have hk:k < s.data.toList.length:=by rw [show s.data.toList.length=s.size from rfl]; omega
  rw [aC5,List.drop_eq_getElem_cons hk,cI5,List.getElem?_eq_getElem hk,bB1 N s n (k+1) (by omega)]
  simp only [Option.bind_some,List.all_cons]
  generalize s.data.toList[k]=u
  generalize s.data.toList.drop (k+1)=b
  by_cases h1:(u.toNat:Int)≤32
  ·have h1':(u.toNat:Int) < 33:=by omega
   have e:nmB u=false:=by simp [nmB,h1']
   simp only [h1,e,decide_true,cond_true,Option.bind_some,Bool.false_and]; rfl
  ·have h1':¬(u.toNat:Int) < 33:=by omega
   by_cases h2:126 < (u.toNat:Int)
   ·have e:nmB u=false:=by simp only [nmB,h1',h2,decide_true,decide_false,Bool.not_true,Bool.and_false]
    simp only [h1,h2,e,decide_true,decide_false,cond_true,cond_false,Option.bind_some,Bool.false_and]; rfl
   ·have e:nmB u=true:=by simp only [nmB,h1',h2,decide_false,Bool.not_false,Bool.and_true]
    simp only [h1,h2,e,decide_false,cond_false,Option.bind_some,Bool.true_and]
theorem b79 (N:Nat) (s:ByteArray):aT9 N s=some (aF6 s):=by
 unfold aT9 aF6
 have e:((s.size:Int) - ((0:Nat):Int)).toNat=s.size:=by omega
 rw [e,bB1 N s s.size 0 (by omega),List.drop_zero]
 by_cases h1:(s.size:Int) < 1
 ·have h1':¬0 < s.size:=by omega
  simp [h1,h1']
 ·have h1':0 < s.size:=by omega
  by_cases h2:(12:Int) < (s.size:Int)
  ·have h2':¬s.size≤12:=by omega
   simp [h1,h2,h2']
  ·have h2':s.size≤12:=by omega
   cases h:s.data.toList.all nmB<;>simp [h1,h2,h1',h2']
def a94 (w:Wd) (c:Int) (m:Me) (i:Ins):Option Bool :=
 if i.op=1∨i.op=6∨i.op=7∨i.op=8∨i.op=9∨i.op=10∨i.op=17 then some (decide (i.a=0))
 else if i.op=2 then some (decide (0≤i.a) && decide (i.a < m.args))
 else if i.op=3∨i.op=11 then some (decide (0≤i.a) && decide (i.a < m.temps))
 else if i.op=4∨i.op=12 then some (decide (0≤i.a) && decide (i.a < F8 w c))
 else if i.op=5 then some (decide (-1073741824≤i.a) && decide (i.a≤1073741824))
 else if i.op=13 then some (decide (i.a=0) || (decide (4≤i.a) && decide (i.a < w.classes.length)))
 else if i.op=14 then some (decide (0≤i.a) && decide (i.a < 5))
 else if i.op=15∨i.op=16 then some (decide (0≤i.a) && decide (i.a < m.code.length))
 else none
def b84 (i:Ins):Bool:=(decide (i.op=14) && !aF6 i.name) || (!decide (i.op=14) && !decide (i.name=(⟨#[]⟩:ByteArray))) || !decide (i.b=0) || !decide (i.c=0)
def aL5 (w:Wd) (c:Int) (m:Me) (i:Ins):Int:=match a94 w c m i with
 |none=>1
 |some ok=>if ok=true then (if b84 i=true then 2 else 0) else 3
theorem a11 {w:Wd} (hw:∀x∈w.classes,0≤x.slots∧x.slots≤6):∀(l:List Int) (acc:Int),0≤acc→acc+6*l.length≤100000000 →
  0≤l.foldl (fun n k=>match w.classes[k.toNat]? with|some x=>wr (n+x.slots)|none=>n) acc∧l.foldl (fun n k=>match w.classes[k.toNat]? with|some x=>wr (n+x.slots)|none=>n) acc≤acc+6*l.length
 |[],acc,h0,h1=>⟨by simpa using h0,by simp⟩
 |k::l,acc,h0,h1=>by
  simp only [List.foldl_cons,List.length_cons] at h1 ⊢
  cases hx:w.classes[k.toNat]? with
  |none =>
   have:=a11 hw l acc h0 (by omega)
   simp only
   omega
  |some x =>
   have:=hw x (List.mem_of_getElem? hx)
   simp only
   rw [I4 (by unfold F9; omega)]
   have:=a11 hw l (acc+x.slots) (by omega) (by omega)
   omega
theorem bM1 {w:Wd} (hw:∀x∈w.classes,0≤x.slots∧x.slots≤6) (hs:w.classes.length≤1048576) (c:Int):0≤F8 w c∧F8 w c≤1000000000:=by
 have hl:=bS7 w (w.classes.length+1) c
 have:=a11 hw (aD3 w (w.classes.length+1) c) 0 (by omega) (by omega)
 unfold F8
 exact ⟨this.1,Int.le_trans this.2 (by omega)⟩
theorem bR3 (N:Nat) (w:Wd) (c:Int) (m:Me) (i:Ins) (hN:1048578≤N) (hs:w.classes.length≤1048576) (hl:1≤w.classes.length) (ha:0≤m.args∧m.args≤1000) (ht:0≤m.temps∧m.temps≤1000)
  (hsl:0≤F8 w c∧F8 w c≤1000000000) (hc:m.code.length≤1048576):J9 N w c m i=some (aL5 w c m i):=by
 unfold J9 aL5 a94 b84
 simp only [aM6 N w c hN hs,aA7,Option.bind_some,I4 (show F9 (m.args - 1) by unfold F9; omega),I4 (show F9 (m.temps - 1) by unfold F9; omega),I4 (show F9 (F8 w c - 1) by unfold F9; omega),
  I4 (show F9 ((w.classes.length:Int) - 1) by unfold F9; omega),I4 (show F9 ((m.code.length:Int) - 1) by unfold F9; omega)]
 by_cases h13:i.op=13
 ·have eE:(!decide (i.op=14))=true:=by rw [h13]; rfl
  simp only [h13]
  rcases (by omega:i.a < 0∨i.a=0∨(0 < i.a∧i.a < 4)∨4≤i.a) with h|h|h|h
  ·simp [h,show ¬i.a=0 by omega,show ¬0 < i.a by omega,show ¬4≤i.a by omega]
  ·have hb:¬((w.classes.length:Int) - 1 < 0):=by omega
   have hb2:¬((w.classes.length:Int) < 1):=by omega
   generalize decide (i.b=0)=B
   generalize decide (i.c=0)=C
   generalize decide (i.name=(⟨#[]⟩:ByteArray))=E
   simp only [h]
   cases B<;>cases C<;>cases E<;>simp [hb]
  ·simp [h.1,h.2,show ¬i.a=0 by omega,show ¬4≤i.a by omega]
  ·have hb:¬i.a < 4:=by omega
   have hb2:¬i.a < 0:=by omega
   have hb3:¬i.a=0:=by omega
   have hb4:0 < i.a:=by omega
   generalize decide (i.b=0)=B
   generalize decide (i.c=0)=C
   generalize decide (i.name=(⟨#[]⟩:ByteArray))=E
   by_cases hA:i.a < (w.classes.length:Int)
   ·have hA2:¬((w.classes.length:Int) - 1 < i.a):=by omega
    cases B<;>cases C<;>cases E<;>simp [hb,hb2,hb3,hb4,h,hA,hA2]
   ·have hA2:((w.classes.length:Int) - 1 < i.a):=by omega
    simp [hb,hb2,hb3,hb4,h,hA,hA2]
 generalize decide (i.b=0)=B
 generalize decide (i.c=0)=C
 generalize decide (i.name=(⟨#[]⟩:ByteArray))=E
 generalize aF6 i.name=M
 by_cases h1:i.op=1
 ·rcases Int.lt_trichotomy i.a 0 with h|h|h
  ·simp [h1,h,show ¬i.a=0 by omega]
  ·cases B<;>cases C<;>cases E<;>simp [h1,h]
  ·simp [h1,h,show ¬i.a < 0 by omega,show ¬i.a=0 by omega]
 by_cases h6:i.op=6
 ·rcases Int.lt_trichotomy i.a 0 with h|h|h
  ·simp [h6,h,show ¬i.a=0 by omega]
  ·cases B<;>cases C<;>cases E<;>simp [h6,h]
  ·simp [h6,h,show ¬i.a < 0 by omega,show ¬i.a=0 by omega]
 by_cases h7:i.op=7
 ·rcases Int.lt_trichotomy i.a 0 with h|h|h
  ·simp [h7,h,show ¬i.a=0 by omega]
  ·cases B<;>cases C<;>cases E<;>simp [h7,h]
  ·simp [h7,h,show ¬i.a < 0 by omega,show ¬i.a=0 by omega]
 by_cases h8:i.op=8
 ·rcases Int.lt_trichotomy i.a 0 with h|h|h
  ·simp [h8,h,show ¬i.a=0 by omega]
  ·cases B<;>cases C<;>cases E<;>simp [h8,h]
  ·simp [h8,h,show ¬i.a < 0 by omega,show ¬i.a=0 by omega]
 by_cases h9:i.op=9
 ·rcases Int.lt_trichotomy i.a 0 with h|h|h
  ·simp [h9,h,show ¬i.a=0 by omega]
  ·cases B<;>cases C<;>cases E<;>simp [h9,h]
  ·simp [h9,h,show ¬i.a < 0 by omega,show ¬i.a=0 by omega]
 by_cases h10:i.op=10
 ·rcases Int.lt_trichotomy i.a 0 with h|h|h
  ·simp [h10,h,show ¬i.a=0 by omega]
  ·cases B<;>cases C<;>cases E<;>simp [h10,h]
  ·simp [h10,h,show ¬i.a < 0 by omega,show ¬i.a=0 by omega]
 by_cases h17:i.op=17
 ·rcases Int.lt_trichotomy i.a 0 with h|h|h
  ·simp [h17,h,show ¬i.a=0 by omega]
  ·cases B<;>cases C<;>cases E<;>simp [h17,h]
  ·simp [h17,h,show ¬i.a < 0 by omega,show ¬i.a=0 by omega]
 by_cases h2:i.op=2
 ·by_cases h:0≤i.a
  ·by_cases h':i.a < m.args
   ·cases B<;>cases C<;>cases E<;>simp [h2,h,h',show ¬i.a < 0 by omega,show ¬(m.args - 1 < i.a) by omega]
   ·simp [h2,h,h',show ¬i.a < 0 by omega,show (m.args - 1 < i.a) by omega]
  ·simp [h2,h,show i.a < 0 by omega]
 by_cases h3:i.op=3
 ·by_cases h:0≤i.a
  ·by_cases h':i.a < m.temps
   ·cases B<;>cases C<;>cases E<;>simp [h3,h,h',show ¬i.a < 0 by omega,show ¬(m.temps - 1 < i.a) by omega]
   ·simp [h3,h,h',show ¬i.a < 0 by omega,show (m.temps - 1 < i.a) by omega]
  ·simp [h3,h,show i.a < 0 by omega]
 by_cases h11:i.op=11
 ·by_cases h:0≤i.a
  ·by_cases h':i.a < m.temps
   ·cases B<;>cases C<;>cases E<;>simp [h11,h,h',show ¬i.a < 0 by omega,show ¬(m.temps - 1 < i.a) by omega]
   ·simp [h11,h,h',show ¬i.a < 0 by omega,show (m.temps - 1 < i.a) by omega]
  ·simp [h11,h,show i.a < 0 by omega]
 by_cases h4:i.op=4
 ·by_cases h:0≤i.a
  ·by_cases h':i.a < F8 w c
   ·cases B<;>cases C<;>cases E<;>simp [h4,h,h',show ¬i.a < 0 by omega,show ¬(F8 w c - 1 < i.a) by omega]
   ·simp [h4,h,h',show ¬i.a < 0 by omega,show (F8 w c - 1 < i.a) by omega]
  ·simp [h4,h,show i.a < 0 by omega]
 by_cases h12:i.op=12
 ·by_cases h:0≤i.a
  ·by_cases h':i.a < F8 w c
   ·cases B<;>cases C<;>cases E<;>simp [h12,h,h',show ¬i.a < 0 by omega,show ¬(F8 w c - 1 < i.a) by omega]
   ·simp [h12,h,h',show ¬i.a < 0 by omega,show (F8 w c - 1 < i.a) by omega]
  ·simp [h12,h,show i.a < 0 by omega]
 by_cases h5:i.op=5
 ·by_cases h:-1073741824≤i.a
  ·by_cases h':i.a≤1073741824
   ·cases B<;>cases C<;>cases E<;>simp [h5,h,h',show ¬i.a < -1073741824 by omega,show ¬(1073741824 < i.a) by omega]
   ·simp [h5,h,h',show ¬i.a < -1073741824 by omega,show (1073741824 < i.a) by omega]
  ·simp [h5,h,show i.a < -1073741824 by omega]
 by_cases h14:i.op=14
 ·by_cases h:0≤i.a
  ·by_cases h':i.a < 5
   ·cases B<;>cases C<;>cases M<;>simp [h14,h,h',show ¬i.a < 0 by omega,show ¬(4 < i.a) by omega]
   ·simp [h14,h,h',show ¬i.a < 0 by omega,show (4 < i.a) by omega]
  ·simp [h14,h,show i.a < 0 by omega]
 by_cases h15:i.op=15
 ·by_cases h:0≤i.a
  ·by_cases h':i.a < (m.code.length:Int)
   ·cases B<;>cases C<;>cases E<;>simp [h15,h,h',show ¬i.a < 0 by omega,show ¬((m.code.length:Int) - 1 < i.a) by omega]
   ·simp [h15,h,h',show ¬i.a < 0 by omega,show ((m.code.length:Int) - 1 < i.a) by omega]
  ·simp [h15,h,show i.a < 0 by omega]
 by_cases h16:i.op=16
 ·by_cases h:0≤i.a
  ·by_cases h':i.a < (m.code.length:Int)
   ·cases B<;>cases C<;>cases E<;>simp [h16,h,h',show ¬i.a < 0 by omega,show ¬((m.code.length:Int) - 1 < i.a) by omega]
   ·simp [h16,h,h',show ¬i.a < 0 by omega,show ((m.code.length:Int) - 1 < i.a) by omega]
  ·simp [h16,h,show i.a < 0 by omega]
 simp [h1,h2,h3,h4,h5,h6,h7,h8,h9,h10,h11,h12,h13,h14,h15,h16,h17]
end Go.Proofs.Ytahmeibkdhbngaa
namespace Go.Proofs.Ytahmeibkdhbngaa
open Go.RowKit
set_option linter.unusedVariables false
end Go.Proofs.Ytahmeibkdhbngaa
namespace Go.Proofs.Ytahmeibkdhbngaa
open Go.RowKit
set_option linter.unusedVariables false
structure cF6 (m:Me) (h:List Int) (q:List (Int×Int)):Prop where
 len:h.length=m.code.length
 at_:∀(k:Nat) (y:Int) (i:Ins),h[k]?=some y→0≤y→m.code[k]?=some i→(O3 i k).1≤y∧y≤12∧(i.op=17→y=1)∧0≤wr (y+(O3 i k).2.1) ∧
  ∀to∈(O3 i k).2.2,(to,wr (y+(O3 i k).2.1))∈q∨(0≤to∧h[to.toNat]?=some (wr (y+(O3 i k).2.1)))
theorem b22 (m:Me) (hm:bQ1 m):∀(n:Nat) (h:List Int) (q:List (Int×Int)) (h':List Int),hgt m n h q=some (.next h')→cF6 m h q→hOk q →
  cF6 m h' []∧(∀(k:Nat) y,h[k]?=some y→0≤y→h'[k]?=some y)∧∀z∈q,0≤z.1∧h'[z.1.toNat]?=some z.2
 |0,h,q,h',e,_,_=>by cases e
 |n+1,h,[],h',e,hi,_=>by
  rw [hgt] at e
  cases e
  exact ⟨hi,fun _ _ h _=>h,fun z hz=>by cases hz⟩
 |n+1,h,(p,x)::r,h',e,hi,ho=>by
  rw [hgt] at e
  have hx:=ho (p,x) (by simp)
  have hr:hOk r:=fun z hz=>ho z (by simp [hz])
  by_cases h1:(m.code.length:Int)≤p∨p < 0
  ·rw [if_pos h1] at e; cases e
  rw [if_neg h1] at e
  have hl:=hi.len
  have hp:p.toNat < m.code.length:=by omega
  have hp0:0≤p:=by omega
  have e1:h[p.toNat]?=some (h[p.toNat]'(by omega)):=List.getElem?_eq_getElem (by omega)
  have e2:m.code[p.toNat]?=some m.code[p.toNat]:=List.getElem?_eq_getElem hp
  generalize h[p.toNat]'(by omega)=y at e1
  have hin:=hm _ (List.getElem_mem hp)
  generalize m.code[p.toNat]=i at e2 hin
  rw [e1,e2] at e
  simp only at e
  by_cases h2:0≤y
  ·rw [if_pos h2] at e
   by_cases h3:y=x
   ·rw [if_pos h3] at e
    subst h3
    obtain ⟨a1,a2,a3⟩:=b22 m hm n h r h' e ⟨hl,fun k z j hk hz hj=>by
     obtain ⟨b1,b2,b3,b4,b5⟩:=hi.at_ k z j hk hz hj
     refine ⟨b1,b2,b3,b4,fun to hto=>?_⟩
     rcases b5 to hto with c|c
     ·rcases List.mem_cons.1 c with c|c
      ·have c1:=congrArg Prod.fst c
       have c2:=congrArg Prod.snd c
       simp only at c1 c2
       exact .inr ⟨by omega,by rw [c1,c2]; exact e1⟩
      ·exact .inl c
     ·exact .inr c⟩ hr
    exact ⟨a1,a2,fun z hz=>by
     rcases List.mem_cons.1 hz with rfl|hz
     ·exact ⟨hp0,a2 _ _ e1 h2⟩
     ·exact a3 z hz⟩
   ·rw [if_neg h3] at e; cases e
  rw [if_neg h2] at e
  by_cases h3:x < (O3 i p).1∨(i.op=17∧x≠1)
  ·rw [if_pos h3] at e; cases e
  rw [if_neg h3] at e
  by_cases h4:12 < wr (x+(O3 i p).2.1)
  ·rw [if_pos h4] at e; cases e
  rw [if_neg h4] at e
  have hb:=bO4 hx.1 hx.2 (fun h=>h3 (Or.inl h)) h4 hin
  have hpe:((p.toNat:Nat):Int)=p:=by omega
  have hset:(h.set p.toNat x)[p.toNat]?=some x:=List.getElem?_set_self (by omega)
  obtain ⟨a1,a2,a3⟩:=b22 m hm n (h.set p.toNat x) _ h' e ⟨by simpa using hl,fun k z j hk hz hj=>by
   by_cases hkp:k=p.toNat
   ·subst hkp
    rw [hset] at hk
    cases hk
    rw [e2] at hj
    cases hj
    rw [hpe]
    refine ⟨by have:¬x < (O3 i p).1:=fun h=>h3 (Or.inl h); omega,hx.2,fun h17=>Decidable.byContradiction fun h=>h3 (Or.inr ⟨h17,h⟩),hb.1,fun to hto=>.inl ?_⟩
    exact List.mem_append_right _ (List.mem_map.2 ⟨to,hto,rfl⟩)
   ·rw [List.getElem?_set_ne (fun h=>hkp h.symm)] at hk
    obtain ⟨b1,b2,b3,b4,b5⟩:=hi.at_ k z j hk hz hj
    refine ⟨b1,b2,b3,b4,fun to hto=>?_⟩
    rcases b5 to hto with c|c
    ·rcases List.mem_cons.1 c with c|c
     ·have c1:=congrArg Prod.fst c
      have c2:=congrArg Prod.snd c
      simp only at c1 c2
      exact .inr ⟨by omega,by rw [c1,c2]; exact hset⟩
     ·exact .inl (List.mem_append_left _ c)
    ·refine .inr ⟨c.1,?_⟩
     by_cases ht:to.toNat=p.toNat
     ·rw [ht,e1] at c
      have:=Option.some.inj c.2
      omega
     ·rw [List.getElem?_set_ne (fun h=>ht h.symm)]; exact c.2⟩ (fun z hz=>by
   rcases List.mem_append.1 hz with hz|hz
   ·exact hr z hz
   ·obtain ⟨w,_,rfl⟩:=List.mem_map.1 hz
    exact ⟨hb.1,hb.2.1⟩)
  refine ⟨a1,fun k z hk hz=>?_,fun z hz=>?_⟩
  ·by_cases hkp:k=p.toNat
   ·subst hkp
    rw [e1] at hk
    cases hk
    exact absurd hz h2
   ·exact a2 k z (by rw [List.getElem?_set_ne (fun h=>hkp h.symm)]; exact hk) hz
  ·rcases List.mem_cons.1 hz with rfl|hz
   ·exact ⟨hp0,a2 _ _ hset hx.1⟩
   ·exact a3 z (List.mem_append_left _ hz)
theorem cH4 (m:Me):∀(n:Nat) (h:List Int) (q:List (Int×Int)) (r:List Int×M0),hgt m n h q=some (.ret r)→r.2.err≠0
 |0,h,q,r,e=>by cases e
 |n+1,h,[],r,e=>by rw [hgt] at e; cases e
 |n+1,h,(p,x)::l,r,e=>by
  rw [hgt] at e
  (repeat' split at e)<;>first|(cases e; done)|(cases e; simp; done)|exact cH4 m n _ _ r e
theorem c47 (m:Me):cF6 m (List.replicate m.code.length (-1)) [(0,0)] :=
 ⟨by simp,fun k y i hk hy _=>by
  rw [List.getElem?_replicate] at hk
  split at hk
  ·cases hk; omega
  ·cases hk⟩
theorem c26 : hOk [(0,0)]:=by
 intro q hq
 simp only [List.mem_cons,List.not_mem_nil,or_false] at hq
 subst hq; decide
def aS8 (w:Wd) (c:Int) (m:Me):List Ins→Nat→D9 M0 Unit
 |[],_=>.next ()
 |i::l,k=>if aL5 w c m i=0 then aS8 w c m l (k+1) else .ret ⟨aL5 w c m i,k⟩
theorem bC1 {w:Wd} {c:Int} {m:Me}:∀{l:List Ins} {k:Nat},aS8 w c m l k=.next ()→∀i∈l,aL5 w c m i=0
 |[],_,_,i,hi=>by cases hi
 |x::l,k,h,i,hi=>by
  rw [aS8] at h
  split at h
  ·rename_i h0
   rcases List.mem_cons.1 hi with rfl|hi
   ·exact h0
   ·exact bC1 h i hi
  ·cases h
theorem cC9 {w:Wd} {c:Int} {m:Me}:∀{l:List Ins} {k:Nat} {r:M0},aS8 w c m l k=.ret r→r.err≠0
 |[],_,_,h=>by cases h
 |x::l,k,r,h=>by
  rw [aS8] at h
  split at h
  ·exact cC9 h
  ·rename_i h0; cases h; exact h0
theorem b51 {w:Wd} {c:Int} {m:Me} {i:Ins} (h:aL5 w c m i=0) (ho:i.op=14):0≤i.a∧i.a≤4:=by
 unfold aL5 a94 at h
 simp only [ho] at h
 by_cases h1:0≤i.a
 ·by_cases h2:i.a < 5
  ·omega
  ·simp [h1,h2] at h
 ·simp [h1] at h
def checkN (N:Nat) (w:Wd) (c:Int) (m:Me):Option M0 :=
 if c < 0∨(w.classes.length:Int)≤c then some ⟨6,0⟩ else if aF6 m.name=false then some ⟨7,0⟩
 else if m.args < 0∨4 < m.args∨m.temps < 0∨6 < m.temps then some ⟨3,0⟩ else if m.prim≠0 then some ⟨1,0⟩
 else if m.code.length < 1∨60 < m.code.length then some ⟨5,0⟩ else match aS8 w c m m.code 0 with
  |.ret r=>some r
  |.next ()=>((hgt m N (List.replicate m.code.length (-1)) [(0,0)]).map cU7).map (·.2)
structure cT6 (N:Nat) (w:Wd) (c:Int) (m:Me):Prop where
 cls:0≤c∧c < w.classes.length
 name:aF6 m.name=true
 args:0≤m.args∧m.args≤4
 temps:0≤m.temps∧m.temps≤6
 prim:m.prim=0
 len:1≤m.code.length∧m.code.length≤60
 num:∀i∈m.code,aL5 w c m i=0
 neg:bQ1 m
 hgt:∃h,hgt m N (List.replicate m.code.length (-1)) [(0,0)]=some (.next h)
theorem cQ8 {N:Nat} {w:Wd} {c:Int} {m:Me} {f:M0} (h:checkN N w c m=some f) (h0:f.err=0):cT6 N w c m:=by
 unfold checkN at h
 by_cases h1:c < 0∨(w.classes.length:Int)≤c
 ·rw [if_pos h1] at h; cases h; cases h0
 rw [if_neg h1] at h
 by_cases h2:aF6 m.name=false
 ·rw [if_pos h2] at h; cases h; cases h0
 rw [if_neg h2] at h
 by_cases h3:m.args < 0∨4 < m.args∨m.temps < 0∨6 < m.temps
 ·rw [if_pos h3] at h; cases h; cases h0
 rw [if_neg h3] at h
 by_cases h4:m.prim≠0
 ·rw [if_pos h4] at h; cases h; cases h0
 rw [if_neg h4] at h
 by_cases h5:m.code.length < 1∨60 < m.code.length
 ·rw [if_pos h5] at h; cases h; cases h0
 rw [if_neg h5] at h
 cases hc:aS8 w c m m.code 0 with
 |ret r=>rw [hc] at h; cases h; exact absurd h0 (cC9 hc)
 |next u =>
  rw [hc] at h
  simp only at h
  refine ⟨by omega,by cases hn:aF6 m.name<;>simp_all,by omega,by omega,Decidable.byContradiction h4,by omega,fun i hi=>bC1 hc i hi,fun i hi ho=>b51 (bC1 hc i hi) ho,?_⟩
  cases ho:Go.Proofs.Ytahmeibkdhbngaa.hgt m N (List.replicate m.code.length (-1)) [(0,0)] with
  |none=>rw [ho] at h; cases h
  |some o =>
   rw [ho] at h
   cases o with
   |ret r=>cases h; exact absurd h0 (cH4 m _ _ _ _ ho)
   |next h'=>exact ⟨h',rfl⟩
theorem aZ4 (N:Nat) (w:Wd) (c:Int) (m:Me) (hn:∀i,J9 N w c m i=some (aL5 w c m i)):∀(l:List Ins) (k:Nat),K5 N w c m l k=some (aS8 w c m l k)
 |[],k=>rfl
 |x::l,k=>by
  rw [K5,aS8,hn x]
  simp only [Option.bind_some]
  by_cases h:aL5 w c m x=0
  ·simp only [h,decide_true,Bool.not_true,cond_false,if_true]
   exact aZ4 N w c m hn l (k+1)
  ·simp only [h,decide_false,Bool.not_false,cond_true,if_false]
theorem aU7 (N:Nat) (w:Wd) (c:Int) (m:Me) (hN:1048578≤N) (hs:w.classes.length≤1048576) (hsl:0≤F8 w c∧F8 w c≤1000000000):T9 N w c m=checkN N w c m:=by
 unfold T9 checkN
 simp only [aA7,Option.bind_some]
 by_cases h1:c < 0
 ·simp [h1]
 by_cases h2:(w.classes.length:Int)≤c
 ·simp [h1,h2]
 cases h3:aF6 m.name with
 |false=>simp [h1,h2]
 |true =>
  by_cases h4:m.args < 0
  ·simp [h1,h2,h4]
  by_cases h5:4 < m.args
  ·simp [h1,h2,h4,h5]
  by_cases h6:m.temps < 0
  ·simp [h1,h2,h4,h5,h6]
  by_cases h7:6 < m.temps
  ·simp [h1,h2,h4,h5,h6,h7]
  by_cases h8:m.prim=0
  ·by_cases h9:m.code.length < 1
   ·have h9':(m.code.length:Int)=0:=by omega
    simp only [h1,h2,h4,h5,h6,h7,h8,h9,h9',decide_true,decide_false,cond_true,cond_false,Option.bind_some,or_self,if_false,Bool.not_true,Bool.not_false,or_true,true_or,if_true,ne_eq,not_true,not_false_eq_true,Bool.true_eq_false]
   ·have h9':¬(m.code.length:Int)=0:=by omega
    by_cases h10:60 < m.code.length
    ·have h10':(60:Int) < (m.code.length:Int):=by omega
     simp only [h1,h2,h4,h5,h6,h7,h8,h9,h9',h10,h10',decide_true,decide_false,cond_true,cond_false,Option.bind_some,or_self,if_false,Bool.not_true,Bool.not_false,or_true,true_or,if_true,ne_eq,not_true,not_false_eq_true,Bool.true_eq_false]
    ·have h10':¬(60:Int) < (m.code.length:Int):=by omega
     have hn:∀i,J9 N w c m i=some (aL5 w c m i):=fun i=>bR3 N w c m i hN hs (by omega) (by omega) (by omega) hsl (by omega)
     simp only [h1,h2,h4,h5,h6,h7,h8,h9,h9',h10,h10',decide_true,decide_false,cond_false,Option.bind_some,or_self,if_false,Bool.not_true,ne_eq,not_true,Bool.true_eq_false,aZ4 N w c m hn]
     cases hc:aS8 w c m m.code 0 with
     |ret r=>rfl
     |next u =>
      simp only [a06 N m (fun i hi ho=>b51 (bC1 hc i hi) ho) (by omega)]
      generalize (hgt m N (List.replicate m.code.length (-1)) [(0,0)]).map cU7=o
      cases o<;>rfl
  ·simp [h1,h2,h4,h5,h6,h7,h8]
end Go.Proofs.Ytahmeibkdhbngaa
