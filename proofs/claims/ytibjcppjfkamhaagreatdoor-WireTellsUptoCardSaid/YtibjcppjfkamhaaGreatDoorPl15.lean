import Derived.Test.YtibjcppjfkamhaaGreatDoorPl10
/- Plain laws of the mirrors: what a method of a right world is; fast code. No program in sight. -/
namespace Go.Proofs.YtibjcppjfkamhaaGreatDoor
open Go.RowKit
set_option linter.unusedVariables false
end Go.Proofs.YtibjcppjfkamhaaGreatDoor
namespace Go.Proofs.YtibjcppjfkamhaaGreatDoor
open Go.RowKit
set_option linter.unusedVariables false
end Go.Proofs.YtibjcppjfkamhaaGreatDoor
namespace Go.Proofs.YtibjcppjfkamhaaGreatDoor
open Go.RowKit
set_option linter.unusedVariables false
theorem aU1 (N:Nat) (w:Wd) (hs:w.classes.length≤1048576):∀(n:Nat) (k:Nat) (c acc:Int),k≤w.classes.length+1→w.classes.length+1 - k < n →
  aA1 N w n c acc (k:Int)=some ((aG5 w (w.classes.length+1 - k) c).foldl (fun n k=>match w.classes[k.toNat]? with|some x=>wr (n+x.slots)|none=>n) acc)
 |0,k,c,acc,_,h=>by omega
 |n+1,k,c,acc,hk,hn=>by
  rw [aA1]
  by_cases h0:0≤c
  ·by_cases h1:c < w.classes.length
   ·obtain ⟨x,hx,hnth⟩:=bH8 h0 h1
    by_cases h2:k≤w.classes.length
    ·have h2':(k:Int)≤(w.classes.length:Int):=by omega
     have e:w.classes.length+1 - k=(w.classes.length - k)+1:=by omega
     have wk:wr ((k:Int)+1)=((k+1:Nat):Int):=by rw [O3 (by unfold D6; omega)]; omega
     simp only [h0,h1,h2',decide_true,cond_true,Option.bind_some,hnth,wk]
     rw [aU1 N w hs n (k+1) _ _ (by omega) (by omega),e,aG5,if_pos h0,hx]
     simp only [List.foldl_cons,hx]
     rw [show w.classes.length+1 - (k+1)=w.classes.length - k by omega]
    ·have h2':¬(k:Int)≤(w.classes.length:Int):=by omega
     have e:w.classes.length+1 - k=0:=by omega
     simp only [h0,h1,h2',decide_true,decide_false,cond_true,cond_false,Option.bind_some,e]
     rfl
   ·have hx:w.classes[c.toNat]?=none:=bM3 h1
    simp only [h0,h1,decide_true,decide_false,cond_true,cond_false,Option.bind_some]
    cases hm:w.classes.length+1 - k with
    |zero=>rfl
    |succ m=>rw [aG5,if_pos h0,hx]; rfl
  ·simp only [h0,decide_false,cond_false,Option.bind_some]
   cases hm:w.classes.length+1 - k with
   |zero=>rfl
   |succ m=>rw [aG5,if_neg h0]; rfl
theorem aQ3 (N:Nat) (w:Wd) (c:Int) (hN:1048578≤N) (hs:w.classes.length≤1048576):aC8 N w c=some (I4 w c):=by
 unfold aC8 I4
 have h:=aU1 N w hs N 0 c 0 (by omega) (by omega)
 simp only [Nat.sub_zero,Int.ofNat_zero] at h
 rw [h]
 rfl
theorem aY0 (N:Nat) (s:ByteArray):∀(n k:Nat),n+k=s.size→aB9 N s n k=some (if (s.data.toList.drop k).all nmB=true then .next () else .ret false)
 |0,k,h=>by
  rw [List.drop_eq_nil_of_le (by rw [show s.data.toList.length=s.size from rfl]; omega)]
  rfl
 |n+1,k,h=>by
  have hk:k < s.data.toList.length:=by rw [show s.data.toList.length=s.size from rfl]; omega
  rw [aB9,List.drop_eq_getElem_cons hk,bR8,List.getElem?_eq_getElem hk,aY0 N s n (k+1) (by omega)]
  simp only [Option.bind_some,List.all_cons]
  generalize s.data.toList[k]=u
  generalize s.data.toList.drop (k+1)=b
  by_cases h1:(u.toNat:Int)≤32
  ·have h1':(u.toNat:Int) < 33:=by omega
   have e:nmB u=false:=by simp [nmB,h1']
   simp only [h1,e,decide_true,cond_true,Option.bind_some,Bool.false_and]; rfl
  ·have h1':¬(u.toNat:Int) < 33:=by omega
   by_cases h2:126 < (u.toNat:Int)
   ·have e:nmB u=false:=by simp only [nmB,h1',h2,decide_true,decide_false,Bool.not_true,Bool.and_false]
    simp only [h1,h2,e,decide_true,decide_false,cond_true,cond_false,Option.bind_some,Bool.false_and]; rfl
   ·have e:nmB u=true:=by simp only [nmB,h1',h2,decide_false,Bool.not_false,Bool.and_true]
    simp only [h1,h2,e,decide_false,cond_false,Option.bind_some,Bool.true_and]
theorem aT4 (N:Nat) (s:ByteArray):aH6 N s=some (aA7 s):=by
 unfold aH6 aA7
 have e:((s.size:Int) - ((0:Nat):Int)).toNat=s.size:=by omega
 rw [e,aY0 N s s.size 0 (by omega),List.drop_zero]
 by_cases h1:(s.size:Int) < 1
 ·have h1':¬0 < s.size:=by omega
  simp [h1,h1']
 ·have h1':0 < s.size:=by omega
  by_cases h2:(12:Int) < (s.size:Int)
  ·have h2':¬s.size≤12:=by omega
   simp [h1,h2,h2']
  ·have h2':s.size≤12:=by omega
   cases h:s.data.toList.all nmB<;>simp [h1,h2,h1',h2']
theorem bB3 {w:Wd} (hw:∀x∈w.classes,0≤x.slots∧x.slots≤6):∀(l:List Int) (acc:Int),0≤acc→acc+6*l.length≤100000000 →
  0≤l.foldl (fun n k=>match w.classes[k.toNat]? with|some x=>wr (n+x.slots)|none=>n) acc∧l.foldl (fun n k=>match w.classes[k.toNat]? with|some x=>wr (n+x.slots)|none=>n) acc≤acc+6*l.length
 |[],acc,h0,h1=>⟨by simpa using h0,by simp⟩
 |k::l,acc,h0,h1=>by
  simp only [List.foldl_cons,List.length_cons] at h1 ⊢
  cases hx:w.classes[k.toNat]? with
  |none =>
   have:=bB3 hw l acc h0 (by omega)
   simp only
   omega
  |some x =>
   have:=hw x (List.mem_of_getElem? hx)
   simp only
   rw [O3 (by unfold D6; omega)]
   have:=bB3 hw l (acc+x.slots) (by omega) (by omega)
   omega
theorem cG9 {w:Wd} (hw:∀x∈w.classes,0≤x.slots∧x.slots≤6) (hs:w.classes.length≤1048576) (c:Int):0≤I4 w c∧I4 w c≤1000000000:=by
 have hl:=b28 w (w.classes.length+1) c
 have:=bB3 hw (aG5 w (w.classes.length+1) c) 0 (by omega) (by omega)
 unfold I4
 exact ⟨this.1,Int.le_trans this.2 (by omega)⟩
def bO7 (w:Wd) (c:Int) (m:Me) (i:Ins):Option Bool :=
 if i.op=1∨i.op=6∨i.op=7∨i.op=8∨i.op=9∨i.op=10∨i.op=17 then some (decide (i.a=0))
 else if i.op=2 then some (decide (0≤i.a) && decide (i.a < m.args))
 else if i.op=3∨i.op=11 then some (decide (0≤i.a) && decide (i.a < m.temps))
 else if i.op=4∨i.op=12 then some (decide (0≤i.a) && decide (i.a < I4 w c))
 else if i.op=5 then some (decide (-1073741824≤i.a) && decide (i.a≤1073741824))
 else if i.op=13 then some (decide (i.a=0) || (decide (4≤i.a) && decide (i.a < w.classes.length)))
 else if i.op=14 then some (decide (0≤i.a) && decide (i.a < 5))
 else if i.op=15∨i.op=16 then some (decide (0≤i.a) && decide (i.a < m.code.length))
 else none
def b05 (i:Ins):Bool:=(decide (i.op=14) && !aA7 i.name) || (!decide (i.op=14) && !decide (i.name=(⟨#[]⟩:ByteArray))) || !decide (i.b=0) || !decide (i.c=0)
def aL1 (w:Wd) (c:Int) (m:Me) (i:Ins):Int:=match bO7 w c m i with
 |none=>1
 |some ok=>if ok=true then (if b05 i=true then 2 else 0) else 3
theorem bI5 (N:Nat) (a b:Int):S9 N a b=some (decide (0≤a) && decide (a < b)):=by
 unfold S9
 by_cases h:0≤a<;>simp [h]
theorem bQ6 (N:Nat) (w:Wd) (c:Int) (m:Me) (i:Ins) (hN:1048578≤N) (hs:w.classes.length≤1048576):aK0 N w c m i=some (aL1 w c m i):=by
 unfold aK0 aL1 bO7 b05
 simp only [aQ3 N w c hN hs,aT4,bI5,Option.bind_some]
 generalize decide (i.b=0)=B
 generalize decide (i.c=0)=C
 generalize decide (i.name=(⟨#[]⟩:ByteArray))=E
 generalize decide (i.a=0)=A0
 generalize decide (0≤i.a)=A1
 generalize decide (i.a < m.args)=A2
 generalize decide (i.a < m.temps)=A3
 generalize decide (i.a < I4 w c)=A4
 generalize decide (-1073741824≤i.a)=A5
 generalize decide (i.a≤1073741824)=A6
 generalize decide (4≤i.a)=A7
 generalize decide (i.a < (w.classes.length:Int))=A8
 generalize decide (i.a < 5)=A9
 generalize decide (i.a < (m.code.length:Int))=A10
 generalize aA7 i.name=M
 by_cases h1:i.op=1
 ·simp only [h1]; cases A0<;>cases B<;>cases C<;>cases E<;>simp
 by_cases h6:i.op=6
 ·simp only [h6]; cases A0<;>cases B<;>cases C<;>cases E<;>simp
 by_cases h7:i.op=7
 ·simp only [h7]; cases A0<;>cases B<;>cases C<;>cases E<;>simp
 by_cases h8:i.op=8
 ·simp only [h8]; cases A0<;>cases B<;>cases C<;>cases E<;>simp
 by_cases h9:i.op=9
 ·simp only [h9]; cases A0<;>cases B<;>cases C<;>cases E<;>simp
 by_cases h10:i.op=10
 ·simp only [h10]; cases A0<;>cases B<;>cases C<;>cases E<;>simp
 by_cases h17:i.op=17
 ·simp only [h17]; cases A0<;>cases B<;>cases C<;>cases E<;>simp
 by_cases h2:i.op=2
 ·simp only [h2]; cases A1<;>cases A2<;>cases B<;>cases C<;>cases E<;>simp
 by_cases h3:i.op=3
 ·simp only [h3]; cases A1<;>cases A3<;>cases B<;>cases C<;>cases E<;>simp
 by_cases h11:i.op=11
 ·simp only [h11]; cases A1<;>cases A3<;>cases B<;>cases C<;>cases E<;>simp
 by_cases h4:i.op=4
 ·simp only [h4]; cases A1<;>cases A4<;>cases B<;>cases C<;>cases E<;>simp
 by_cases h12:i.op=12
 ·simp only [h12]; cases A1<;>cases A4<;>cases B<;>cases C<;>cases E<;>simp
 by_cases h5:i.op=5
 ·simp only [h5]; cases A5<;>cases A6<;>cases B<;>cases C<;>cases E<;>simp
 by_cases h13:i.op=13
 ·simp only [h13]; cases A0<;>cases A7<;>cases A8<;>cases B<;>cases C<;>cases E<;>simp
 by_cases h14:i.op=14
 ·simp only [h14]; cases A1<;>cases A9<;>cases B<;>cases C<;>cases M<;>simp
 by_cases h15:i.op=15
 ·simp only [h15]; cases A1<;>cases A10<;>cases B<;>cases C<;>cases E<;>simp
 by_cases h16:i.op=16
 ·simp only [h16]; cases A1<;>cases A10<;>cases B<;>cases C<;>cases E<;>simp
 simp [h1,h6,h7,h8,h9,h10,h17,h2,h3,h11,h4,h12,h5,h13,h14,h15,h16]
theorem bI1 (N:Nat) (w:Wd) (c:Int) (m:Me) (i:Ins) (hN:1048578≤N) (hs:w.classes.length≤1048576) (hl:1≤w.classes.length) (ha:0≤m.args∧m.args≤1000) (ht:0≤m.temps∧m.temps≤1000)
  (hsl:0≤I4 w c∧I4 w c≤1000000000) (hc:m.code.length≤1048576):aA3 N w c m i=some (aL1 w c m i):=by
 unfold aA3 aL1 bO7 b05
 simp only [aP2 N w c hN hs,aQ9,Option.bind_some,O3 (show D6 (m.args - 1) by unfold D6; omega),O3 (show D6 (m.temps - 1) by unfold D6; omega),O3 (show D6 (I4 w c - 1) by unfold D6; omega),
  O3 (show D6 ((w.classes.length:Int) - 1) by unfold D6; omega),O3 (show D6 ((m.code.length:Int) - 1) by unfold D6; omega)]
 by_cases h13:i.op=13
 ·have eE:(!decide (i.op=14))=true:=by rw [h13]; rfl
  simp only [h13]
  rcases (by omega:i.a < 0∨i.a=0∨(0 < i.a∧i.a < 4)∨4≤i.a) with h|h|h|h
  ·simp [h,show ¬i.a=0 by omega,show ¬0 < i.a by omega,show ¬4≤i.a by omega]
  ·have hb:¬((w.classes.length:Int) - 1 < 0):=by omega
   have hb2:¬((w.classes.length:Int) < 1):=by omega
   generalize decide (i.b=0)=B
   generalize decide (i.c=0)=C
   generalize decide (i.name=(⟨#[]⟩:ByteArray))=E
   simp only [h]
   cases B<;>cases C<;>cases E<;>simp [hb]
  ·simp [h.1,h.2,show ¬i.a=0 by omega,show ¬4≤i.a by omega]
  ·have hb:¬i.a < 4:=by omega
   have hb2:¬i.a < 0:=by omega
   have hb3:¬i.a=0:=by omega
   have hb4:0 < i.a:=by omega
   generalize decide (i.b=0)=B
   generalize decide (i.c=0)=C
   generalize decide (i.name=(⟨#[]⟩:ByteArray))=E
   by_cases hA:i.a < (w.classes.length:Int)
   ·have hA2:¬((w.classes.length:Int) - 1 < i.a):=by omega
    cases B<;>cases C<;>cases E<;>simp [hb,hb2,hb3,hb4,h,hA,hA2]
   ·have hA2:((w.classes.length:Int) - 1 < i.a):=by omega
    simp [hb,hb2,hb3,hb4,h,hA,hA2]
 generalize decide (i.b=0)=B
 generalize decide (i.c=0)=C
 generalize decide (i.name=(⟨#[]⟩:ByteArray))=E
 generalize aA7 i.name=M
 by_cases h1:i.op=1
 ·rcases Int.lt_trichotomy i.a 0 with h|h|h
  ·simp [h1,h,show ¬i.a=0 by omega]
  ·cases B<;>cases C<;>cases E<;>simp [h1,h]
  ·simp [h1,h,show ¬i.a < 0 by omega,show ¬i.a=0 by omega]
 by_cases h6:i.op=6
 ·rcases Int.lt_trichotomy i.a 0 with h|h|h
  ·simp [h6,h,show ¬i.a=0 by omega]
  ·cases B<;>cases C<;>cases E<;>simp [h6,h]
  ·simp [h6,h,show ¬i.a < 0 by omega,show ¬i.a=0 by omega]
 by_cases h7:i.op=7
 ·rcases Int.lt_trichotomy i.a 0 with h|h|h
  ·simp [h7,h,show ¬i.a=0 by omega]
  ·cases B<;>cases C<;>cases E<;>simp [h7,h]
  ·simp [h7,h,show ¬i.a < 0 by omega,show ¬i.a=0 by omega]
 by_cases h8:i.op=8
 ·rcases Int.lt_trichotomy i.a 0 with h|h|h
  ·simp [h8,h,show ¬i.a=0 by omega]
  ·cases B<;>cases C<;>cases E<;>simp [h8,h]
  ·simp [h8,h,show ¬i.a < 0 by omega,show ¬i.a=0 by omega]
 by_cases h9:i.op=9
 ·rcases Int.lt_trichotomy i.a 0 with h|h|h
  ·simp [h9,h,show ¬i.a=0 by omega]
  ·cases B<;>cases C<;>cases E<;>simp [h9,h]
  ·simp [h9,h,show ¬i.a < 0 by omega,show ¬i.a=0 by omega]
 by_cases h10:i.op=10
 ·rcases Int.lt_trichotomy i.a 0 with h|h|h
  ·simp [h10,h,show ¬i.a=0 by omega]
  ·cases B<;>cases C<;>cases E<;>simp [h10,h]
  ·simp [h10,h,show ¬i.a < 0 by omega,show ¬i.a=0 by omega]
 by_cases h17:i.op=17
 ·rcases Int.lt_trichotomy i.a 0 with h|h|h
  ·simp [h17,h,show ¬i.a=0 by omega]
  ·cases B<;>cases C<;>cases E<;>simp [h17,h]
  ·simp [h17,h,show ¬i.a < 0 by omega,show ¬i.a=0 by omega]
 by_cases h2:i.op=2
 ·by_cases h:0≤i.a
  ·by_cases h':i.a < m.args
   ·cases B<;>cases C<;>cases E<;>simp [h2,h,h',show ¬i.a < 0 by omega,show ¬(m.args - 1 < i.a) by omega]
   ·simp [h2,h,h',show ¬i.a < 0 by omega,show (m.args - 1 < i.a) by omega]
  ·simp [h2,h,show i.a < 0 by omega]
 by_cases h3:i.op=3
 ·by_cases h:0≤i.a
  ·by_cases h':i.a < m.temps
   ·cases B<;>cases C<;>cases E<;>simp [h3,h,h',show ¬i.a < 0 by omega,show ¬(m.temps - 1 < i.a) by omega]
   ·simp [h3,h,h',show ¬i.a < 0 by omega,show (m.temps - 1 < i.a) by omega]
  ·simp [h3,h,show i.a < 0 by omega]
 by_cases h11:i.op=11
 ·by_cases h:0≤i.a
  ·by_cases h':i.a < m.temps
   ·cases B<;>cases C<;>cases E<;>simp [h11,h,h',show ¬i.a < 0 by omega,show ¬(m.temps - 1 < i.a) by omega]
   ·simp [h11,h,h',show ¬i.a < 0 by omega,show (m.temps - 1 < i.a) by omega]
  ·simp [h11,h,show i.a < 0 by omega]
 by_cases h4:i.op=4
 ·by_cases h:0≤i.a
  ·by_cases h':i.a < I4 w c
   ·cases B<;>cases C<;>cases E<;>simp [h4,h,h',show ¬i.a < 0 by omega,show ¬(I4 w c - 1 < i.a) by omega]
   ·simp [h4,h,h',show ¬i.a < 0 by omega,show (I4 w c - 1 < i.a) by omega]
  ·simp [h4,h,show i.a < 0 by omega]
 by_cases h12:i.op=12
 ·by_cases h:0≤i.a
  ·by_cases h':i.a < I4 w c
   ·cases B<;>cases C<;>cases E<;>simp [h12,h,h',show ¬i.a < 0 by omega,show ¬(I4 w c - 1 < i.a) by omega]
   ·simp [h12,h,h',show ¬i.a < 0 by omega,show (I4 w c - 1 < i.a) by omega]
  ·simp [h12,h,show i.a < 0 by omega]
 by_cases h5:i.op=5
 ·by_cases h:-1073741824≤i.a
  ·by_cases h':i.a≤1073741824
   ·cases B<;>cases C<;>cases E<;>simp [h5,h,h',show ¬i.a < -1073741824 by omega,show ¬(1073741824 < i.a) by omega]
   ·simp [h5,h,h',show ¬i.a < -1073741824 by omega,show (1073741824 < i.a) by omega]
  ·simp [h5,h,show i.a < -1073741824 by omega]
 by_cases h14:i.op=14
 ·by_cases h:0≤i.a
  ·by_cases h':i.a < 5
   ·cases B<;>cases C<;>cases M<;>simp [h14,h,h',show ¬i.a < 0 by omega,show ¬(4 < i.a) by omega]
   ·simp [h14,h,h',show ¬i.a < 0 by omega,show (4 < i.a) by omega]
  ·simp [h14,h,show i.a < 0 by omega]
 by_cases h15:i.op=15
 ·by_cases h:0≤i.a
  ·by_cases h':i.a < (m.code.length:Int)
   ·cases B<;>cases C<;>cases E<;>simp [h15,h,h',show ¬i.a < 0 by omega,show ¬((m.code.length:Int) - 1 < i.a) by omega]
   ·simp [h15,h,h',show ¬i.a < 0 by omega,show ((m.code.length:Int) - 1 < i.a) by omega]
  ·simp [h15,h,show i.a < 0 by omega]
 by_cases h16:i.op=16
 ·by_cases h:0≤i.a
  ·by_cases h':i.a < (m.code.length:Int)
   ·cases B<;>cases C<;>cases E<;>simp [h16,h,h',show ¬i.a < 0 by omega,show ¬((m.code.length:Int) - 1 < i.a) by omega]
   ·simp [h16,h,h',show ¬i.a < 0 by omega,show ((m.code.length:Int) - 1 < i.a) by omega]
  ·simp [h16,h,show i.a < 0 by omega]
 simp [h1,h2,h3,h4,h5,h6,h7,h8,h9,h10,h11,h12,h13,h14,h15,h16,h17]
theorem cH9 (N:Nat) (i:Ins) (p:Int) (h:i.op=14→0≤i.a∧i.a≤4):∃g,aL7 N i=some ((Z4 i p).1,g)∧wr (g - (Z4 i p).1)=(Z4 i p).2.1:=by
 unfold aL7 Z4
 by_cases h9:i.op=9
 ·exact ⟨0,by simp [h9],by simp [h9]; rw [O3 (by unfold D6; omega)]⟩
 by_cases h11:i.op=11
 ·exact ⟨0,by simp [h11],by simp [h11]; rw [O3 (by unfold D6; omega)]⟩
 by_cases h12:i.op=12
 ·exact ⟨0,by simp [h12],by simp [h12]; rw [O3 (by unfold D6; omega)]⟩
 by_cases h16:i.op=16
 ·exact ⟨0,by simp [h16],by simp [h16]; rw [O3 (by unfold D6; omega)]⟩
 by_cases h17:i.op=17
 ·exact ⟨0,by simp [h17],by simp [h17]; rw [O3 (by unfold D6; omega)]⟩
 by_cases h10:i.op=10
 ·exact ⟨2,by simp [h10],by simp [h10]; rw [O3 (by unfold D6; omega)]⟩
 by_cases h14:i.op=14
 ·have:=h h14
  exact ⟨1,by simp [h14],by simp [h14]; rw [O3 (show D6 (i.a+1) by unfold D6; omega),O3 (by unfold D6; omega)]; omega⟩
 by_cases h15:i.op=15
 ·exact ⟨0,by simp [h15],by simp [h15]; rw [O3 (by unfold D6; omega)]⟩
 exact ⟨1,by simp [h9,h10,h11,h12,h14,h15,h16,h17],by simp [h9,h10,h11,h12,h14,h15,h16,h17]; rw [O3 (by unfold D6; omega)]⟩
end Go.Proofs.YtibjcppjfkamhaaGreatDoor
namespace Go.Proofs.YtibjcppjfkamhaaGreatDoor
open Go.RowKit
set_option linter.unusedVariables false
theorem aS4 (N:Nat):∀(n k:Nat) (v:List Int),n+k=v.length→U3 N n k v=some (v.take k++List.replicate n (-1))
 |0,k,v,h=>by rw [U3,List.take_of_length_le (by omega)]; simp
 |n+1,k,v,h=>by
  have hk:k < v.length:=by omega
  rw [U3,K4,List.getElem?_eq_getElem hk]
  simp only [Option.bind_some,Int.toNat_natCast]
  rw [aS4 N n (k+1) _ (by simp; omega)]
  congr 1
  rw [List.take_add_one,List.take_set_of_le (Nat.le_refl _),List.getElem?_set_self hk,List.replicate_succ]
  simp
def prA (a:J3):Int×Int:=(a.f0,a.f1)
def bZ1 (i:Ins) (p h:Int) (q:List J3):List J3 :=
 let q1:=if i.op=15∨i.op=17 then q else q++[⟨wr (p+1),h⟩]
 if i.op=15∨i.op=16 then q1++[⟨i.a,h⟩] else q1
theorem bM6 (i:Ins) (p h:Int) (q:List J3):(bZ1 i p h q).map prA=q.map prA++(Z4 i p).2.2.map fun x=>(x,h):=by
 unfold bZ1 Z4
 by_cases h15:i.op=15
 ·simp [h15,prA]
 by_cases h16:i.op=16
 ·simp [h16,prA]
 by_cases h17:i.op=17
 ·simp [h17]
 by_cases h9:i.op=9
 ·simp [h9,prA]
 by_cases h11:i.op=11
 ·simp [h11,prA]
 by_cases h12:i.op=12
 ·simp [h12,prA]
 by_cases h10:i.op=10
 ·simp [h10,prA]
 by_cases h14:i.op=14
 ·simp [h14,prA]
 simp [h15,h16,h17,h9,h11,h12,h10,h14,prA]
theorem aJ9 (N:Nat) (m:Me) (hm:bH6 m) (hc:m.code.length≤1048576):∀(n:Nat) (h:List Int) (q:List J3),q.length+2*aU8 h≤4194304→h.length=m.code.length →
  hOk (q.map prA)→U4 N m n h q=hgt m n h (q.map prA)
 |0,_,_,_,_,_=>rfl
 |n+1,h,[],_,_,_=>by
  rw [U4]
  simp [hgt]
 |n+1,h,⟨p,x⟩::q,hb,hh,ho=>by
  rw [U4]
  have hx:=ho (p,x) (by simp [prA])
  have hr:hOk (q.map prA):=fun z hz=>ho z (by rw [List.map_cons]; exact List.mem_cons_of_mem _ hz)
  have hlt':(0:Int) < (((⟨p,x⟩:J3)::q).length:Int):=by simp only [List.length_cons]; omega
  have hg:(decide (0≤(1:Int)) && decide ((1:Int)≤(((⟨p,x⟩:J3)::q).length:Int)))=true:=by simp only [Bool.and_eq_true,decide_eq_true_eq,List.length_cons]; omega
  have hn0:F5 ((⟨p,x⟩:J3)::q) (0:Int)=some ⟨p,x⟩:=rfl
  have hd:((⟨p,x⟩:J3)::q).drop (1:Int).toNat=q:=rfl
  simp only [List.length_cons] at hb
  rw [List.map_cons,show prA ⟨p,x⟩=(p,x) from rfl,hgt]
  simp only [hlt',decide_true,cond_true,hn0,Option.bind_some,hg,hd]
  by_cases h1':p < 0
  ·simp only [h1',decide_true,cond_true,Option.bind_some,or_true,if_true]
  by_cases h1:(m.code.length:Int)≤p
  ·simp only [h1,h1',decide_true,decide_false,cond_true,cond_false,Option.bind_some,true_or,if_true]
  simp only [h1,h1',decide_false,cond_false,Option.bind_some,or_self,if_false]
  have hpl:p.toNat < m.code.length:=by omega
  have hp0:0≤p:=by omega
  have e1:h[p.toNat]?=some (h[p.toNat]'(by omega)):=List.getElem?_eq_getElem (by omega)
  have e2:m.code[p.toNat]?=some m.code[p.toNat]:=List.getElem?_eq_getElem hpl
  generalize h[p.toNat]'(by omega)=y at e1
  have hi:=hm _ (List.getElem_mem hpl)
  generalize m.code[p.toNat]=i at e2 hi
  have n1:F5 h p=some y:=by rw [aY3 hp0,e1]
  have n2:F5 m.code p=some i:=by rw [aY3 hp0,e2]
  obtain ⟨g,hg1,hg2⟩:=cH9 N i p hi
  simp only [n1,n2,e1,e2,Option.bind_some,hg1,hg2]
  by_cases h2:0≤y
  ·simp only [h2,decide_true,cond_true,if_true]
   by_cases h3:y=x
   ·simp only [h3,decide_true,Bool.not_true,cond_false,Option.bind_some,if_true]
    exact aJ9 N m hm hc n h q (by omega) hh hr
   ·simp only [h3,decide_false,Bool.not_false,cond_true,Option.bind_some,if_false]
  simp only [h2,decide_false,cond_false,if_false]
  by_cases h3:x < (Z4 i p).1
  ·simp only [h3,decide_true,cond_true,Option.bind_some,true_or,if_true]
  by_cases h4:i.op=17∧x≠1
  ·simp only [h3,h4.1,h4.2,decide_true,decide_false,cond_true,cond_false,Option.bind_some,Bool.not_false,or_true,if_true,ne_eq,not_false_eq_true,and_self]
  have hq:((bif decide (i.op=(17:Int)) then some ((!decide (x=(1:Int)))) else some (false)):Option Bool)=some false:=by
   by_cases h5:i.op=17
   ·by_cases h6:x=1
    ·simp [h6]
    ·exact absurd ⟨h5,h6⟩ h4
   ·simp [h5]
  simp only [h3,h4,hq,decide_false,cond_false,Option.bind_some,or_self,if_false]
  by_cases h5:12 < wr (x+(Z4 i p).2.1)
  ·simp only [h5,decide_true,cond_true,Option.bind_some,if_true]
  simp only [h5,decide_false,cond_false,if_false]
  have hb2:=bG4 hx.1 hx.2 h3 h5 hi
  have hu:=bE1 (y:=x) e1 (by omega) hx.1
  have hl2:=bS2 i p
  have hl3:=congrArg List.length (bM6 i p (wr (x+(Z4 i p).2.1)) q)
  simp only [List.length_map,List.length_append] at hl3
  have go:=aJ9 N m hm hc n (h.set p.toNat x) (bZ1 i p (wr (x+(Z4 i p).2.1)) q) (by omega) (by simpa using hh) (by
   rw [bM6]
   intro z hz
   rcases List.mem_append.1 hz with hz|hz
   ·exact hr z hz
   ·obtain ⟨z,_,rfl⟩:=List.mem_map.1 hz
    exact ⟨hb2.1,hb2.2.1⟩)
  rw [bM6] at go
  rw [←go]
  generalize wr (x+(Z4 i p).2.1)=H
  have c1:Nat.ble ((q.length+1)*16) 140737488355328=true:=aY1 (by omega)
  have c3:Nat.ble ((q.length+1+1)*16) 140737488355328=true:=aY1 (by omega)
  unfold bZ1
  by_cases h15:i.op=15
  ·simp [h15,c1]
  by_cases h16:i.op=16
  ·simp [h16,c1,c3]
  by_cases h17:i.op=17
  ·simp [h17]
  simp [h15,h16,h17,c1]
theorem bP0 (N:Nat) (m:Me) (hm:bH6 m) (hc:m.code.length≤1048576):aK2 N m=(hgt m N (List.replicate m.code.length (-1)) [(0,0)]).map bU4:=by
 unfold aK2
 have e0:(decide (0≤(m.code.length:Int)) && decide ((m.code.length:Int)≤140737488355328) && decide ((m.code.length:Int)*8≤140737488355328))=true:=by
  simp only [Bool.and_eq_true,decide_eq_true_eq]; omega
 have e1:(((List.replicate (m.code.length:Int).toNat (0:Int)).length:Int) - ((0:Nat):Int)).toNat=m.code.length:=by simp
 rw [e0,e1,aS4 N _ 0 _ (by simp)]
 simp only [cond_true,Option.bind_some,List.take_zero,List.nil_append]
 have h:=aJ9 N m hm hc N (List.replicate m.code.length (-1)) [⟨0,0⟩] (by rw [bF9]; simp; omega) (by simp) (by
  intro q hq
  simp only [List.map_cons,List.map_nil,prA,List.mem_cons,List.not_mem_nil,or_false] at hq
  subst hq; decide)
 rw [h]
 show _=(hgt m N (List.replicate m.code.length (-1)) [(0,0)]).map bU4
 rw [show ([(⟨0,0⟩:J3)].map prA)=[((0:Int),(0:Int))] from rfl]
 cases hgt m N (List.replicate m.code.length (-1)) [(0,0)] with
 |none=>rfl
 |some o=>cases o<;>rfl
end Go.Proofs.YtibjcppjfkamhaaGreatDoor
namespace Go.Proofs.YtibjcppjfkamhaaGreatDoor
open Go.RowKit
set_option linter.unusedVariables false
theorem b89 (m:Me):∀(n:Nat) (h:List Int) (q:List (Int×Int)) (r:List Int×D8),hgt m n h q=some (.ret r)→r.2.err≠0
 |0,h,q,r,e=>by cases e
 |n+1,h,[],r,e=>by rw [hgt] at e; cases e
 |n+1,h,(p,x)::l,r,e=>by
  rw [hgt] at e
  (repeat' split at e)<;>first|(cases e; done)|(cases e; simp; done)|exact b89 m n _ _ r e
theorem cS7 : hOk [(0,0)]:=by
 intro q hq
 simp only [List.mem_cons,List.not_mem_nil,or_false] at hq
 subst hq; decide
def aQ4 (w:Wd) (c:Int) (m:Me):List Ins→Nat→C9 D8 Unit
 |[],_=>.next ()
 |i::l,k=>if aL1 w c m i=0 then aQ4 w c m l (k+1) else .ret ⟨aL1 w c m i,k⟩
theorem aN1 {w:Wd} {c:Int} {m:Me}:∀{l:List Ins} {k:Nat},aQ4 w c m l k=.next ()→∀i∈l,aL1 w c m i=0
 |[],_,_,i,hi=>by cases hi
 |x::l,k,h,i,hi=>by
  rw [aQ4] at h
  split at h
  ·rename_i h0
   rcases List.mem_cons.1 hi with rfl|hi
   ·exact h0
   ·exact aN1 h i hi
  ·cases h
theorem b23 {w:Wd} {c:Int} {m:Me}:∀{l:List Ins} {k:Nat} {r:D8},aQ4 w c m l k=.ret r→r.err≠0
 |[],_,_,h=>by cases h
 |x::l,k,r,h=>by
  rw [aQ4] at h
  split at h
  ·exact b23 h
  ·rename_i h0; cases h; exact h0
theorem aZ0 {w:Wd} {c:Int} {m:Me} {i:Ins} (h:aL1 w c m i=0) (ho:i.op=14):0≤i.a∧i.a≤4:=by
 unfold aL1 bO7 at h
 simp only [ho] at h
 by_cases h1:0≤i.a
 ·by_cases h2:i.a < 5
  ·omega
  ·simp [h1,h2] at h
 ·simp [h1] at h
def checkN (N:Nat) (w:Wd) (c:Int) (m:Me):Option D8 :=
 if c < 0∨(w.classes.length:Int)≤c then some ⟨6,0⟩ else if aA7 m.name=false then some ⟨7,0⟩
 else if m.args < 0∨4 < m.args∨m.temps < 0∨6 < m.temps then some ⟨3,0⟩ else if m.prim≠0 then some ⟨1,0⟩
 else if m.code.length < 1∨60 < m.code.length then some ⟨5,0⟩ else match aQ4 w c m m.code 0 with
  |.ret r=>some r
  |.next ()=>((hgt m N (List.replicate m.code.length (-1)) [(0,0)]).map bU4).map (·.2)
theorem aV9 (N:Nat) (w:Wd) (c:Int) (m:Me) (hN:1048578≤N) (hs:w.classes.length≤1048576):∀(l:List Ins) (k:Nat),aC3 N w c m l k=some (aQ4 w c m l k)
 |[],k=>rfl
 |x::l,k=>by
  rw [aC3,aQ4,bQ6 N w c m x hN hs]
  simp only [Option.bind_some]
  by_cases h:aL1 w c m x=0
  ·simp only [h,decide_true,Bool.not_true,cond_false,if_true]
   exact aV9 N w c m hN hs l (k+1)
  ·simp only [h,decide_false,Bool.not_false,cond_true,if_false]
theorem bY6 (N:Nat) (w:Wd) (c:Int) (m:Me) (hN:1048578≤N) (hs:w.classes.length≤1048576):aN6 N w c m=checkN N w c m:=by
 unfold aN6 checkN
 simp only [aT4,Option.bind_some,aV9 N w c m hN hs]
 by_cases h1:c < 0
 ·simp [h1]
 by_cases h2:(w.classes.length:Int)≤c
 ·simp [h1,h2]
 cases h3:aA7 m.name with
 |false=>simp [h1,h2]
 |true =>
  by_cases h4:m.args < 0
  ·simp [h1,h2,h4]
  by_cases h5:4 < m.args
  ·simp [h1,h2,h4,h5]
  by_cases h6:m.temps < 0
  ·simp [h1,h2,h4,h5,h6]
  by_cases h7:6 < m.temps
  ·simp [h1,h2,h4,h5,h6,h7]
  by_cases h8:m.prim=0
  ·by_cases h9:m.code.length < 1
   ·have h9':(m.code.length:Int) < 1:=by omega
    simp only [h1,h2,h4,h5,h6,h7,h8,h9,h9',decide_true,decide_false,cond_true,cond_false,Option.bind_some,or_self,if_false,Bool.not_true,Bool.not_false,or_true,true_or,if_true,ne_eq,not_true,not_false_eq_true,Bool.true_eq_false]
   ·have h9':¬(m.code.length:Int) < 1:=by omega
    by_cases h10:60 < m.code.length
    ·have h10':(60:Int) < (m.code.length:Int):=by omega
     simp only [h1,h2,h4,h5,h6,h7,h8,h9,h9',h10,h10',decide_true,decide_false,cond_true,cond_false,Option.bind_some,or_self,if_false,Bool.not_true,Bool.not_false,or_true,true_or,if_true,ne_eq,not_true,not_false_eq_true,Bool.true_eq_false]
    ·have h10':¬(60:Int) < (m.code.length:Int):=by omega
     simp only [h1,h2,h4,h5,h6,h7,h8,h9,h9',h10,h10',decide_true,decide_false,cond_true,cond_false,Option.bind_some,or_self,if_false,Bool.not_true,Bool.not_false,ne_eq,not_true,not_false_eq_true,Bool.true_eq_false]
     cases hc:aQ4 w c m m.code 0 with
     |ret r=>rfl
     |next u =>
      simp only [bP0 N m (fun i hi ho=>aZ0 (aN1 hc i hi) ho) (by omega)]
      generalize (hgt m N (List.replicate m.code.length (-1)) [(0,0)]).map bU4=o
      cases o<;>rfl
  ·simp [h1,h2,h4,h5,h6,h7,h8]
structure cZ4 (N:Nat) (w:Wd) (c:Int) (m:Me):Prop where
 cls:0≤c∧c < w.classes.length
 name:aA7 m.name=true
 args:0≤m.args∧m.args≤4
 temps:0≤m.temps∧m.temps≤6
 prim:m.prim=0
 len:1≤m.code.length∧m.code.length≤60
 num:∀i∈m.code,aL1 w c m i=0
 neg:bH6 m
 hgt:∃h,hgt m N (List.replicate m.code.length (-1)) [(0,0)]=some (.next h)
theorem cE7 {N:Nat} {w:Wd} {c:Int} {m:Me} {f:D8} (h:checkN N w c m=some f) (h0:f.err=0):cZ4 N w c m:=by
 unfold checkN at h
 by_cases h1:c < 0∨(w.classes.length:Int)≤c
 ·rw [if_pos h1] at h; cases h; cases h0
 rw [if_neg h1] at h
 by_cases h2:aA7 m.name=false
 ·rw [if_pos h2] at h; cases h; cases h0
 rw [if_neg h2] at h
 by_cases h3:m.args < 0∨4 < m.args∨m.temps < 0∨6 < m.temps
 ·rw [if_pos h3] at h; cases h; cases h0
 rw [if_neg h3] at h
 by_cases h4:m.prim≠0
 ·rw [if_pos h4] at h; cases h; cases h0
 rw [if_neg h4] at h
 by_cases h5:m.code.length < 1∨60 < m.code.length
 ·rw [if_pos h5] at h; cases h; cases h0
 rw [if_neg h5] at h
 cases hc:aQ4 w c m m.code 0 with
 |ret r=>rw [hc] at h; cases h; exact absurd h0 (b23 hc)
 |next u =>
  rw [hc] at h
  simp only at h
  refine ⟨by omega,by cases hn:aA7 m.name<;>simp_all,by omega,by omega,Decidable.byContradiction h4,by omega,fun i hi=>aN1 hc i hi,fun i hi ho=>aZ0 (aN1 hc i hi) ho,?_⟩
  cases ho:Go.Proofs.YtibjcppjfkamhaaGreatDoor.hgt m N (List.replicate m.code.length (-1)) [(0,0)] with
  |none=>rw [ho] at h; cases h
  |some o =>
   rw [ho] at h
   cases o with
   |ret r=>cases h; exact absurd h0 (b89 m _ _ _ _ ho)
   |next h'=>exact ⟨h',rfl⟩
theorem a01 (N:Nat) (w:Wd) (c:Int) (m:Me) (hN:4194304≤N):∃f,checkN N w c m=some f:=by
 unfold checkN
 (repeat' split)<;>first|exact ⟨_,rfl⟩|skip
 rename_i h5 _ _ hc
 obtain ⟨o,ho⟩:=bN0 m (fun i hi ho=>aZ0 (aN1 hc i hi) ho) N (List.replicate m.code.length (-1)) [(0,0)] (by simp) cS7 (by rw [bF9]; simp; omega)
 rw [ho]
 exact ⟨_,rfl⟩
theorem aS2 (N:Nat) (w:Wd) (c:Int) (m:Me) (hn:∀i,aA3 N w c m i=some (aL1 w c m i)):∀(l:List Ins) (k:Nat),Y4 N w c m l k=some (aQ4 w c m l k)
 |[],k=>rfl
 |x::l,k=>by
  rw [Y4,aQ4,hn x]
  simp only [Option.bind_some]
  by_cases h:aL1 w c m x=0
  ·simp only [h,decide_true,Bool.not_true,cond_false,if_true]
   exact aS2 N w c m hn l (k+1)
  ·simp only [h,decide_false,Bool.not_false,cond_true,if_false]
theorem bP9 (N:Nat) (w:Wd) (c:Int) (m:Me) (hN:1048578≤N) (hs:w.classes.length≤1048576) (hsl:0≤I4 w c∧I4 w c≤1000000000):aK1 N w c m=checkN N w c m:=by
 unfold aK1 checkN
 simp only [aQ9,Option.bind_some]
 by_cases h1:c < 0
 ·simp [h1]
 by_cases h2:(w.classes.length:Int)≤c
 ·simp [h1,h2]
 cases h3:aA7 m.name with
 |false=>simp [h1,h2]
 |true =>
  by_cases h4:m.args < 0
  ·simp [h1,h2,h4]
  by_cases h5:4 < m.args
  ·simp [h1,h2,h4,h5]
  by_cases h6:m.temps < 0
  ·simp [h1,h2,h4,h5,h6]
  by_cases h7:6 < m.temps
  ·simp [h1,h2,h4,h5,h6,h7]
  by_cases h8:m.prim=0
  ·by_cases h9:m.code.length < 1
   ·have h9':(m.code.length:Int)=0:=by omega
    simp only [h1,h2,h4,h5,h6,h7,h8,h9,h9',decide_true,decide_false,cond_true,cond_false,Option.bind_some,or_self,if_false,Bool.not_true,Bool.not_false,or_true,true_or,if_true,ne_eq,not_true,not_false_eq_true,Bool.true_eq_false]
   ·have h9':¬(m.code.length:Int)=0:=by omega
    by_cases h10:60 < m.code.length
    ·have h10':(60:Int) < (m.code.length:Int):=by omega
     simp only [h1,h2,h4,h5,h6,h7,h8,h9,h9',h10,h10',decide_true,decide_false,cond_true,cond_false,Option.bind_some,or_self,if_false,Bool.not_true,Bool.not_false,or_true,true_or,if_true,ne_eq,not_true,not_false_eq_true,Bool.true_eq_false]
    ·have h10':¬(60:Int) < (m.code.length:Int):=by omega
     have hn:∀i,aA3 N w c m i=some (aL1 w c m i):=fun i=>bI1 N w c m i hN hs (by omega) (by omega) (by omega) hsl (by omega)
     simp only [h1,h2,h4,h5,h6,h7,h8,h9,h9',h10,h10',decide_true,decide_false,cond_false,Option.bind_some,or_self,if_false,Bool.not_true,ne_eq,not_true,Bool.true_eq_false,aS2 N w c m hn]
     cases hc:aQ4 w c m m.code 0 with
     |ret r=>rfl
     |next u =>
      simp only [bI4 N m (fun i hi ho=>aZ0 (aN1 hc i hi) ho) (by omega)]
      generalize (hgt m N (List.replicate m.code.length (-1)) [(0,0)]).map bU4=o
      cases o<;>rfl
  ·simp [h1,h2,h4,h5,h6,h7,h8]
end Go.Proofs.YtibjcppjfkamhaaGreatDoor
