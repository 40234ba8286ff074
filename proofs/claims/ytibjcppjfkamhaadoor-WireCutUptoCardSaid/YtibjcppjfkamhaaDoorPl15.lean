import Derived.Test.YtibjcppjfkamhaaDoorPl10
/- Plain laws of the mirrors: what a method of a right world is; fast code. No program in sight. -/
namespace Go.Proofs.YtibjcppjfkamhaaDoor
open Go.RowKit
set_option linter.unusedVariables false
end Go.Proofs.YtibjcppjfkamhaaDoor
namespace Go.Proofs.YtibjcppjfkamhaaDoor
open Go.RowKit
set_option linter.unusedVariables false
end Go.Proofs.YtibjcppjfkamhaaDoor
namespace Go.Proofs.YtibjcppjfkamhaaDoor
open Go.RowKit
set_option linter.unusedVariables false
theorem aM0 (N:Nat) (w:Wd) (hs:w.classes.length≤1048576):∀(n:Nat) (k:Nat) (c acc:Int),k≤w.classes.length+1→w.classes.length+1 - k < n →
  T9 N w n c acc (k:Int)=some ((bF8 w (w.classes.length+1 - k) c).foldl (fun n k=>match w.classes[k.toNat]? with|some x=>wr (n+x.slots)|none=>n) acc)
 |0,k,c,acc,_,h=>by omega
 |n+1,k,c,acc,hk,hn=>by
  rw [T9]
  by_cases h0:0≤c
  ·by_cases h1:c < w.classes.length
   ·obtain ⟨x,hx,hnth⟩:=bV1 h0 h1
    by_cases h2:k≤w.classes.length
    ·have h2':(k:Int)≤(w.classes.length:Int):=by omega
     have e:w.classes.length+1 - k=(w.classes.length - k)+1:=by omega
     have wk:wr ((k:Int)+1)=((k+1:Nat):Int):=by rw [Q9 (by unfold z8; omega)]; omega
     simp only [h0,h1,h2',decide_true,cond_true,Option.bind_some,hnth,wk]
     rw [aM0 N w hs n (k+1) _ _ (by omega) (by omega),e,bF8,if_pos h0,hx]
     simp only [List.foldl_cons,hx]
     rw [show w.classes.length+1 - (k+1)=w.classes.length - k by omega]
    ·have h2':¬(k:Int)≤(w.classes.length:Int):=by omega
     have e:w.classes.length+1 - k=0:=by omega
     simp only [h0,h1,h2',decide_true,decide_false,cond_true,cond_false,Option.bind_some,e]
     rfl
   ·have hx:w.classes[c.toNat]?=none:=bS9 h1
    simp only [h0,h1,decide_true,decide_false,cond_true,cond_false,Option.bind_some]
    cases hm:w.classes.length+1 - k with
    |zero=>rfl
    |succ m=>rw [bF8,if_pos h0,hx]; rfl
  ·simp only [h0,decide_false,cond_false,Option.bind_some]
   cases hm:w.classes.length+1 - k with
   |zero=>rfl
   |succ m=>rw [bF8,if_neg h0]; rfl
theorem aJ4 (N:Nat) (w:Wd) (c:Int) (hN:1048578≤N) (hs:w.classes.length≤1048576):Y0 N w c=some (aB0 w c):=by
 unfold Y0 aB0
 have h:=aM0 N w hs N 0 c 0 (by omega) (by omega)
 simp only [Nat.sub_zero,Int.ofNat_zero] at h
 rw [h]
 rfl
theorem aP1 (N:Nat) (s:ByteArray):∀(n k:Nat),n+k=s.size→V4 N s n k=some (if (s.data.toList.drop k).all nmB=true then .next () else .ret false)
 |0,k,h=>by
  rw [List.drop_eq_nil_of_le (by rw [show s.data.toList.length=s.size from rfl]; omega)]
  rfl
 |n+1,k,h=>by
  have hk:k < s.data.toList.length:=by rw [show s.data.toList.length=s.size from rfl]; omega
  rw [V4,List.drop_eq_getElem_cons hk,cG3,List.getElem?_eq_getElem hk,aP1 N s n (k+1) (by omega)]
  simp only [Option.bind_some,List.all_cons]
  generalize s.data.toList[k]=u
  generalize s.data.toList.drop (k+1)=b
  by_cases h1:(u.toNat:Int)≤32
  ·have h1':(u.toNat:Int) < 33:=by omega
   have e:nmB u=false:=by simp [nmB,h1']
   simp only [h1,e,decide_true,cond_true,Option.bind_some,Bool.false_and]; rfl
  ·have h1':¬(u.toNat:Int) < 33:=by omega
   by_cases h2:126 < (u.toNat:Int)
   ·have e:nmB u=false:=by simp only [nmB,h1',h2,decide_true,decide_false,Bool.not_true,Bool.and_false]
    simp only [h1,h2,e,decide_true,decide_false,cond_true,cond_false,Option.bind_some,Bool.false_and]; rfl
   ·have e:nmB u=true:=by simp only [nmB,h1',h2,decide_false,Bool.not_false,Bool.and_true]
    simp only [h1,h2,e,decide_false,cond_false,Option.bind_some,Bool.true_and]
theorem aL5 (N:Nat) (s:ByteArray):aC0 N s=some (Z5 s):=by
 unfold aC0 Z5
 have e:((s.size:Int) - ((0:Nat):Int)).toNat=s.size:=by omega
 rw [e,aP1 N s s.size 0 (by omega),List.drop_zero]
 by_cases h1:(s.size:Int) < 1
 ·have h1':¬0 < s.size:=by omega
  simp [h1,h1']
 ·have h1':0 < s.size:=by omega
  by_cases h2:(12:Int) < (s.size:Int)
  ·have h2':¬s.size≤12:=by omega
   simp [h1,h2,h2']
  ·have h2':s.size≤12:=by omega
   cases h:s.data.toList.all nmB<;>simp [h1,h2,h1',h2']
def bR9 (w:Wd) (c:Int) (m:Me) (i:Ins):Option Bool :=
 if i.op=1∨i.op=6∨i.op=7∨i.op=8∨i.op=9∨i.op=10∨i.op=17 then some (decide (i.a=0))
 else if i.op=2 then some (decide (0≤i.a) && decide (i.a < m.args))
 else if i.op=3∨i.op=11 then some (decide (0≤i.a) && decide (i.a < m.temps))
 else if i.op=4∨i.op=12 then some (decide (0≤i.a) && decide (i.a < aB0 w c))
 else if i.op=5 then some (decide (-1073741824≤i.a) && decide (i.a≤1073741824))
 else if i.op=13 then some (decide (i.a=0) || (decide (4≤i.a) && decide (i.a < w.classes.length)))
 else if i.op=14 then some (decide (0≤i.a) && decide (i.a < 5))
 else if i.op=15∨i.op=16 then some (decide (0≤i.a) && decide (i.a < m.code.length))
 else none
def bZ4 (i:Ins):Bool:=(decide (i.op=14) && !Z5 i.name) || (!decide (i.op=14) && !decide (i.name=(⟨#[]⟩:ByteArray))) || !decide (i.b=0) || !decide (i.c=0)
def aP5 (w:Wd) (c:Int) (m:Me) (i:Ins):Int:=match bR9 w c m i with
 |none=>1
 |some ok=>if ok=true then (if bZ4 i=true then 2 else 0) else 3
theorem a19 (N:Nat) (a b:Int):M0 N a b=some (decide (0≤a) && decide (a < b)):=by
 unfold M0
 by_cases h:0≤a<;>simp [h]
theorem bE8 (N:Nat) (w:Wd) (c:Int) (m:Me) (i:Ins) (hN:1048578≤N) (hs:w.classes.length≤1048576):aD5 N w c m i=some (aP5 w c m i):=by
 unfold aD5 aP5 bR9 bZ4
 simp only [aJ4 N w c hN hs,aL5,a19,Option.bind_some]
 generalize decide (i.b=0)=B
 generalize decide (i.c=0)=C
 generalize decide (i.name=(⟨#[]⟩:ByteArray))=E
 generalize decide (i.a=0)=A0
 generalize decide (0≤i.a)=A1
 generalize decide (i.a < m.args)=A2
 generalize decide (i.a < m.temps)=A3
 generalize decide (i.a < aB0 w c)=A4
 generalize decide (-1073741824≤i.a)=A5
 generalize decide (i.a≤1073741824)=A6
 generalize decide (4≤i.a)=A7
 generalize decide (i.a < (w.classes.length:Int))=A8
 generalize decide (i.a < 5)=A9
 generalize decide (i.a < (m.code.length:Int))=A10
 generalize Z5 i.name=M
 by_cases h1:i.op=1
 ·simp only [h1]; cases A0<;>cases B<;>cases C<;>cases E<;>simp
 by_cases h6:i.op=6
 ·simp only [h6]; cases A0<;>cases B<;>cases C<;>cases E<;>simp
 by_cases h7:i.op=7
 ·simp only [h7]; cases A0<;>cases B<;>cases C<;>cases E<;>simp
 by_cases h8:i.op=8
 ·simp only [h8]; cases A0<;>cases B<;>cases C<;>cases E<;>simp
 by_cases h9:i.op=9
 ·simp only [h9]; cases A0<;>cases B<;>cases C<;>cases E<;>simp
 by_cases h10:i.op=10
 ·simp only [h10]; cases A0<;>cases B<;>cases C<;>cases E<;>simp
 by_cases h17:i.op=17
 ·simp only [h17]; cases A0<;>cases B<;>cases C<;>cases E<;>simp
 by_cases h2:i.op=2
 ·simp only [h2]; cases A1<;>cases A2<;>cases B<;>cases C<;>cases E<;>simp
 by_cases h3:i.op=3
 ·simp only [h3]; cases A1<;>cases A3<;>cases B<;>cases C<;>cases E<;>simp
 by_cases h11:i.op=11
 ·simp only [h11]; cases A1<;>cases A3<;>cases B<;>cases C<;>cases E<;>simp
 by_cases h4:i.op=4
 ·simp only [h4]; cases A1<;>cases A4<;>cases B<;>cases C<;>cases E<;>simp
 by_cases h12:i.op=12
 ·simp only [h12]; cases A1<;>cases A4<;>cases B<;>cases C<;>cases E<;>simp
 by_cases h5:i.op=5
 ·simp only [h5]; cases A5<;>cases A6<;>cases B<;>cases C<;>cases E<;>simp
 by_cases h13:i.op=13
 ·simp only [h13]; cases A0<;>cases A7<;>cases A8<;>cases B<;>cases C<;>cases E<;>simp
 by_cases h14:i.op=14
 ·simp only [h14]; cases A1<;>cases A9<;>cases B<;>cases C<;>cases M<;>simp
 by_cases h15:i.op=15
 ·simp only [h15]; cases A1<;>cases A10<;>cases B<;>cases C<;>cases E<;>simp
 by_cases h16:i.op=16
 ·simp only [h16]; cases A1<;>cases A10<;>cases B<;>cases C<;>cases E<;>simp
 simp [h1,h6,h7,h8,h9,h10,h17,h2,h3,h11,h4,h12,h5,h13,h14,h15,h16]
theorem b65 (N:Nat) (i:Ins) (p:Int) (h:i.op=14→0≤i.a∧i.a≤4):∃g,aF6 N i=some ((nxN i p).1,g)∧wr (g - (nxN i p).1)=(nxN i p).2.1:=by
 unfold aF6 nxN
 by_cases h9:i.op=9
 ·exact ⟨0,by simp [h9],by simp [h9]; rw [Q9 (by unfold z8; omega)]⟩
 by_cases h11:i.op=11
 ·exact ⟨0,by simp [h11],by simp [h11]; rw [Q9 (by unfold z8; omega)]⟩
 by_cases h12:i.op=12
 ·exact ⟨0,by simp [h12],by simp [h12]; rw [Q9 (by unfold z8; omega)]⟩
 by_cases h16:i.op=16
 ·exact ⟨0,by simp [h16],by simp [h16]; rw [Q9 (by unfold z8; omega)]⟩
 by_cases h17:i.op=17
 ·exact ⟨0,by simp [h17],by simp [h17]; rw [Q9 (by unfold z8; omega)]⟩
 by_cases h10:i.op=10
 ·exact ⟨2,by simp [h10],by simp [h10]; rw [Q9 (by unfold z8; omega)]⟩
 by_cases h14:i.op=14
 ·have:=h h14
  exact ⟨1,by simp [h14],by simp [h14]; rw [Q9 (show z8 (i.a+1) by unfold z8; omega),Q9 (by unfold z8; omega)]; omega⟩
 by_cases h15:i.op=15
 ·exact ⟨0,by simp [h15],by simp [h15]; rw [Q9 (by unfold z8; omega)]⟩
 exact ⟨1,by simp [h9,h10,h11,h12,h14,h15,h16,h17],by simp [h9,h10,h11,h12,h14,h15,h16,h17]; rw [Q9 (by unfold z8; omega)]⟩
end Go.Proofs.YtibjcppjfkamhaaDoor
namespace Go.Proofs.YtibjcppjfkamhaaDoor
open Go.RowKit
set_option linter.unusedVariables false
theorem aL0 (N:Nat):∀(n k:Nat) (v:List Int),n+k=v.length→N7 N n k v=some (v.take k++List.replicate n (-1))
 |0,k,v,h=>by rw [N7,List.take_of_length_le (by omega)]; simp
 |n+1,k,v,h=>by
  have hk:k < v.length:=by omega
  rw [N7,aA4,List.getElem?_eq_getElem hk]
  simp only [Option.bind_some,Int.toNat_natCast]
  rw [aL0 N n (k+1) _ (by simp; omega)]
  congr 1
  rw [List.take_add_one,List.take_set_of_le (Nat.le_refl _),List.getElem?_set_self hk,List.replicate_succ]
  simp
def prA (a:G6):Int×Int:=(a.f0,a.f1)
def bM2 (i:Ins) (p h:Int) (q:List G6):List G6 :=
 let q1:=if i.op=15∨i.op=17 then q else q++[⟨wr (p+1),h⟩]
 if i.op=15∨i.op=16 then q1++[⟨i.a,h⟩] else q1
theorem bB7 (i:Ins) (p h:Int) (q:List G6):(bM2 i p h q).map prA=q.map prA++(nxN i p).2.2.map fun x=>(x,h):=by
 unfold bM2 nxN
 by_cases h15:i.op=15
 ·simp [h15,prA]
 by_cases h16:i.op=16
 ·simp [h16,prA]
 by_cases h17:i.op=17
 ·simp [h17]
 by_cases h9:i.op=9
 ·simp [h9,prA]
 by_cases h11:i.op=11
 ·simp [h11,prA]
 by_cases h12:i.op=12
 ·simp [h12,prA]
 by_cases h10:i.op=10
 ·simp [h10,prA]
 by_cases h14:i.op=14
 ·simp [h14,prA]
 simp [h15,h16,h17,h9,h11,h12,h10,h14,prA]
theorem aD6 (N:Nat) (m:Me) (hm:bM4 m) (hc:m.code.length≤1048576):∀(n:Nat) (h:List Int) (q:List G6),q.length+2*aQ5 h≤4194304→h.length=m.code.length →
  hOk (q.map prA)→M9 N m n h q=hgt m n h (q.map prA)
 |0,_,_,_,_,_=>rfl
 |n+1,h,[],_,_,_=>by
  rw [M9]
  simp [hgt]
 |n+1,h,⟨p,x⟩::q,hb,hh,ho=>by
  rw [M9]
  have hx:=ho (p,x) (by simp [prA])
  have hr:hOk (q.map prA):=fun z hz=>ho z (by rw [List.map_cons]; exact List.mem_cons_of_mem _ hz)
  have hlt':(0:Int) < (((⟨p,x⟩:G6)::q).length:Int):=by simp only [List.length_cons]; omega
  have hg:(decide (0≤(1:Int)) && decide ((1:Int)≤(((⟨p,x⟩:G6)::q).length:Int)))=true:=by simp only [Bool.and_eq_true,decide_eq_true_eq,List.length_cons]; omega
  have hn0:M7 ((⟨p,x⟩:G6)::q) (0:Int)=some ⟨p,x⟩:=rfl
  have hd:((⟨p,x⟩:G6)::q).drop (1:Int).toNat=q:=rfl
  simp only [List.length_cons] at hb
  rw [List.map_cons,show prA ⟨p,x⟩=(p,x) from rfl,hgt]
  simp only [hlt',decide_true,cond_true,hn0,Option.bind_some,hg,hd]
  by_cases h1':p < 0
  ·simp only [h1',decide_true,cond_true,Option.bind_some,or_true,if_true]
  by_cases h1:(m.code.length:Int)≤p
  ·simp only [h1,h1',decide_true,decide_false,cond_true,cond_false,Option.bind_some,true_or,if_true]
  simp only [h1,h1',decide_false,cond_false,Option.bind_some,or_self,if_false]
  have hpl:p.toNat < m.code.length:=by omega
  have hp0:0≤p:=by omega
  have e1:h[p.toNat]?=some (h[p.toNat]'(by omega)):=List.getElem?_eq_getElem (by omega)
  have e2:m.code[p.toNat]?=some m.code[p.toNat]:=List.getElem?_eq_getElem hpl
  generalize h[p.toNat]'(by omega)=y at e1
  have hi:=hm _ (List.getElem_mem hpl)
  generalize m.code[p.toNat]=i at e2 hi
  have n1:M7 h p=some y:=by rw [bB6 hp0,e1]
  have n2:M7 m.code p=some i:=by rw [bB6 hp0,e2]
  obtain ⟨g,hg1,hg2⟩:=b65 N i p hi
  simp only [n1,n2,e1,e2,Option.bind_some,hg1,hg2]
  by_cases h2:0≤y
  ·simp only [h2,decide_true,cond_true,if_true]
   by_cases h3:y=x
   ·simp only [h3,decide_true,Bool.not_true,cond_false,Option.bind_some,if_true]
    exact aD6 N m hm hc n h q (by omega) hh hr
   ·simp only [h3,decide_false,Bool.not_false,cond_true,Option.bind_some,if_false]
  simp only [h2,decide_false,cond_false,if_false]
  by_cases h3:x < (nxN i p).1
  ·simp only [h3,decide_true,cond_true,Option.bind_some,true_or,if_true]
  by_cases h4:i.op=17∧x≠1
  ·simp only [h3,h4.1,h4.2,decide_true,decide_false,cond_true,cond_false,Option.bind_some,Bool.not_false,or_true,if_true,ne_eq,not_false_eq_true,and_self]
  have hq:((bif decide (i.op=(17:Int)) then some ((!decide (x=(1:Int)))) else some (false)):Option Bool)=some false:=by
   by_cases h5:i.op=17
   ·by_cases h6:x=1
    ·simp [h6]
    ·exact absurd ⟨h5,h6⟩ h4
   ·simp [h5]
  simp only [h3,h4,hq,decide_false,cond_false,Option.bind_some,or_self,if_false]
  by_cases h5:12 < wr (x+(nxN i p).2.1)
  ·simp only [h5,decide_true,cond_true,Option.bind_some,if_true]
  simp only [h5,decide_false,cond_false,if_false]
  have hb2:=bK9 hx.1 hx.2 h3 h5 hi
  have hu:=bI9 (y:=x) e1 (by omega) hx.1
  have hl2:=bW2 i p
  have hl3:=congrArg List.length (bB7 i p (wr (x+(nxN i p).2.1)) q)
  simp only [List.length_map,List.length_append] at hl3
  have go:=aD6 N m hm hc n (h.set p.toNat x) (bM2 i p (wr (x+(nxN i p).2.1)) q) (by omega) (by simpa using hh) (by
   rw [bB7]
   intro z hz
   rcases List.mem_append.1 hz with hz|hz
   ·exact hr z hz
   ·obtain ⟨z,_,rfl⟩:=List.mem_map.1 hz
    exact ⟨hb2.1,hb2.2.1⟩)
  rw [bB7] at go
  rw [←go]
  generalize wr (x+(nxN i p).2.1)=H
  have c1:Nat.ble ((q.length+1)*16) 140737488355328=true:=bO4 (by omega)
  have c3:Nat.ble ((q.length+1+1)*16) 140737488355328=true:=bO4 (by omega)
  unfold bM2
  by_cases h15:i.op=15
  ·simp [h15,c1]
  by_cases h16:i.op=16
  ·simp [h16,c1,c3]
  by_cases h17:i.op=17
  ·simp [h17]
  simp [h15,h16,h17,c1]
theorem bE3 (N:Nat) (m:Me) (hm:bM4 m) (hc:m.code.length≤1048576):aD9 N m=(hgt m N (List.replicate m.code.length (-1)) [(0,0)]).map bW6:=by
 unfold aD9
 have e0:(decide (0≤(m.code.length:Int)) && decide ((m.code.length:Int)≤140737488355328) && decide ((m.code.length:Int)*8≤140737488355328))=true:=by
  simp only [Bool.and_eq_true,decide_eq_true_eq]; omega
 have e1:(((List.replicate (m.code.length:Int).toNat (0:Int)).length:Int) - ((0:Nat):Int)).toNat=m.code.length:=by simp
 rw [e0,e1,aL0 N _ 0 _ (by simp)]
 simp only [cond_true,Option.bind_some,List.take_zero,List.nil_append]
 have h:=aD6 N m hm hc N (List.replicate m.code.length (-1)) [⟨0,0⟩] (by rw [bL0]; simp; omega) (by simp) (by
  intro q hq
  simp only [List.map_cons,List.map_nil,prA,List.mem_cons,List.not_mem_nil,or_false] at hq
  subst hq; decide)
 rw [h]
 show _=(hgt m N (List.replicate m.code.length (-1)) [(0,0)]).map bW6
 rw [show ([(⟨0,0⟩:G6)].map prA)=[((0:Int),(0:Int))] from rfl]
 cases hgt m N (List.replicate m.code.length (-1)) [(0,0)] with
 |none=>rfl
 |some o=>cases o<;>rfl
end Go.Proofs.YtibjcppjfkamhaaDoor
namespace Go.Proofs.YtibjcppjfkamhaaDoor
open Go.RowKit
set_option linter.unusedVariables false
theorem bU7 (m:Me):∀(n:Nat) (h:List Int) (q:List (Int×Int)) (r:List Int×J6),hgt m n h q=some (.ret r)→r.2.err≠0
 |0,h,q,r,e=>by cases e
 |n+1,h,[],r,e=>by rw [hgt] at e; cases e
 |n+1,h,(p,x)::l,r,e=>by
  rw [hgt] at e
  (repeat' split at e)<;>first|(cases e; done)|(cases e; simp; done)|exact bU7 m n _ _ r e
theorem cE0 : hOk [(0,0)]:=by
 intro q hq
 simp only [List.mem_cons,List.not_mem_nil,or_false] at hq
 subst hq; decide
def aR5 (w:Wd) (c:Int) (m:Me):List Ins→Nat→J2 J6 Unit
 |[],_=>.next ()
 |i::l,k=>if aP5 w c m i=0 then aR5 w c m l (k+1) else .ret ⟨aP5 w c m i,k⟩
theorem aK4 {w:Wd} {c:Int} {m:Me}:∀{l:List Ins} {k:Nat},aR5 w c m l k=.next ()→∀i∈l,aP5 w c m i=0
 |[],_,_,i,hi=>by cases hi
 |x::l,k,h,i,hi=>by
  rw [aR5] at h
  split at h
  ·rename_i h0
   rcases List.mem_cons.1 hi with rfl|hi
   ·exact h0
   ·exact aK4 h i hi
  ·cases h
theorem bQ7 {w:Wd} {c:Int} {m:Me}:∀{l:List Ins} {k:Nat} {r:J6},aR5 w c m l k=.ret r→r.err≠0
 |[],_,_,h=>by cases h
 |x::l,k,r,h=>by
  rw [aR5] at h
  split at h
  ·exact bQ7 h
  ·rename_i h0; cases h; exact h0
theorem aZ4 {w:Wd} {c:Int} {m:Me} {i:Ins} (h:aP5 w c m i=0) (ho:i.op=14):0≤i.a∧i.a≤4:=by
 unfold aP5 bR9 at h
 simp only [ho] at h
 by_cases h1:0≤i.a
 ·by_cases h2:i.a < 5
  ·omega
  ·simp [h1,h2] at h
 ·simp [h1] at h
def checkN (N:Nat) (w:Wd) (c:Int) (m:Me):Option J6 :=
 if c < 0∨(w.classes.length:Int)≤c then some ⟨6,0⟩ else if Z5 m.name=false then some ⟨7,0⟩
 else if m.args < 0∨4 < m.args∨m.temps < 0∨6 < m.temps then some ⟨3,0⟩ else if m.prim≠0 then some ⟨1,0⟩
 else if m.code.length < 1∨60 < m.code.length then some ⟨5,0⟩ else match aR5 w c m m.code 0 with
  |.ret r=>some r
  |.next ()=>((hgt m N (List.replicate m.code.length (-1)) [(0,0)]).map bW6).map (·.2)
theorem aN7 (N:Nat) (w:Wd) (c:Int) (m:Me) (hN:1048578≤N) (hs:w.classes.length≤1048576):∀(l:List Ins) (k:Nat),V7 N w c m l k=some (aR5 w c m l k)
 |[],k=>rfl
 |x::l,k=>by
  rw [V7,aR5,bE8 N w c m x hN hs]
  simp only [Option.bind_some]
  by_cases h:aP5 w c m x=0
  ·simp only [h,decide_true,Bool.not_true,cond_false,if_true]
   exact aN7 N w c m hN hs l (k+1)
  ·simp only [h,decide_false,Bool.not_false,cond_true,if_false]
theorem bL9 (N:Nat) (w:Wd) (c:Int) (m:Me) (hN:1048578≤N) (hs:w.classes.length≤1048576):aG8 N w c m=checkN N w c m:=by
 unfold aG8 checkN
 simp only [aL5,Option.bind_some,aN7 N w c m hN hs]
 by_cases h1:c < 0
 ·simp [h1]
 by_cases h2:(w.classes.length:Int)≤c
 ·simp [h1,h2]
 cases h3:Z5 m.name with
 |false=>simp [h1,h2]
 |true =>
  by_cases h4:m.args < 0
  ·simp [h1,h2,h4]
  by_cases h5:4 < m.args
  ·simp [h1,h2,h4,h5]
  by_cases h6:m.temps < 0
  ·simp [h1,h2,h4,h5,h6]
  by_cases h7:6 < m.temps
  ·simp [h1,h2,h4,h5,h6,h7]
  by_cases h8:m.prim=0
  ·by_cases h9:m.code.length < 1
   ·have h9':(m.code.length:Int) < 1:=by omega
    simp only [h1,h2,h4,h5,h6,h7,h8,h9,h9',decide_true,decide_false,cond_true,cond_false,Option.bind_some,or_self,if_false,Bool.not_true,Bool.not_false,or_true,true_or,if_true,ne_eq,not_true,not_false_eq_true,Bool.true_eq_false]
   ·have h9':¬(m.code.length:Int) < 1:=by omega
    by_cases h10:60 < m.code.length
    ·have h10':(60:Int) < (m.code.length:Int):=by omega
     simp only [h1,h2,h4,h5,h6,h7,h8,h9,h9',h10,h10',decide_true,decide_false,cond_true,cond_false,Option.bind_some,or_self,if_false,Bool.not_true,Bool.not_false,or_true,true_or,if_true,ne_eq,not_true,not_false_eq_true,Bool.true_eq_false]
    ·have h10':¬(60:Int) < (m.code.length:Int):=by omega
     simp only [h1,h2,h4,h5,h6,h7,h8,h9,h9',h10,h10',decide_true,decide_false,cond_true,cond_false,Option.bind_some,or_self,if_false,Bool.not_true,Bool.not_false,ne_eq,not_true,not_false_eq_true,Bool.true_eq_false]
     cases hc:aR5 w c m m.code 0 with
     |ret r=>rfl
     |next u =>
      simp only [bE3 N m (fun i hi ho=>aZ4 (aK4 hc i hi) ho) (by omega)]
      generalize (hgt m N (List.replicate m.code.length (-1)) [(0,0)]).map bW6=o
      cases o<;>rfl
  ·simp [h1,h2,h4,h5,h6,h7,h8]
structure cN3 (N:Nat) (w:Wd) (c:Int) (m:Me):Prop where
 cls:0≤c∧c < w.classes.length
 name:Z5 m.name=true
 args:0≤m.args∧m.args≤4
 temps:0≤m.temps∧m.temps≤6
 prim:m.prim=0
 len:1≤m.code.length∧m.code.length≤60
 num:∀i∈m.code,aP5 w c m i=0
 neg:bM4 m
 hgt:∃h,hgt m N (List.replicate m.code.length (-1)) [(0,0)]=some (.next h)
theorem b58 {N:Nat} {w:Wd} {c:Int} {m:Me} {f:J6} (h:checkN N w c m=some f) (h0:f.err=0):cN3 N w c m:=by
 unfold checkN at h
 by_cases h1:c < 0∨(w.classes.length:Int)≤c
 ·rw [if_pos h1] at h; cases h; cases h0
 rw [if_neg h1] at h
 by_cases h2:Z5 m.name=false
 ·rw [if_pos h2] at h; cases h; cases h0
 rw [if_neg h2] at h
 by_cases h3:m.args < 0∨4 < m.args∨m.temps < 0∨6 < m.temps
 ·rw [if_pos h3] at h; cases h; cases h0
 rw [if_neg h3] at h
 by_cases h4:m.prim≠0
 ·rw [if_pos h4] at h; cases h; cases h0
 rw [if_neg h4] at h
 by_cases h5:m.code.length < 1∨60 < m.code.length
 ·rw [if_pos h5] at h; cases h; cases h0
 rw [if_neg h5] at h
 cases hc:aR5 w c m m.code 0 with
 |ret r=>rw [hc] at h; cases h; exact absurd h0 (bQ7 hc)
 |next u =>
  rw [hc] at h
  simp only at h
  refine ⟨by omega,by cases hn:Z5 m.name<;>simp_all,by omega,by omega,Decidable.byContradiction h4,by omega,fun i hi=>aK4 hc i hi,fun i hi ho=>aZ4 (aK4 hc i hi) ho,?_⟩
  cases ho:Go.Proofs.YtibjcppjfkamhaaDoor.hgt m N (List.replicate m.code.length (-1)) [(0,0)] with
  |none=>rw [ho] at h; cases h
  |some o =>
   rw [ho] at h
   cases o with
   |ret r=>cases h; exact absurd h0 (bU7 m _ _ _ _ ho)
   |next h'=>exact ⟨h',rfl⟩
theorem a88 (N:Nat) (w:Wd) (c:Int) (m:Me) (hN:4194304≤N):∃f,checkN N w c m=some f:=by
 unfold checkN
 (repeat' split)<;>first|exact ⟨_,rfl⟩|skip
 rename_i h5 _ _ hc
 obtain ⟨o,ho⟩:=bA5 m (fun i hi ho=>aZ4 (aK4 hc i hi) ho) N (List.replicate m.code.length (-1)) [(0,0)] (by simp) cE0 (by rw [bL0]; simp; omega)
 rw [ho]
 exact ⟨_,rfl⟩
end Go.Proofs.YtibjcppjfkamhaaDoor
