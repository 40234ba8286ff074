import Derived.Test.YtibjcppjfkamhaaDoorPl15
import Derived.Lib.AtoiAllCases
import Derived.Lib.ItoaLen
/- Plain laws: worlds as texts. No program in sight. -/
namespace Go.Proofs.YtibjcppjfkamhaaDoor
open Go.RowKit
set_option linter.unusedVariables false
theorem aW4 : ∀(u:Nat) (b:UInt8),b∈Lib.decDigits u→48≤b.toNat∧b.toNat≤57:=by
 intro u
 induction u using Nat.strongRecOn with
 |_ u ih =>
  intro b hb
  have one:∀d:Nat,d < 10→(UInt8.ofNat (48+d)).toNat=48+d:=fun d hd=>by simp; omega
  rw [Lib.decDigits] at hb
  split at hb
  ·simp only [List.mem_singleton] at hb
   subst hb
   rw [one u (by assumption)]
   omega
  ·rcases List.mem_append.1 hb with hb|hb
   ·exact ih (u / 10) (by omega) b hb
   ·simp only [List.mem_singleton] at hb
    subst hb
    rw [one (u % 10) (by omega)]
    omega
theorem aO3 (u:Nat):Lib.decDigits u≠[]:=by
 rw [Lib.decDigits]
 split<;>simp
theorem bC8 : ∀(u:Nat),u < 18446744073709551616→∀r,Lib.parseUint10 0 (Lib.decDigits u++r)=Lib.parseUint10 u r:=by
 intro u
 induction u using Nat.strongRecOn with
 |_ u ih =>
  intro hu r
  have one:∀d:Nat,d < 10→(UInt8.ofNat (48+d)).toNat=48+d:=fun d hd=>by simp; omega
  rw [Lib.decDigits]
  split
  ·rename_i h
   simp only [List.cons_append,List.nil_append,Lib.parseUint10,one u h]
   rw [if_pos (by omega),if_neg (by omega),if_neg (by omega)]
   congr 1
   omega
  ·rename_i h
   rw [List.append_assoc,ih (u / 10) (by omega) (by omega)]
   simp only [List.cons_append,List.nil_append,Lib.parseUint10,one (u % 10) (by omega)]
   rw [if_pos (by omega),if_neg (by omega),if_neg (by omega)]
   congr 1
   omega
theorem aK6 {u:Nat} (hu:u < 18446744073709551616):Lib.parseMag (Lib.decDigits u)=.ok u:=by
 unfold Lib.parseMag
 rw [if_neg (aO3 u)]
 have:=bC8 u hu []
 simpa [Lib.parseUint10] using this
theorem b35 {n:Int} (hn:z8 n):Lib.atoiAll (Lib.itoa n)=.ok n:=by
 unfold z8 at hn
 unfold Lib.itoa
 split
 ·rw [Lib.atoiAll_minus,aK6 (by omega)]
  simp only [Lib.signed]
  rw [if_neg (by omega)]
  congr 1
  omega
 ·have hp:=aK6 (u:=n.toNat) (by omega)
  have hm:=aW4 n.toNat
  cases hd:Lib.decDigits n.toNat with
  |nil=>exact absurd hd (aO3 _)
  |cons c r =>
   have hc:=hm c (by rw [hd]; simp)
   rw [hd] at hp
   rw [Lib.atoiAll_plain c r (by omega) (by omega),hp]
   simp only [Lib.signless]
   rw [if_neg (by omega)]
   congr 1
   omega
theorem b56 (n:Int):Lib.itoa n≠[]∧(32:UInt8) ∉ Lib.itoa n:=by
 have key:∀u:Nat,(32:UInt8) ∉ Lib.decDigits u:=fun u h=>by
  have:=aW4 u 32 h
  have e:(32:UInt8).toNat=32:=rfl
  omega
 unfold Lib.itoa
 split
 ·refine ⟨by simp,fun h=>?_⟩
  rcases List.mem_cons.1 h with h|h
  ·cases h
  ·exact key _ h
 ·exact ⟨aO3 _,key _⟩
abbrev BL := List UInt8
def wdT (s:ByteArray):BL:=s.data.toList++[32]
def nmT (n:Int):BL:=Lib.itoa n++[32]
def M5 (l:List Int):BL:=(l.map nmT).flatten
def aA9 (i:Ins):BL:=M5 [i.op,i.a]++(if i.op=14 then wdT i.name else [])
def meT (m:Me):BL:=wdT m.name++(M5 [m.args,m.temps,m.prim,(m.code.length:Int)]++(m.code.map aA9).flatten)
def clT (c:Cl):BL:=wdT c.name++(M5 [c.super,c.slots,(c.methods.length:Int)]++(c.methods.map meT).flatten)
def vT (v:V):BL:=M5 [v.k,v.n]
def obT (o:Ob):BL:=M5 [o.cls,(o.slots.length:Int)]++(o.slots.map vT).flatten
def Z7 (w:Wd):BL:=M5 [w.epoch,(w.classes.length:Int)]++((w.classes.map clT).flatten++(M5 [(w.heap.length:Int)]++(w.heap.map obT).flatten))
def U (t:BL):List Int:=t.map fun b=>(b.toNat:Int)
theorem aM4 (a b:BL):U (a++b)=U a++U b:=by simp [U]
theorem aB7 (t:BL):(U t).length=t.length:=by simp [U]
theorem bN2 (t:BL):(strOfNums (U t)).data.toList=t:=by
 rw [strOfNums_data,U,List.map_map]
 have:((fun n:Int=>UInt8.ofNat n.toNat)∘fun b:UInt8=>(b.toNat:Int))=id:=by
  funext b
  simp
 rw [this,List.map_id]
theorem bB0 (s:ByteArray):S9 s=U s.data.toList:=rfl
theorem aY5 {a b:ByteArray} (h:a.data.toList=b.data.toList):a=b:=by
 apply ByteArray.ext
 exact Array.toList_inj.1 h
theorem aN1 (s:ByteArray):s.data.toList.length=s.size:=by rw [Array.length_toList]; rfl
theorem Q3 {n:Int} (hn:z8 n):(nmT n).length≤22:=by
 have:=Lib.itoa_length_le n hn.1 hn.2
 simp only [nmT,List.length_append,List.length_singleton]
 omega
theorem a13 (N:Nat) (a:List Int) (s:ByteArray) (h:a.length+(wdT s).length≤140737488355328):L9 N a s=some (a++U (wdT s)):=by
 have hs:=aN1 s
 have hl:(S9 s).length=s.size:=by rw [bB0,aB7,hs]
 simp only [wdT,List.length_append,List.length_singleton,hs] at h
 unfold L9 M8 O8
 rw [Nat.ble_eq_true_of_le (show a.length+s.size≤140737488355328 by omega)]
 simp only [cond_true,Option.bind_some]
 rw [Nat.ble_eq_true_of_le (show ((a++S9 s).length+[(32:Int)].length)*1≤140737488355328 by simp only [List.length_append,hl,List.length_singleton]; omega)]
 simp only [cond_true,Option.bind_some,wdT,aM4,bB0]
 rw [List.append_assoc]
 rfl
theorem bV2 (N:Nat):∀(l:List Int) (k:Nat) (a:List Int),a.length+(M5 l).length≤140737488355328→J4 N l k a=some (a++U (M5 l))
 |[],k,a,_=>by simp [J4,M5,U]
 |n::l,k,a,h=>by
  have e:M5 (n::l)=nmT n++M5 l:=by simp [M5]
  rw [e,List.length_append] at h
  have ew:wdT ⟨(Lib.itoa n).toArray⟩=nmT n:=rfl
  rw [J4]
  simp only [strconv_Itoa,Option.bind_some]
  rw [a13 N a _ (by rw [ew]; omega),ew]
  simp only [Option.bind_some]
  rw [bV2 N l (k+1) _ (by rw [List.length_append,aB7]; omega),e,aM4,List.append_assoc]
theorem aG2 (N:Nat) (a l:List Int) (h:a.length+(M5 l).length≤140737488355328):G8 N a l=some (a++U (M5 l)):=by
 unfold G8
 rw [bV2 N l 0 a h]
 rfl
theorem a11 {α:Type} (tx:α→BL) (L:List α→Nat→List Int→Option (List Int)) (h0:∀k a,L [] k a=some a)
  (hs:∀x l k a,a.length+(tx x).length≤140737488355328→L (x::l) k a=L l (k+1) (a++U (tx x))):∀(l:List α) (k:Nat) (a:List Int),a.length+(l.map tx).flatten.length≤140737488355328→L l k a=some (a++U (l.map tx).flatten)
 |[],k,a,_=>by simp [h0,U]
 |x::l,k,a,h=>by
  simp only [List.map_cons,List.flatten_cons,List.length_append] at h
  rw [hs x l k a (by omega),a11 tx L h0 hs l (k+1) _ (by rw [List.length_append,aB7]; omega),List.map_cons,List.flatten_cons,aM4,List.append_assoc]
theorem bR0 (N:Nat):∀(l:List Ins) (k:Nat) (a:List Int),a.length+(l.map aA9).flatten.length≤140737488355328→H6 N l k a=some (a++U (l.map aA9).flatten) :=
 a11 aA9 (H6 N) (fun k a=>rfl) fun i l k a h=>by
  simp only [aA9,List.length_append] at h
  rw [H6,aG2 N a _ (by omega)]
  simp only [Option.bind_some]
  by_cases ho:i.op=14
  ·rw [if_pos ho] at h
   simp only [ho,decide_true,cond_true]
   rw [a13 N _ _ (by rw [List.length_append,aB7]; rw [ho] at h; omega)]
   simp only [Option.bind_some,aA9,ho,if_true,aM4,List.append_assoc]
  ·simp only [ho,decide_false,cond_false,Option.bind_some,aA9,if_false,aM4,U,List.map_nil,List.append_nil]
theorem bX4 (N:Nat) (a:List Int) (m:Me) (h:a.length+(meT m).length≤140737488355328):U2 N a m=some (a++U (meT m)):=by
 simp only [meT,List.length_append] at h
 unfold U2
 rw [a13 N a _ (by omega)]
 simp only [Option.bind_some]
 rw [aG2 N _ _ (by rw [List.length_append,aB7]; omega)]
 simp only [Option.bind_some]
 rw [bR0 N m.code 0 _ (by simp only [List.length_append,aB7]; omega)]
 simp only [Option.bind_some,meT,aM4,List.append_assoc]
theorem bU1 (N:Nat):∀(l:List Me) (k:Nat) (a:List Int),a.length+(l.map meT).flatten.length≤140737488355328→Q6 N l k a=some (a++U (l.map meT).flatten) :=
 a11 meT (Q6 N) (fun k a=>rfl) fun m l k a h=>by
  rw [Q6,bX4 N a m h]
  rfl
theorem bT7 (N:Nat):∀(l:List Cl) (k:Nat) (a:List Int),a.length+(l.map clT).flatten.length≤140737488355328→Q4 N l k a=some (a++U (l.map clT).flatten) :=
 a11 clT (Q4 N) (fun k a=>rfl) fun c l k a h=>by
  simp only [clT,List.length_append] at h
  rw [Q4,a13 N a _ (by omega)]
  simp only [Option.bind_some]
  rw [aG2 N _ _ (by rw [List.length_append,aB7]; omega)]
  simp only [Option.bind_some]
  rw [bU1 N c.methods 0 _ (by simp only [List.length_append,aB7]; omega)]
  simp only [Option.bind_some,clT,aM4,List.append_assoc]
theorem bT9 (N:Nat):∀(l:List V) (k:Nat) (a:List Int),a.length+(l.map vT).flatten.length≤140737488355328→Q5 N l k a=some (a++U (l.map vT).flatten) :=
 a11 vT (Q5 N) (fun k a=>rfl) fun v l k a h=>by
  rw [Q5,aG2 N a _ h]
  rfl
theorem bT8 (N:Nat):∀(l:List Ob) (k:Nat) (a:List Int),a.length+(l.map obT).flatten.length≤140737488355328→Q8 N l k a=some (a++U (l.map obT).flatten) :=
 a11 obT (Q8 N) (fun k a=>rfl) fun o l k a h=>by
  simp only [obT,List.length_append] at h
  rw [Q8,aG2 N a _ (by omega)]
  simp only [Option.bind_some]
  rw [bT9 N o.slots 0 _ (by rw [List.length_append,aB7]; omega)]
  simp only [Option.bind_some,obT,aM4,List.append_assoc]
theorem cJ0 (w:Wd):Z7 w≠[]:=by
 intro h
 have:=congrArg List.length h
 simp only [Z7,M5,List.map_cons,List.flatten_cons,nmT,List.length_append,List.length_singleton,List.length_nil] at this
 omega
theorem bN6 (N:Nat) (w:Wd) (h:(Z7 w).length≤140737488355328):aE7 N w=some (U (Z7 w)):=by
 have hne:=cJ0 w
 simp only [Z7,List.length_append] at h
 unfold aE7
 rw [aG2 N [] _ (by simp only [List.length_nil]; omega)]
 simp only [Option.bind_some,List.nil_append]
 rw [bT7 N w.classes 0 _ (by rw [aB7]; omega)]
 simp only [Option.bind_some]
 rw [aG2 N _ _ (by simp only [List.length_append,aB7]; omega)]
 simp only [Option.bind_some]
 rw [bT8 N w.heap 0 _ (by simp only [List.length_append,aB7]; omega)]
 have e:U (M5 [w.epoch,(w.classes.length:Int)])++U (w.classes.map clT).flatten++U (M5 [(w.heap.length:Int)])++U (w.heap.map obT).flatten=U (Z7 w):=by
  simp only [Z7,aM4,List.append_assoc]
 simp only [Option.bind_some,e]
 have h1:(U (Z7 w)).isEmpty=false:=by
  cases hq:Z7 w with
  |nil=>exact absurd hq hne
  |cons a l=>rfl
 rw [h1]
 simp only [Bool.not_false,cond_true,bB0,bN2]
end Go.Proofs.YtibjcppjfkamhaaDoor
