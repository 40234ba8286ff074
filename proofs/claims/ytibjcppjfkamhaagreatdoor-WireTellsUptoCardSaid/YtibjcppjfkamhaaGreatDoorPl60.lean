import Derived.Test.YtibjcppjfkamhaaGreatDoorPl15
import Derived.Lib.AtoiAllCases
import Derived.Lib.ItoaLen
/- Plain laws: worlds as texts. No program in sight. -/
namespace Go.Proofs.YtibjcppjfkamhaaGreatDoor
open Go.RowKit
set_option linter.unusedVariables false
theorem bC5 : ∀(u:Nat) (b:UInt8),b∈Lib.decDigits u→48≤b.toNat∧b.toNat≤57:=by
 intro u
 induction u using Nat.strongRecOn with
 |_ u ih =>
  intro b hb
  have one:∀d:Nat,d < 10→(UInt8.ofNat (48+d)).toNat=48+d:=fun d hd=>by simp; omega
  rw [Lib.decDigits] at hb
  split at hb
  ·simp only [List.mem_singleton] at hb
   subst hb
   rw [one u (by assumption)]
   omega
  ·rcases List.mem_append.1 hb with hb|hb
   ·exact ih (u / 10) (by omega) b hb
   ·simp only [List.mem_singleton] at hb
    subst hb
    rw [one (u % 10) (by omega)]
    omega
theorem aX0 (u:Nat):Lib.decDigits u≠[]:=by
 rw [Lib.decDigits]
 split<;>simp
theorem bO0 : ∀(u:Nat),u < 18446744073709551616→∀r,Lib.parseUint10 0 (Lib.decDigits u++r)=Lib.parseUint10 u r:=by
 intro u
 induction u using Nat.strongRecOn with
 |_ u ih =>
  intro hu r
  have one:∀d:Nat,d < 10→(UInt8.ofNat (48+d)).toNat=48+d:=fun d hd=>by simp; omega
  rw [Lib.decDigits]
  split
  ·rename_i h
   simp only [List.cons_append,List.nil_append,Lib.parseUint10,one u h]
   rw [if_pos (by omega),if_neg (by omega),if_neg (by omega)]
   congr 1
   omega
  ·rename_i h
   rw [List.append_assoc,ih (u / 10) (by omega) (by omega)]
   simp only [List.cons_append,List.nil_append,Lib.parseUint10,one (u % 10) (by omega)]
   rw [if_pos (by omega),if_neg (by omega),if_neg (by omega)]
   congr 1
   omega
theorem aS8 {u:Nat} (hu:u < 18446744073709551616):Lib.parseMag (Lib.decDigits u)=.ok u:=by
 unfold Lib.parseMag
 rw [if_neg (aX0 u)]
 have:=bO0 u hu []
 simpa [Lib.parseUint10] using this
theorem cF2 {n:Int} (hn:D6 n):Lib.atoiAll (Lib.itoa n)=.ok n:=by
 unfold D6 at hn
 unfold Lib.itoa
 split
 ·rw [Lib.atoiAll_minus,aS8 (by omega)]
  simp only [Lib.signed]
  rw [if_neg (by omega)]
  congr 1
  omega
 ·have hp:=aS8 (u:=n.toNat) (by omega)
  have hm:=bC5 n.toNat
  cases hd:Lib.decDigits n.toNat with
  |nil=>exact absurd hd (aX0 _)
  |cons c r =>
   have hc:=hm c (by rw [hd]; simp)
   rw [hd] at hp
   rw [Lib.atoiAll_plain c r (by omega) (by omega),hp]
   simp only [Lib.signless]
   rw [if_neg (by omega)]
   congr 1
   omega
theorem bV4 (n:Int):Lib.itoa n≠[]∧(32:UInt8) ∉ Lib.itoa n:=by
 have key:∀u:Nat,(32:UInt8) ∉ Lib.decDigits u:=fun u h=>by
  have:=bC5 u 32 h
  have e:(32:UInt8).toNat=32:=rfl
  omega
 unfold Lib.itoa
 split
 ·refine ⟨by simp,fun h=>?_⟩
  rcases List.mem_cons.1 h with h|h
  ·cases h
  ·exact key _ h
 ·exact ⟨aX0 _,key _⟩
abbrev BL := List UInt8
def wdT (s:ByteArray):BL:=s.data.toList++[32]
def nmT (n:Int):BL:=Lib.itoa n++[32]
def Q6 (l:List Int):BL:=(l.map nmT).flatten
def aE4 (i:Ins):BL:=Q6 [i.op,i.a]++(if i.op=14 then wdT i.name else [])
def meT (m:Me):BL:=wdT m.name++(Q6 [m.args,m.temps,m.prim,(m.code.length:Int)]++(m.code.map aE4).flatten)
def clT (c:Cl):BL:=wdT c.name++(Q6 [c.super,c.slots,(c.methods.length:Int)]++(c.methods.map meT).flatten)
def vT (v:V):BL:=Q6 [v.k,v.n]
def obT (o:Ob):BL:=Q6 [o.cls,(o.slots.length:Int)]++(o.slots.map vT).flatten
def woT (w:Wd):BL:=Q6 [w.epoch,(w.classes.length:Int)]++((w.classes.map clT).flatten++(Q6 [(w.heap.length:Int)]++(w.heap.map obT).flatten))
def U (t:BL):List Int:=t.map fun b=>(b.toNat:Int)
theorem aU2 (a b:BL):U (a++b)=U a++U b:=by simp [U]
theorem aM4 (t:BL):(U t).length=t.length:=by simp [U]
theorem cP2 (t:BL):(strOfNums (U t)).data.toList=t:=by
 rw [strOfNums_data,U,List.map_map]
 have:((fun n:Int=>UInt8.ofNat n.toNat)∘fun b:UInt8=>(b.toNat:Int))=id:=by
  funext b
  simp
 rw [this,List.map_id]
theorem bL3 (s:ByteArray):aA0 s=U s.data.toList:=rfl
theorem aO4 {a b:ByteArray} (h:a.data.toList=b.data.toList):a=b:=by
 apply ByteArray.ext
 exact Array.toList_inj.1 h
theorem aD3 (s:ByteArray):s.data.toList.length=s.size:=by rw [Array.length_toList]; rfl
theorem Y8 {n:Int} (hn:D6 n):(nmT n).length≤22:=by
 have:=Lib.itoa_length_le n hn.1 hn.2
 simp only [nmT,List.length_append,List.length_singleton]
 omega
theorem bH4 (N:Nat) (a:List Int) (s:ByteArray) (h:a.length+(wdT s).length≤140737488355328):Q3 N a s=some (a++U (wdT s)):=by
 have hs:=aD3 s
 have hl:(aA0 s).length=s.size:=by rw [bL3,aM4,hs]
 simp only [wdT,List.length_append,List.length_singleton,hs] at h
 unfold Q3 U2 V6
 rw [Nat.ble_eq_true_of_le (show a.length+s.size≤140737488355328 by omega)]
 simp only [cond_true,Option.bind_some]
 rw [Nat.ble_eq_true_of_le (show ((a++aA0 s).length+[(32:Int)].length)*1≤140737488355328 by simp only [List.length_append,hl,List.length_singleton]; omega)]
 simp only [cond_true,Option.bind_some,wdT,aU2,bL3]
 rw [List.append_assoc]
 rfl
theorem b83 (N:Nat):∀(l:List Int) (k:Nat) (a:List Int),a.length+(Q6 l).length≤140737488355328→M8 N l k a=some (a++U (Q6 l))
 |[],k,a,_=>by simp [M8,Q6,U]
 |n::l,k,a,h=>by
  have e:Q6 (n::l)=nmT n++Q6 l:=by simp [Q6]
  rw [e,List.length_append] at h
  have ew:wdT ⟨(Lib.itoa n).toArray⟩=nmT n:=rfl
  rw [M8]
  simp only [strconv_Itoa,Option.bind_some]
  rw [bH4 N a _ (by rw [ew]; omega),ew]
  simp only [Option.bind_some]
  rw [b83 N l (k+1) _ (by rw [List.length_append,aM4]; omega),e,aU2,List.append_assoc]
theorem aM7 (N:Nat) (a l:List Int) (h:a.length+(Q6 l).length≤140737488355328):J5 N a l=some (a++U (Q6 l)):=by
 unfold J5
 rw [b83 N l 0 a h]
 rfl
theorem bG8 {α:Type} (tx:α→BL) (L:List α→Nat→List Int→Option (List Int)) (h0:∀k a,L [] k a=some a)
  (hs:∀x l k a,a.length+(tx x).length≤140737488355328→L (x::l) k a=L l (k+1) (a++U (tx x))):∀(l:List α) (k:Nat) (a:List Int),a.length+(l.map tx).flatten.length≤140737488355328→L l k a=some (a++U (l.map tx).flatten)
 |[],k,a,_=>by simp [h0,U]
 |x::l,k,a,h=>by
  simp only [List.map_cons,List.flatten_cons,List.length_append] at h
  rw [hs x l k a (by omega),bG8 tx L h0 hs l (k+1) _ (by rw [List.length_append,aM4]; omega),List.map_cons,List.flatten_cons,aU2,List.append_assoc]
theorem b67 (N:Nat):∀(l:List Ins) (k:Nat) (a:List Int),a.length+(l.map aE4).flatten.length≤140737488355328→J8 N l k a=some (a++U (l.map aE4).flatten) :=
 bG8 aE4 (J8 N) (fun k a=>rfl) fun i l k a h=>by
  simp only [aE4,List.length_append] at h
  rw [J8,aM7 N a _ (by omega)]
  simp only [Option.bind_some]
  by_cases ho:i.op=14
  ·rw [if_pos ho] at h
   simp only [ho,decide_true,cond_true]
   rw [bH4 N _ _ (by rw [List.length_append,aM4]; rw [ho] at h; omega)]
   simp only [Option.bind_some,aE4,ho,if_true,aU2,List.append_assoc]
  ·simp only [ho,decide_false,cond_false,Option.bind_some,aE4,if_false,aU2,U,List.map_nil,List.append_nil]
theorem cD7 (N:Nat) (a:List Int) (m:Me) (h:a.length+(meT m).length≤140737488355328):aB0 N a m=some (a++U (meT m)):=by
 simp only [meT,List.length_append] at h
 unfold aB0
 rw [bH4 N a _ (by omega)]
 simp only [Option.bind_some]
 rw [aM7 N _ _ (by rw [List.length_append,aM4]; omega)]
 simp only [Option.bind_some]
 rw [b67 N m.code 0 _ (by simp only [List.length_append,aM4]; omega)]
 simp only [Option.bind_some,meT,aU2,List.append_assoc]
theorem b73 (N:Nat):∀(l:List Me) (k:Nat) (a:List Int),a.length+(l.map meT).flatten.length≤140737488355328→Z9 N l k a=some (a++U (l.map meT).flatten) :=
 bG8 meT (Z9 N) (fun k a=>rfl) fun m l k a h=>by
  rw [Z9,cD7 N a m h]
  rfl
theorem b71 (N:Nat):∀(l:List Cl) (k:Nat) (a:List Int),a.length+(l.map clT).flatten.length≤140737488355328→Z8 N l k a=some (a++U (l.map clT).flatten) :=
 bG8 clT (Z8 N) (fun k a=>rfl) fun c l k a h=>by
  simp only [clT,List.length_append] at h
  rw [Z8,bH4 N a _ (by omega)]
  simp only [Option.bind_some]
  rw [aM7 N _ _ (by rw [List.length_append,aM4]; omega)]
  simp only [Option.bind_some]
  rw [b73 N c.methods 0 _ (by simp only [List.length_append,aM4]; omega)]
  simp only [Option.bind_some,clT,aU2,List.append_assoc]
theorem b72 (N:Nat):∀(l:List V) (k:Nat) (a:List Int),a.length+(l.map vT).flatten.length≤140737488355328→Z0 N l k a=some (a++U (l.map vT).flatten) :=
 bG8 vT (Z0 N) (fun k a=>rfl) fun v l k a h=>by
  rw [Z0,aM7 N a _ h]
  rfl
theorem b75 (N:Nat):∀(l:List Ob) (k:Nat) (a:List Int),a.length+(l.map obT).flatten.length≤140737488355328→Z5 N l k a=some (a++U (l.map obT).flatten) :=
 bG8 obT (Z5 N) (fun k a=>rfl) fun o l k a h=>by
  simp only [obT,List.length_append] at h
  rw [Z5,aM7 N a _ (by omega)]
  simp only [Option.bind_some]
  rw [b72 N o.slots 0 _ (by rw [List.length_append,aM4]; omega)]
  simp only [Option.bind_some,obT,aU2,List.append_assoc]
theorem cV5 (w:Wd):woT w≠[]:=by
 intro h
 have:=congrArg List.length h
 simp only [woT,Q6,List.map_cons,List.flatten_cons,nmT,List.length_append,List.length_singleton,List.length_nil] at this
 omega
theorem cL7 (N:Nat) (w:Wd) (h:(woT w).length≤140737488355328):aO6 N w=some (U (woT w)):=by
 have hne:=cV5 w
 simp only [woT,List.length_append] at h
 unfold aO6
 rw [aM7 N [] _ (by simp only [List.length_nil]; omega)]
 simp only [Option.bind_some,List.nil_append]
 rw [b71 N w.classes 0 _ (by rw [aM4]; omega)]
 simp only [Option.bind_some]
 rw [aM7 N _ _ (by simp only [List.length_append,aM4]; omega)]
 simp only [Option.bind_some]
 rw [b75 N w.heap 0 _ (by simp only [List.length_append,aM4]; omega)]
 have e:U (Q6 [w.epoch,(w.classes.length:Int)])++U (w.classes.map clT).flatten++U (Q6 [(w.heap.length:Int)])++U (w.heap.map obT).flatten=U (woT w):=by
  simp only [woT,aU2,List.append_assoc]
 simp only [Option.bind_some,e]
 have h1:(U (woT w)).isEmpty=false:=by
  cases hq:woT w with
  |nil=>exact absurd hq hne
  |cons a l=>rfl
 rw [h1]
 simp only [Bool.not_false,cond_true,bL3,cP2]
end Go.Proofs.YtibjcppjfkamhaaGreatDoor
