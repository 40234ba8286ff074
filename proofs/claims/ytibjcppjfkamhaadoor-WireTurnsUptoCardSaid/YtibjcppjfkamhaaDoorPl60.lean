import Derived.Test.YtibjcppjfkamhaaDoorPl15
import Derived.Lib.AtoiAllCases
import Derived.Lib.ItoaLen
/- Plain laws: worlds as texts. No program in sight. -/
namespace Go.Proofs.YtibjcppjfkamhaaDoor
open Go.RowKit
set_option linter.unusedVariables false
theorem aY5 : ∀(u:Nat) (b:UInt8),b∈Lib.decDigits u→48≤b.toNat∧b.toNat≤57:=by
 intro u
 induction u using Nat.strongRecOn with
 |_ u ih =>
  intro b hb
  have one:∀d:Nat,d < 10→(UInt8.ofNat (48+d)).toNat=48+d:=fun d hd=>by simp; omega
  rw [Lib.decDigits] at hb
  split at hb
  ·simp only [List.mem_singleton] at hb
   subst hb
   rw [one u (by assumption)]
   omega
  ·rcases List.mem_append.1 hb with hb|hb
   ·exact ih (u / 10) (by omega) b hb
   ·simp only [List.mem_singleton] at hb
    subst hb
    rw [one (u % 10) (by omega)]
    omega
theorem aP3 (u:Nat):Lib.decDigits u≠[]:=by
 rw [Lib.decDigits]
 split<;>simp
theorem bH5 : ∀(u:Nat),u < 18446744073709551616→∀r,Lib.parseUint10 0 (Lib.decDigits u++r)=Lib.parseUint10 u r:=by
 intro u
 induction u using Nat.strongRecOn with
 |_ u ih =>
  intro hu r
  have one:∀d:Nat,d < 10→(UInt8.ofNat (48+d)).toNat=48+d:=fun d hd=>by simp; omega
  rw [Lib.decDigits]
  split
  ·rename_i h
   simp only [List.cons_append,List.nil_append,Lib.parseUint10,one u h]
   rw [if_pos (by omega),if_neg (by omega),if_neg (by omega)]
   congr 1
   omega
  ·rename_i h
   rw [List.append_assoc,ih (u / 10) (by omega) (by omega)]
   simp only [List.cons_append,List.nil_append,Lib.parseUint10,one (u % 10) (by omega)]
   rw [if_pos (by omega),if_neg (by omega),if_neg (by omega)]
   congr 1
   omega
theorem aM6 {u:Nat} (hu:u < 18446744073709551616):Lib.parseMag (Lib.decDigits u)=.ok u:=by
 unfold Lib.parseMag
 rw [if_neg (aP3 u)]
 have:=bH5 u hu []
 simpa [Lib.parseUint10] using this
theorem b65 {n:Int} (hn:C8 n):Lib.atoiAll (Lib.itoa n)=.ok n:=by
 unfold C8 at hn
 unfold Lib.itoa
 split
 ·rw [Lib.atoiAll_minus,aM6 (by omega)]
  simp only [Lib.signed]
  rw [if_neg (by omega)]
  congr 1
  omega
 ·have hp:=aM6 (u:=n.toNat) (by omega)
  have hm:=aY5 n.toNat
  cases hd:Lib.decDigits n.toNat with
  |nil=>exact absurd hd (aP3 _)
  |cons c r =>
   have hc:=hm c (by rw [hd]; simp)
   rw [hd] at hp
   rw [Lib.atoiAll_plain c r (by omega) (by omega),hp]
   simp only [Lib.signless]
   rw [if_neg (by omega)]
   congr 1
   omega
theorem b74 (n:Int):Lib.itoa n≠[]∧(32:UInt8) ∉ Lib.itoa n:=by
 have key:∀u:Nat,(32:UInt8) ∉ Lib.decDigits u:=fun u h=>by
  have:=aY5 u 32 h
  have e:(32:UInt8).toNat=32:=rfl
  omega
 unfold Lib.itoa
 split
 ·refine ⟨by simp,fun h=>?_⟩
  rcases List.mem_cons.1 h with h|h
  ·cases h
  ·exact key _ h
 ·exact ⟨aP3 _,key _⟩
abbrev BL := List UInt8
def wdT (s:ByteArray):BL:=s.data.toList++[32]
def nmT (n:Int):BL:=Lib.itoa n++[32]
def N8 (l:List Int):BL:=(l.map nmT).flatten
def aC4 (i:Ins):BL:=N8 [i.op,i.a]++(if i.op=14 then wdT i.name else [])
def meT (m:Me):BL:=wdT m.name++(N8 [m.args,m.temps,m.prim,(m.code.length:Int)]++(m.code.map aC4).flatten)
def clT (c:Cl):BL:=wdT c.name++(N8 [c.super,c.slots,(c.methods.length:Int)]++(c.methods.map meT).flatten)
def vT (v:V):BL:=N8 [v.k,v.n]
def obT (o:Ob):BL:=N8 [o.cls,(o.slots.length:Int)]++(o.slots.map vT).flatten
def woT (w:Wd):BL:=N8 [w.epoch,(w.classes.length:Int)]++((w.classes.map clT).flatten++(N8 [(w.heap.length:Int)]++(w.heap.map obT).flatten))
def U (t:BL):List Int:=t.map fun b=>(b.toNat:Int)
theorem aN8 (a b:BL):U (a++b)=U a++U b:=by simp [U]
theorem aE7 (t:BL):(U t).length=t.length:=by simp [U]
theorem bG0 (t:BL):(strOfNums (U t)).data.toList=t:=by
 rw [strOfNums_data,U,List.map_map]
 have:((fun n:Int=>UInt8.ofNat n.toNat)∘fun b:UInt8=>(b.toNat:Int))=id:=by
  funext b
  simp
 rw [this,List.map_id]
theorem bE5 (s:ByteArray):U5 s=U s.data.toList:=rfl
theorem aV8 {a b:ByteArray} (h:a.data.toList=b.data.toList):a=b:=by
 apply ByteArray.ext
 exact Array.toList_inj.1 h
theorem aO9 (s:ByteArray):s.data.toList.length=s.size:=by rw [Array.length_toList]; rfl
theorem S9 {n:Int} (hn:C8 n):(nmT n).length≤22:=by
 have:=Lib.itoa_length_le n hn.1 hn.2
 simp only [nmT,List.length_append,List.length_singleton]
 omega
theorem bA0 (N:Nat) (a:List Int) (s:ByteArray) (h:a.length+(wdT s).length≤140737488355328):M6 N a s=some (a++U (wdT s)):=by
 have hs:=aO9 s
 have hl:(U5 s).length=s.size:=by rw [bE5,aE7,hs]
 simp only [wdT,List.length_append,List.length_singleton,hs] at h
 unfold M6 O5 Q3
 rw [Nat.ble_eq_true_of_le (show a.length+s.size≤140737488355328 by omega)]
 simp only [cond_true,Option.bind_some]
 rw [Nat.ble_eq_true_of_le (show ((a++U5 s).length+[(32:Int)].length)*1≤140737488355328 by simp only [List.length_append,hl,List.length_singleton]; omega)]
 simp only [cond_true,Option.bind_some,wdT,aN8,bE5]
 rw [List.append_assoc]
 rfl
theorem bX6 (N:Nat):∀(l:List Int) (k:Nat) (a:List Int),a.length+(N8 l).length≤140737488355328→J6 N l k a=some (a++U (N8 l))
 |[],k,a,_=>by simp [J6,N8,U]
 |n::l,k,a,h=>by
  have e:N8 (n::l)=nmT n++N8 l:=by simp [N8]
  rw [e,List.length_append] at h
  have ew:wdT ⟨(Lib.itoa n).toArray⟩=nmT n:=rfl
  rw [J6]
  simp only [strconv_Itoa,Option.bind_some]
  rw [bA0 N a _ (by rw [ew]; omega),ew]
  simp only [Option.bind_some]
  rw [bX6 N l (k+1) _ (by rw [List.length_append,aE7]; omega),e,aN8,List.append_assoc]
theorem aH5 (N:Nat) (a l:List Int) (h:a.length+(N8 l).length≤140737488355328):H6 N a l=some (a++U (N8 l)):=by
 unfold H6
 rw [bX6 N l 0 a h]
 rfl
theorem bA1 {α:Type} (tx:α→BL) (L:List α→Nat→List Int→Option (List Int)) (h0:∀k a,L [] k a=some a)
  (hs:∀x l k a,a.length+(tx x).length≤140737488355328→L (x::l) k a=L l (k+1) (a++U (tx x))):∀(l:List α) (k:Nat) (a:List Int),a.length+(l.map tx).flatten.length≤140737488355328→L l k a=some (a++U (l.map tx).flatten)
 |[],k,a,_=>by simp [h0,U]
 |x::l,k,a,h=>by
  simp only [List.map_cons,List.flatten_cons,List.length_append] at h
  rw [hs x l k a (by omega),bA1 tx L h0 hs l (k+1) _ (by rw [List.length_append,aE7]; omega),List.map_cons,List.flatten_cons,aN8,List.append_assoc]
theorem bR4 (N:Nat):∀(l:List Ins) (k:Nat) (a:List Int),a.length+(l.map aC4).flatten.length≤140737488355328→I4 N l k a=some (a++U (l.map aC4).flatten) :=
 bA1 aC4 (I4 N) (fun k a=>rfl) fun i l k a h=>by
  simp only [aC4,List.length_append] at h
  rw [I4,aH5 N a _ (by omega)]
  simp only [Option.bind_some]
  by_cases ho:i.op=14
  ·rw [if_pos ho] at h
   simp only [ho,decide_true,cond_true]
   rw [bA0 N _ _ (by rw [List.length_append,aE7]; rw [ho] at h; omega)]
   simp only [Option.bind_some,aC4,ho,if_true,aN8,List.append_assoc]
  ·simp only [ho,decide_false,cond_false,Option.bind_some,aC4,if_false,aN8,U,List.map_nil,List.append_nil]
theorem b48 (N:Nat) (a:List Int) (m:Me) (h:a.length+(meT m).length≤140737488355328):V8 N a m=some (a++U (meT m)):=by
 simp only [meT,List.length_append] at h
 unfold V8
 rw [bA0 N a _ (by omega)]
 simp only [Option.bind_some]
 rw [aH5 N _ _ (by rw [List.length_append,aE7]; omega)]
 simp only [Option.bind_some]
 rw [bR4 N m.code 0 _ (by simp only [List.length_append,aE7]; omega)]
 simp only [Option.bind_some,meT,aN8,List.append_assoc]
theorem bW1 (N:Nat):∀(l:List Me) (k:Nat) (a:List Int),a.length+(l.map meT).flatten.length≤140737488355328→U1 N l k a=some (a++U (l.map meT).flatten) :=
 bA1 meT (U1 N) (fun k a=>rfl) fun m l k a h=>by
  rw [U1,b48 N a m h]
  rfl
theorem bW5 (N:Nat):∀(l:List Cl) (k:Nat) (a:List Int),a.length+(l.map clT).flatten.length≤140737488355328→U3 N l k a=some (a++U (l.map clT).flatten) :=
 bA1 clT (U3 N) (fun k a=>rfl) fun c l k a h=>by
  simp only [clT,List.length_append] at h
  rw [U3,bA0 N a _ (by omega)]
  simp only [Option.bind_some]
  rw [aH5 N _ _ (by rw [List.length_append,aE7]; omega)]
  simp only [Option.bind_some]
  rw [bW1 N c.methods 0 _ (by simp only [List.length_append,aE7]; omega)]
  simp only [Option.bind_some,clT,aN8,List.append_assoc]
theorem bW4 (N:Nat):∀(l:List V) (k:Nat) (a:List Int),a.length+(l.map vT).flatten.length≤140737488355328→T9 N l k a=some (a++U (l.map vT).flatten) :=
 bA1 vT (T9 N) (fun k a=>rfl) fun v l k a h=>by
  rw [T9,aH5 N a _ h]
  rfl
theorem bW2 (N:Nat):∀(l:List Ob) (k:Nat) (a:List Int),a.length+(l.map obT).flatten.length≤140737488355328→U2 N l k a=some (a++U (l.map obT).flatten) :=
 bA1 obT (U2 N) (fun k a=>rfl) fun o l k a h=>by
  simp only [obT,List.length_append] at h
  rw [U2,aH5 N a _ (by omega)]
  simp only [Option.bind_some]
  rw [bW4 N o.slots 0 _ (by rw [List.length_append,aE7]; omega)]
  simp only [Option.bind_some,obT,aN8,List.append_assoc]
theorem cN6 (w:Wd):woT w≠[]:=by
 intro h
 have:=congrArg List.length h
 simp only [woT,N8,List.map_cons,List.flatten_cons,nmT,List.length_append,List.length_singleton,List.length_nil] at this
 omega
theorem bD7 (N:Nat) (w:Wd) (h:(woT w).length≤140737488355328):aB8 N w=some (U (woT w)):=by
 have hne:=cN6 w
 simp only [woT,List.length_append] at h
 unfold aB8
 rw [aH5 N [] _ (by simp only [List.length_nil]; omega)]
 simp only [Option.bind_some,List.nil_append]
 rw [bW5 N w.classes 0 _ (by rw [aE7]; omega)]
 simp only [Option.bind_some]
 rw [aH5 N _ _ (by simp only [List.length_append,aE7]; omega)]
 simp only [Option.bind_some]
 rw [bW2 N w.heap 0 _ (by simp only [List.length_append,aE7]; omega)]
 have e:U (N8 [w.epoch,(w.classes.length:Int)])++U (w.classes.map clT).flatten++U (N8 [(w.heap.length:Int)])++U (w.heap.map obT).flatten=U (woT w):=by
  simp only [woT,aN8,List.append_assoc]
 simp only [Option.bind_some,e]
 have h1:(U (woT w)).isEmpty=false:=by
  cases hq:woT w with
  |nil=>exact absurd hq hne
  |cons a l=>rfl
 rw [h1]
 simp only [Bool.not_false,cond_true,bE5,bG0]
end Go.Proofs.YtibjcppjfkamhaaDoor
