import Derived.Test.YtkecefjmcimemaaPl34
/- Lists of fast code. No program in sight. -/
namespace Go.Proofs.Ytkecefjmcimemaa
open Go.RowKit
set_option linter.unusedVariables false
def cT3 (w:Wd) (S:Int→Int→List Int) (l:List Fs):Prop:=∀f∈l,∃(c j:Nat) (x:Cl) (m:Me),w.classes[c]?=some x∧x.methods[j]?=some m∧(qF w S c j).2=true∧f=(qF w S c j).1
theorem b33 {w:Wd} {S:Int→Int→List Int} {k j:Int} {x:Cl} {m:Me} (hx:p8 w.classes k=some x) (hm:p8 x.methods j=some m) (h:(qF w S k j).2=true):(qF w S k j).1.cls=k∧(qF w S k j).1.name=m.name∧(qF w S k j).1.epoch=w.epoch:=by
 rw [cI3 hx hm] at h ⊢
 split at h
 ·rename_i hh
  rw [if_pos hh]
  exact ⟨rfl,rfl,rfl⟩
 ·cases h
theorem dJ0 {w:Wd} {S:Int→Int→List Int} {k j:Int} {x:Cl} {m:Me} (hx:p8 w.classes k=some x) (hm:p8 x.methods j=some m) (h:(qF w S k j).2=false):qF w S k j=(⟨0,ByteArray.empty,0,0,[]⟩,false):=by
 rw [cI3 hx hm] at h ⊢
 split at h
 ·cases h
 ·rename_i hh
  rw [if_neg hh]
theorem c86 {ms:List Me} (h:bR1 ms) {i j:Nat} {a b:Me} (ha:ms[i]?=some a) (hb:ms[j]?=some b) (he:a.name=b.name):i=j:=by
 obtain ⟨hi,rfl⟩:=List.getElem?_eq_some_iff.1 ha
 obtain ⟨hj,rfl⟩:=List.getElem?_eq_some_iff.1 hb
 have hp:=List.pairwise_iff_getElem.1 h
 rcases Nat.lt_trichotomy i j with hh|hh|hh
 ·have:=hp i j hi hj hh
  rw [he,bI7] at this
  cases this
 ·exact hh
 ·have:=hp j i hj hi hh
  rw [he,bI7] at this
  cases this
theorem cT3.one {w:Wd} {S:Int→Int→List Int} {l:List Fs} (hr:aW6 w) (h:cT3 w S l) {k j:Int} {x:Cl} {m:Me} (hx:p8 w.classes k=some x) (hm:p8 x.methods j=some m) {f:Fs} (hf:f∈l) (h1:f.cls=k) (h2:f.name=m.name):qF w S k j=(f,true):=by
 obtain ⟨c,i,y,n,e1,e2,e3,rfl⟩:=h f hf
 obtain ⟨d1,d2,d3⟩:=b33 (k:=(c:Int)) (j:=(i:Int)) (by rw [G6]; exact e1) (by rw [G6]; exact e2) e3
 rw [d1] at h1
 subst h1
 rw [G6,e1] at hx
 cases hx
 obtain ⟨m0,m1⟩:=u6 hm
 have:=c86 (hr x (List.mem_of_getElem? e1)) e2 m1 (by rw [←d2,h2])
 have hj:j=(i:Int):=by omega
 rw [hj,←e3]
end Go.Proofs.Ytkecefjmcimemaa
