/- From a law's walk over readings to its row: how arguments that read as data read as plain data, and what a call that needs nothing leaves. -/
import Derived.Test.YtibjcppjfkamhaaGreatDoorM
import Derived.Test.YtibjcppjfkamhaaGreatDoorRows
import Derived.Deep.Slices
import Derived.JoinedCond
namespace Go.Proofs.YtibjcppjfkamhaaGreatDoor
open Go.ChangeShapes Go.WideShapes Go.ChangeAt Go.RowKit Go.Deep
set_option linter.unusedVariables false
def bS7 (W:World):Ctx:=⟨fun b=>b < W.heap.size,fun _=>0,fun _=>undef⟩
theorem Spec.law {P:Program} {f:Nat} {ins:List AV} (hS:Spec P f [] ins (.bool true) [] []) {W:World} {args:Array Value} (h:F6 (bS7 W) W args.toList ins) :
  Calls P f args W fun e W'=>e=.returned (.bool true)∧Below W.heap.size W W':=by
 have no:∀(id:Nat) (o:Obj),lk ([]:Os) id=some o→False:=fun id o h=>by cases h
 refine (hS.2.2 (bS7 W) W args ⟨fun id o h=>(no id o h).elim,fun id o b h=>(no id o h).elim,fun id id' o o' b _ h=>(no id o h).elim,fun b hb=>hb⟩ h).mono ?_
 rintro e W' ⟨v,c',rfl,hp,hr⟩
 exact ⟨by rw [hr.bool_],hp.wos,hp.tape,hp.output,hp.size,fun k hk=>hp.keep k hk fun ⟨id,o,h,_⟩=>no id o h⟩
def okI (n:Int):Prop:=Z8 n
def okS (s:ByteArray):Prop:=s.size≤maxLen
def okB (_:Bool):Prop:=True
def okL {α:Type} (ok:α→Prop) (l:List α):Prop:=l.length≤maxLen∧∀a∈l,ok a
def bkI (_:Int):Nat:=1
def bkS (s:ByteArray):Nat:=s.size+1
def bkB (_:Bool):Nat:=1
def bkL {α:Type} (bk:α→Nat) (l:List α):Nat:=(l.map bk).sum+1
structure aD9 (P:Program) (t:TypeId) (sz:Nat) {α:Type} (enc:α→List AV) (ok:α→Prop) (bk:α→Nat):Prop where
 out:∀{H:Type} {eH:TypeId×Value→H} {w:World} {sp:Nat→Bool} {held:Bool} {fuel:Nat} {cs:List Value} {x:DataW H×List MemPlace},DataW.trod eH P w 0 sp held fuel t cs=some x →
  ∃a:α,J4 (fun b=>b < w.heap.size) w cs (enc a)∧cs.length=sz∧(∀u∈cs,u.oneCell'=true)∧ok a∧bk a≤Rows.uptoBulk x.1
section
variable {P:Program}
theorem aD9.int {t:TypeId} (ht:P.underlying t=some (.int .i64)):aD9 P t 1 H9 okI bkI:=⟨fun h=>by
 obtain ⟨n,rfl,rfl,hw⟩:=DataW.trod_int ht h
 have hn:Z8 n:=by
  have:IntKind.i64.min≤n∧n≤IntKind.i64.max:=by simpa [Lit.wf] using hw
  exact this
 exact ⟨n,.cons (.int hn) .nil,rfl,by simp [Value.oneCell'],hn,Nat.le_refl _⟩⟩
theorem aD9.str {t:TypeId} (ht:P.underlying t=some .string):aD9 P t 1 cM1 okS bkS:=⟨fun h=>by
 obtain ⟨s,rfl,rfl,hs⟩:=DataW.trod_string ht h
 exact ⟨s,.cons (.str hs) .nil,rfl,by simp [Value.oneCell'],hs,by simp [bkS,Rows.uptoBulk]⟩⟩
theorem aD9.bool {t:TypeId} (ht:P.underlying t=some .bool):aD9 P t 1 (fun b:Bool=>[AV.bool b]) okB bkB:=⟨fun h=>by
 obtain ⟨b,rfl,rfl⟩:=DataW.trod_bool ht h
 exact ⟨b,.cons (.bool b) .nil,rfl,by simp [Value.oneCell'],trivial,Nat.le_refl _⟩⟩
theorem bF3 {w:World} {b o:Nat} {v:Value} (h:w.cell? ⟨b,o,none⟩=some v):b < w.heap.size:=by
 unfold World.cell? at h
 cases hb:w.heap[b]? with
 |none=>rw [hb] at h; cases h
 |some x=>exact (Array.getElem?_eq_some_iff.1 hb).1
theorem cU6 {H α:Type} (bk:α→Nat):∀(n:Nat) (g:_root_.Fin n→α) (D:Nat→DataW H),(∀i:_root_.Fin n,bk (g i)≤Rows.uptoBulk (D i))→((List.ofFn g).map bk).sum≤Rows.uptoBulkAll ((List.range n).map D)
 |0,g,D,_=>by simp
 |n+1,g,D,h=>by
  have ih:=cU6 bk n (fun i=>g i.succ) (fun i=>D (i+1)) (fun i=>by simpa using h i.succ)
  have h0:=h 0
  rw [List.ofFn_succ,List.range_succ_eq_map]
  simp only [List.map_cons,List.sum_cons,List.map_map,Rows.uptoBulkAll]
  have e:(D∘Nat.succ)=fun i=>D (i+1):=rfl
  rw [e]
  have h0':bk (g 0)≤Rows.uptoBulk (D 0):=h0
  omega
theorem aD9.slice {t e:TypeId} {sz:Nat} {α:Type} {enc:α→List AV} {ok:α→Prop} {bk:α→Nat} (ht:P.underlying t=some (.slice e)) (hc:P.cellsOf e=sz) (hpos:0 < sz) (hel:aD9 P e sz enc ok bk) :
  aD9 P t 1 (fun l:List α=>[AV.sl sz (l.map enc)]) (okL ok) (bkL bk):=⟨fun {H eH w sp held fuel cs x} h=>by
 rcases open_slice ht h with ⟨rfl,rfl⟩|⟨a,len,cap,m,n,D,Pl,rfl,hb,hl,hm,hmm,rfl,hi⟩
 ·refine ⟨[],.cons ?_ .nil,rfl,by simp [Value.oneCell'],⟨by simp [maxLen],by simp⟩,by simp [bkL,Rows.uptoBulk]⟩
  exact Rf.sl (A:=none) (c:=0) (ls:=[]) (fun _=>[]) 0 0 (by simp) (by simp [maxLen]) (fun h=>absurd h (by simp)) (fun i cs h=>by simp at h) (fun i cs h=>by simp at h) (fun i cs h=>by simp at h) (fun i cs h=>by simp at h)
 ·have hlm:len≤m:=by rw [hmm]; split<;>omega
  have hall:∀i:_root_.Fin len,∃y:α,(∃cs:List Value,(J4 (fun b=>b < w.heap.size) w cs (enc y)∧cs.length=sz∧∀u∈cs,u.oneCell'=true)∧∀(j:Nat) (u:Value),cs[j]?=some u→w.cell? ((a.add (i*sz)).add j)=some u)∧ok y∧bk y≤Rows.uptoBulk (D i):=by
   intro i
   obtain ⟨cs',hcs,htr⟩:=hi i (by omega)
   obtain ⟨y,hR,hL,h1,hok,hbk⟩:=hel.out htr
   rw [hc] at hcs
   obtain ⟨_,hlen,hcell⟩:=World.cells?_some hcs
   refine ⟨y,⟨cs',⟨hR,hL,h1⟩,fun j u hj=>?_⟩,hok,hbk⟩
   rw [hcell j (by rw [←hlen]; exact (List.getElem?_eq_some_iff.1 hj).1),hj]
  let g:_root_.Fin len→α:=fun i=>(hall i).choose
  have hg:=fun i=>(hall i).choose_spec
  have hlen:(List.ofFn g).length=len:=by simp
  have get:∀(i:Nat) (cs:List AV),((List.ofFn g).map enc)[i]?=some cs→∃hi:i < len,cs=enc (g ⟨i,hi⟩):=by
   intro i cs h
   rw [List.getElem?_map,Option.map_eq_some_iff] at h
   obtain ⟨y,h1,h2⟩:=h
   obtain ⟨hi',e1⟩:=List.getElem?_eq_some_iff.1 h1
   simp only [List.length_ofFn] at hi'
   exact ⟨hi',by rw [←h2,←e1]; simp⟩
  have hsp:0 < len→∃b o,a=⟨b,o,none⟩∧b < w.heap.size:=by
   intro hp
   obtain ⟨⟨cs,⟨hR,hL,_⟩,hcell⟩,_⟩:=hg ⟨0,hp⟩
   have h0:=hcell 0 cs[0] (List.getElem?_eq_getElem (by omega))
   have h1:((a.add (0*sz)).add 0)=a:=by simp [Addr.add]
   simp only at h0
   rw [h1] at h0
   have hs:a.spot=none:=by
    unfold World.cell? at h0
    split at h0
    ·cases hs:a.spot with
     |none=>rfl
     |some s=>rw [hs] at h0; simp at h0
    ·cases h0
   obtain ⟨b,o,s⟩:=a
   simp only at hs
   subst hs
   exact ⟨b,o,rfl,bF3 h0⟩
  refine ⟨List.ofFn g,.cons ?_ .nil,rfl,by simp [Value.oneCell'],⟨by rw [hlen]; omega,fun y hy=>?_⟩,?_⟩
  ·have hml:len=((List.ofFn g).map enc).length:=by simp
   by_cases hp:0 < len
   ·obtain ⟨b,o,ha,hbl⟩:=hsp hp
    suffices key:Rf (fun b=>b < w.heap.size) w (.slice (some a) ((List.ofFn g).map enc).length cap) (.sl sz ((List.ofFn g).map enc)) by
     rw [←hml] at key; exact key
    refine Rf.sl (fun i=>if h:i < len then (hg ⟨i,h⟩).1.choose else []) b o (by rw [←hml]; exact hl) hm (fun _=>⟨by rw [ha],hbl⟩) (fun i cs h=>?_) (fun i cs h j u hj=>?_) (fun i cs h=>?_) (fun i cs h u hu=>?_)<;>obtain ⟨hi',rfl⟩:=get i cs h
    ·rw [dif_pos hi']; exact (hg ⟨i,hi'⟩).1.choose_spec.1.2.1
    ·rw [dif_pos hi'] at hj
     have:=(hg ⟨i,hi'⟩).1.choose_spec.2 j u hj
     rw [ha] at this
     simpa only [aF4] using this
    ·rw [dif_pos hi']; exact (hg ⟨i,hi'⟩).1.choose_spec.1.1
    ·rw [dif_pos hi'] at hu; exact (hg ⟨i,hi'⟩).1.choose_spec.1.2.2 u hu
   ·have h0:len=0:=by omega
    subst h0
    have e0:((List.ofFn g).map enc)=[]:=by simp
    rw [e0]
    exact Rf.sl (A:=some a) (c:=cap) (ls:=[]) (fun _=>[]) 0 0 (by simp) hm (fun h=>absurd h (by simp)) (fun i cs h=>by simp at h) (fun i cs h=>by simp at h) (fun i cs h=>by simp at h) (fun i cs h=>by simp at h)
  ·obtain ⟨i,rfl⟩:=List.mem_ofFn.1 hy
   exact (hg i).2.1
  ·have:=cU6 bk len g D fun i=>(hg i).2.2
   simp only [bkL,Rows.uptoBulk]
   omega⟩
end
theorem aN0 {c:Ctx} {w:World} {v:Value} {a:AV} (h:J4 c.Φ w [v] [a]):Rd c w v a:=by
 cases h with|cons h _=>exact .fz h
end Go.Proofs.YtibjcppjfkamhaaGreatDoor
