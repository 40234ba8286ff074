/- Deep rows: rows whose elements hold headers of rows of their own. What may be done with them: parts are read, written, taken out, put back; they are cut, appended to one another, and frozen. No program in sight; types are told by the table. -/
import Derived.Test.YtibjcppjfkamhaaGreatDoorAs10
namespace Go.Proofs.YtibjcppjfkamhaaGreatDoor
open Go.RowKit
set_option linter.unusedVariables false
abbrev aG8 := List (Nat×Nat×TypeId)
abbrev Hs := List (Nat×Nat×Nat)
theorem Post.mk' {c c':Ctx} {w w':World} {need upd:Os} {news:List Nat} (hok:P9 c w need) (hΦ:c'.Φ=c.Φ) (wos:w'.os=w.os) (tape:w'.tape=w.tape) (output:w'.output=w.output) (size:w.heap.size≤w'.heap.size)
  (keep:∀b,b < w.heap.size→¬Touch c need upd b→w'.heap[b]?=w.heap[b]?) (ctx:∀id,id ∉ news→c'.μ id=c.μ id∧c'.hd id=c.hd id) (rep:∀id o,lk upd id=some o→aH8 c' w' id o)
  (feet:∀id o b,lk upd id=some o→foot c' id o b→(w.heap.size≤b∧b < w'.heap.size)∨Touch c need upd b)
  (sep:∀id id' o o' b,id≠id'→lk upd id=some o→lk upd id'=some o'→foot c' id o b→¬foot c' id' o' b):Post c w c' w' need upd news:=by
 refine ⟨wos,tape,output,size,fun b hb=>by rw [hΦ]; exact hb,fun b hb=>.inl (by rw [hΦ] at hb; exact hb),keep,ctx,⟨rep,fun id o b hl hf=>?_,sep,fun b hb=>?_⟩,fun id o b hl hf=>(feet id o b hl hf).imp (·.1) (fun h=>h)⟩
 ·rw [hΦ]
  rcases feet id o b hl hf with h|⟨i,o',h1,_,h3⟩
  ·exact ⟨h.2,fun hb=>by have:=hok.phi b hb; omega⟩
  ·have:=hok.lt i o' b h1 h3
   exact ⟨by omega,this.2⟩
 ·rw [hΦ] at hb
  have:=hok.phi b hb; omega
def hAt : Hs→Nat→Option (Nat×Nat)
 |[],_=>none
 |(i,o,x)::r,off=>bif Nat.beq o off then some (i,x) else hAt r off
def aY2 : Hs→Nat→Hs
 |[],_=>[]
 |(i,o,x)::r,off=>bif Nat.beq o off then aY2 r off else (i,o,x)::aY2 r off
def b07 : Hs→Bool
 |[]=>true
 |(_,o,_)::r=>(hAt r o).isNone && b07 r
theorem cD8 {hs:Hs} {off:Nat} (h:hAt hs off=none):∀i,¬aE1 hs i off:=by
 rintro i ⟨x,hx⟩
 induction hs with
 |nil=>cases hx
 |cons p r ih =>
  obtain ⟨a,o,y⟩:=p
  rw [hAt] at h
  cases hb:Nat.beq o off with
  |true=>rw [hb] at h; cases h
  |false =>
   rw [hb] at h
   rcases List.mem_cons.1 hx with e|hx
   ·cases e; simp at hb
   ·exact ih h hx
theorem bX8 {hs:Hs} {off i x:Nat} (h:hAt hs off=some (i,x)):(i,off,x)∈hs:=by
 induction hs with
 |nil=>cases h
 |cons p r ih =>
  obtain ⟨a,o,y⟩:=p
  rw [hAt] at h
  cases hb:Nat.beq o off with
  |true=>rw [hb] at h; cases h; rw [Nat.eq_of_beq_eq_true hb]; simp
  |false=>rw [hb] at h; exact List.mem_cons_of_mem _ (ih h)
theorem aY8 {hs:Hs} {off i o x:Nat}:(i,o,x)∈aY2 hs off↔(i,o,x)∈hs∧o≠off:=by
 induction hs with
 |nil=>simp [aY2]
 |cons p r ih =>
  obtain ⟨a,o',y⟩:=p
  rw [aY2]
  cases hb:Nat.beq o' off with
  |true =>
   have:=Nat.eq_of_beq_eq_true hb
   subst this
   simp only [cond_true,ih,List.mem_cons,Prod.mk.injEq]
   constructor
   ·exact fun ⟨h1,h2⟩=>⟨.inr h1,h2⟩
   ·rintro ⟨⟨_,h1,_⟩|h1,h2⟩
    ·exact absurd h1 h2
    ·exact ⟨h1,h2⟩
  |false =>
   have hne:o'≠off:=fun e=>by rw [e] at hb; simp at hb
   simp only [cond_false,List.mem_cons,ih,Prod.mk.injEq]
   constructor
   ·rintro (⟨rfl,rfl,rfl⟩|⟨h1,h2⟩)
    ·exact ⟨.inl ⟨rfl,rfl,rfl⟩,hne⟩
    ·exact ⟨.inr h1,h2⟩
   ·rintro ⟨h1|h1,h2⟩
    ·exact .inl h1
    ·exact .inr ⟨h1,h2⟩
theorem cD1 {hs:Hs} (hu:b07 hs=true) {off i x i' x':Nat} (h:hAt hs off=some (i,x)) (h':(i',off,x')∈hs):i'=i∧x'=x:=by
 induction hs with
 |nil=>cases h'
 |cons p r ih =>
  obtain ⟨a,o,y⟩:=p
  simp only [b07,Bool.and_eq_true] at hu
  rw [hAt] at h
  cases hb:Nat.beq o off with
  |true =>
   rw [hb] at h
   cases h
   have:=Nat.eq_of_beq_eq_true hb
   subst this
   rcases List.mem_cons.1 h' with e|h'
   ·cases e; exact ⟨rfl,rfl⟩
   ·have:=cD8 (by simpa using hu.1) i' ⟨x',h'⟩
    exact this.elim
  |false =>
   rw [hb] at h
   rcases List.mem_cons.1 h' with e|h'
   ·cases e; simp at hb
   ·exact ih hu.2 h h'
theorem bW2 (css:List (List Value)) (cols:aG8) (hs:Hs):∃L:List Value,∀v,v∈L↔∃i off,Inn css cols hs i off v:=by
 classical
 refine ⟨css.flatten.filter fun v=>decide (∃i off,Inn css cols hs i off v),fun v=>?_⟩
 rw [List.mem_filter,decide_eq_true_eq]
 refine ⟨fun h=>h.2,fun h=>⟨?_,h⟩⟩
 obtain ⟨i,off,us,p,h1,_,h3,_⟩:=h
 exact List.mem_flatten.2 ⟨us,List.mem_of_getElem? h1,List.mem_of_getElem? h3⟩
theorem aY3 (L:List Value):aJ1 (.tuple L.toArray)=L:=by simp [aJ1]
def dC (cols:aG8):List AV→Nat→List AV
 |[],_=>[]
 |a::l,o=>(match lk cols o with|some _=>AV.any|none=>a)::dC cols l (o+1)
theorem cN7 {Φ:Nat→Prop} {w:World} {cols:aG8}:∀{cs:List AV} {us:List Value} (o:Nat),us.length=cs.length→(∀off u a,us[off]?=some u→cs[off]?=some a→lk cols (o+off)=none→Rf Φ w u a)→J4 Φ w us (dC cols cs o)
 |[],[],_,_,_=>.nil
 |a::cs,u::us,o,hl,h=>by
  rw [dC]
  refine .cons ?_ (cN7 (o+1) (by simpa using hl) fun off u a h1 h2 h3=>h (off+1) u a (by simpa using h1) (by simpa using h2) (by rw [←h3]; congr 1; omega))
  split
  ·exact .any u
  ·rename_i hn
   exact h 0 u a rfl rfl (by simpa using hn)
 |[],_::_,_,h,_=>by cases h
 |_::_,[],_,h,_=>by cases h
theorem aB4.rfs {Φ:Nat→Prop} {hd:Nat→Value} {w:World} {cols:aG8} {hs:Hs} {l:List (List AV)} {css:List (List Value)} (h:aB4 Φ hd w cols hs l css) {i:Nat} {us:List Value} {cs:List AV} (h1:css[i]?=some us) (h2:l[i]?=some cs):J4 Φ w us (dC cols cs 0) :=
 cN7 0 (h.cell i us cs h1 h2).1 fun off u a h3 h4 h5=>(h.cell i us cs h1 h2).2 off u a h3 h4 (by simpa using h5)
section
variable {P:Program} {tab:Q6} {o:Oper} {ev:Ev} {os:Os} {K:Kt}
def cF9 (os:Os) (x:AV) (K:Kt):Prop :=
 match x with
 |.own id=>match lk os id with
  |some (.deep _ _ _ l _ _)=>∀n:Nat,n=l.length→n≤maxLen→K (.int n) [id] [] []
  |_=>False
 |_=>False
theorem a95 {c:Ctx} {w:World} {id sz e sh:Nat} {cols:aG8} {l:List (List AV)} {hs:Hs} {v:Value} (hrep:aH8 c w id (.deep sz e cols l hs sh)) (r:Rd c w v (.own id)):∃A cap,v=.slice A l.length cap∧c.hd id=.slice A l.length cap∧l.length≤cap∧cap≤maxLen:=by
 obtain ⟨A,n,cap,e1,hh,b1,b2⟩:=r.own_
 obtain ⟨css,q1,q2,q3,q4⟩:=hrep
 obtain ⟨A',cap',hv,b3,b4⟩:=q1.head
 rw [hh] at hv
 injection hv with a1 a2 a3
 have:n=l.length:=by rw [a2,q2.len]
 subst this
 exact ⟨A,cap,e1,hh,b1,b2⟩
theorem cW0 (hT:O3 P tab) {x:Operand} {t:TypeId} {ti:TI} (hl:lk tab t=some ti) (hk:ti.kind=2) (ho:o.op=.call { callee:=.builtin .len,args:=#[x],argTypes:=#[t] }) (h:cF9 os (ev x) K):U8 P o ev os K:=by
 unfold cF9 at h
 split at h
 ·rename_i id hx
  split at h
  ·rename_i sz e cols l hs sh hid
   have ht:=(hT t ti hl).slice_ hk
   have get:∀(c:Ctx) (w:World) (ρ:Operand→Value),aH8 c w id (.deep sz e cols l hs sh)→(∀z∈o.op.operands.toList,Rd c w (ρ z) (ev z))→∃A cap,ρ x=.slice A l.length cap∧l.length≤maxLen:=fun c w ρ hrep hr=>by
    have r:=hr x (by simp [ho,Op.operands,Go.Call.operands])
    rw [hx] at r
    obtain ⟨A,cap,e1,_,b1,b2⟩:=a95 hrep r
    exact ⟨A,cap,e1,by omega⟩
   refine .have (p:=l.length≤maxLen) (fun c w ρ hok hr=>?_) fun hm=>.read hid (fun c w ρ hrep hr=>?_) (h _ rfl hm)
   ·obtain ⟨A,cap,_,hm⟩:=get c w ρ (hok.rep id _ hid) hr
    exact hm
   ·obtain ⟨A,cap,e1,_⟩:=get c w ρ hrep hr
    exact ⟨_,by simp [execOp,ho,resolve,invoke,builtin,Builtin.len_,run_underlying ht,e1,goInt],.fz (.int (bD1 hm))⟩
  ·exact h.elim
 ·exact h.elim
def bD3 (tab:Q6) (os:Os) (t:TypeId) (x i:AV) (K:Kt):Prop :=
 match lk tab t,x,i with
 |some ti,.own id,.int i=>match lk os id,lk tab ti.elem with
  |some (.deep sz _ _ l _ _),some te=>ti.kind=2∧te.size=sz∧0≤i∧i < (l.length:Int)∧K (.ep id i.toNat sz 0) [id] [] []
  |_,_=>False
 |_,_,_=>False
theorem b95 (hT:O3 P tab) {t:TypeId} {x ix:Operand} (ho:o.op=.indexAddr t x ix) (h:bD3 tab os t (ev x) (ev ix) K):U8 P o ev os K:=by
 unfold bD3 at h
 split at h
 ·rename_i ti id i hti hx hi
  split at h
  ·rename_i sz e cols l hs sh te hid hte
   obtain ⟨hk,rfl,h0,h1,h⟩:=h
   have ht:=(hT t ti hti).slice_ hk
   have hE:=hT _ te hte
   refine .read hid (fun c w ρ hrep hr=>?_) h
   have r1:=hr x (by simp [ho,Op.operands])
   have r2:=hr ix (by simp [ho,Op.operands])
   rw [hx] at r1
   rw [hi] at r2
   obtain ⟨A,cap,e1,hh,b1,b2⟩:=a95 hrep r1
   obtain ⟨css,q1,q2,q3,q4⟩:=hrep
   have hlt:0 < css.length:=by rw [q2.len]; omega
   obtain ⟨g,x',cap',hv,hg,_⟩:=q1.cells (List.getElem?_eq_getElem hlt)
   rw [hh] at hv
   injection hv with a1 a2 a3
   subst a1 a3
   refine ⟨_,by simp only [execOp,ho]; rw [e1,r2.int_.1,Sem.run_bind,run_indexAt_slice ht hE h0 h1]; rfl,.ep (off:=0) hh⟩
  ·exact h.elim
 ·exact h.elim
def b60 (tab:Q6) (os:Os) (t:TypeId) (x:AV) (K:Kt):Prop :=
 match lk tab t,x with
 |some ti,.ep id i sz off=>match lk os id with
  |some (.deep sz' _ cols l hs sh)=>match Nat.beq sz sz' with
   |true=>match lk cols off with
    |none=>i < l.length∧∀cs,l[i]?=some cs→match a11 ti (dC cols cs 0) off with
     |some av=>K av [id] [] []
     |none=>False
    |some (isz,ie)=>match hAt hs off with
     |some (j,y)=>ti.kind=2∧j=i∧i < l.length∧off < sz∧ti.size=1∧K (.own y) [id] [] []
     |none=>False
   |false=>False
  |_=>False
 |_,_=>False
theorem cH9 {β:Type}:∀{off:Nat} {l:List β} {a:β},l[off]?=some a→getN off 1 l=some [a]
 |0,b::l,a,h=>by simp at h; subst h; simp [getN]
 |off+1,b::l,a,h=>by rw [getN]; exact cH9 (by simpa using h)
 |_,[],a,h=>by simp at h
theorem b66 {Φ:Nat→Prop} {w:World}:∀us:List Value,J4 Φ w us (us.map .con)
 |[]=>.nil
 |u::us=>.cons (.con u) (b66 us)
theorem cR1 (hT:O3 P tab) {t:TypeId} {x:Operand} (ho:o.op=.load t x) (h:b60 tab os t (ev x) K):U8 P o ev os K:=by
 have run:∀(ρ:Operand→Value) (w:World),(execOp ρ o).run P w=((Instr.loadAt t (ρ x)).run P w).andThen fun v w'=>.ok (.value v) w':=fun ρ w=>by simp [execOp,ho]
 unfold b60 at h
 split at h
 ·rename_i ti id i sz off hti hx
  have hTi:=hT t ti hti
  split at h
  ·rename_i sz' e cols l hs sh hid
   split at h
   ·rename_i hsz
    obtain rfl:=Nat.eq_of_beq_eq_true hsz
    have get:∀(c:Ctx) (w:World) (ρ:Operand→Value) (us:List Value),aH8 c w id (.deep sz e cols l hs sh)→Rd c w (ρ x) (.ep id i sz off)→(∃css,M7 w (c.hd id) sz e css∧css[i]?=some us) →
      ∃g p,ρ x=.pointer (some ⟨g,p+off,none⟩)∧∀j u,us[j]?=some u→w.cell? ⟨g,p+j,none⟩=some u:=fun c w ρ us hrep h1 ⟨css,h2,hcs'⟩=>by
     obtain ⟨g,x0,m,cap,e1,hh⟩:=h1.ep_
     obtain ⟨g',x',cap',hv,hg,hc⟩:=h2.cells hcs'
     have e2:g'=g∧x'=x0:=by rw [hh] at hv; injection hv with e _ _; injection e with e; injection e with e e' _; exact ⟨e.symm,e'.symm⟩
     obtain ⟨rfl,rfl⟩:=e2
     exact ⟨g',x'+i*sz,e1,hc⟩
    split at h
    ·rename_i hcol
     obtain ⟨hi,h⟩:=h
     have hcs:l[i]?=some l[i]:=List.getElem?_eq_getElem hi
     have h:=h _ hcs
     split at h
     ·rename_i av hav
      refine .read hid (fun c w ρ hrep hr=>?_) h
      have h1:=hr x (by simp [ho,Op.operands])
      rw [hx] at h1
      have hrep':=hrep
      obtain ⟨css,h2,h3,h4,h5⟩:=hrep
      have hcs':css[i]?=some (css[i]'(by rw [h3.len]; exact hi)):=List.getElem?_eq_getElem _
      obtain ⟨g,p,e1,hc⟩:=get c w ρ _ hrep' h1 ⟨css,h2,hcs'⟩
      obtain ⟨v,h6,h7⟩:=aV6 (b:=g) (p:=p) hTi hav (.of_rfs (h3.rfs hcs' hcs)) hc
      exact ⟨v,by rw [run,e1,h6]; rfl,h7⟩
     ·exact h.elim
    ·rename_i isz ie hcol
     split at h
     ·rename_i j y hat
      obtain ⟨hk,rfl,hi,hoff,hs1,h⟩:=h
      refine .read hid (fun c w ρ hrep hr=>?_) h
      have h1:=hr x (by simp [ho,Op.operands])
      rw [hx] at h1
      have hrep':=hrep
      obtain ⟨css,h2,h3,h4,h5⟩:=hrep
      have hcs':css[j]?=some (css[j]'(by rw [h3.len]; exact hi)):=List.getElem?_eq_getElem _
      generalize css[j]'(by rw [h3.len]; exact hi)=us at hcs'
      have hul:=h2.len us (List.mem_of_getElem? hcs')
      have hu:us[off]?=some (us[off]'(by omega)):=List.getElem?_eq_getElem _
      generalize us[off]'(by omega)=u at hu
      obtain ⟨g,p,e1,hc⟩:=get c w ρ _ hrep' h1 ⟨css,h2,hcs'⟩
      have hav:a11 ti (us.map AV.con) off=some (.con u):=by
       have ha:ti.agg=false:=by simp [TI.agg,hk]
       have:(us.map AV.con)[off]?=some (.con u):=by rw [List.getElem?_map,hu]; rfl
       unfold a11
       rw [ha,cH9 this]
      obtain ⟨v,h6,h7⟩:=aV6 (b:=g) (p:=p) hTi hav (.of_rfs (b66 (Φ:=c.Φ) (w:=w) us)) hc
      have hvu:=h7.con_
      subst hvu
      obtain ⟨e3,A,n,cap,e4,b1,b2⟩:=h3.hole j off y us v (bX8 hat) hcs' hu
      refine ⟨v,by rw [run,e1,h6]; rfl,?_⟩
      rw [e4]
      exact .own (by rw [←e3,e4]) b1 b2
     ·exact h.elim
   ·exact h.elim
  ·exact h.elim
 ·exact h.elim
theorem M7.write {t:TypeId} {ti:TI} (hT:U4 P t ti) {w:World} {hdv:Value} {sz e i off:Nat} {css:List (List Value)} {us rs:List Value} (p1:M7 w hdv sz e css) {g x0 m cap:Nat} (hh:hdv=.slice (some ⟨g,x0,none⟩) m cap)
  (hci:css[i]?=some us) {v:Value} (hvl:v.cells.toList.length=ti.size) (h1:∀u∈v.cells.toList,u.oneCell'=true) (hs:U6 off v.cells.toList us=some rs) :
  ∃w',(Instr.storeAt t (.pointer (some ⟨g,x0+i*sz+off,none⟩)) v).run P w=.ok () w'∧M7 w' hdv sz e (css.set i rs)∧(∀k,k≠g→w'.heap[k]?=w.heap[k]?)∧w'.heap.size=w.heap.size∧w'.os=w.os∧w'.tape=w.tape∧w'.output=w.output:=by
 have hilt:i < css.length:=(List.getElem?_eq_some_iff.1 hci).1
 rcases p1.lies with ⟨hv,hn⟩|⟨g',x',p,cap',cur,hv,hgb,c1,c2,c3,cx,c4⟩
 ·omega
 ·rw [hh] at hv
  injection hv with a1 a2 a3
  injection a1 with a1
  injection a1 with a1 a1x
  subst a1 a1x a3
  have hx0:=cx (by omega)
  have hblk:=bO7 css i off us v.cells.toList rs p1.len hci hs
  have hfl:=aA6 sz css p1.len
  have hcl:cur.toList.length=(p+cap)*sz:=by rw [←c3]; simp
  have hple:p*sz≤cur.toList.length:=by rw [hcl]; exact Nat.mul_le_mul_right _ (by omega)
  have hpl:(cur.toList.take (p*sz)).length=p*sz:=by rw [List.length_take]; omega
  have hcur:cur.toList=cur.toList.take (p*sz)++(css.flatten++(cur.toList.drop (p*sz)).drop (css.length*sz)):=by
   rw [←c4,List.take_append_drop,List.take_append_drop]
  have hset:=bG5 (cur.toList.take (p*sz)) (bV1 ((cur.toList.drop (p*sz)).drop (css.length*sz)) hblk)
  rw [←hcur,hpl] at hset
  have hgb':w.heap[g]?=some (.cells cur.toList.toArray e):=by simpa using hgb
  obtain ⟨w',q1,q2,q3,q4,q5,q6,q7⟩:=bJ6 (P:=P) hT hvl hgb' h1 hset
  have hmem:us∈css:=List.mem_of_getElem? hci
  have hlen':∀us∈css.set i rs,us.length=sz:=fun us' hu=>by
   rcases List.mem_or_eq_of_mem_set hu with h|h
   ·exact p1.len us' h
   ·rw [h,(aB6 hs).1]; exact p1.len _ hmem
  have hfl':=aA6 sz (css.set i rs) hlen'
  refine ⟨w',by rw [hx0,Nat.add_assoc]; exact q1,⟨.inr ⟨g,x0,p,cap,_,by rw [hh,List.length_set,a2],q2,by rw [List.length_set]; exact c1,c2,?_,cx,?_⟩,hlen',fun us' hu=>?_⟩,q3,q4,q5,q6,q7⟩
  ·have e5:cur.toList.length=(p+cap)*sz:=hcl
   rw [hcur,List.length_append,List.length_append,hfl] at e5
   rw [List.size_toArray,List.length_append,List.length_append,hfl',List.length_set]
   exact e5
  ·rw [List.toList_toArray,List.drop_left' hpl,List.take_left' (by rw [hfl'])]
  ·rcases List.mem_or_eq_of_mem_set hu with h|h
   ·exact p1.one us' h
   ·rw [h]
    intro u hu
    rcases bO6 hs u hu with h|h
    ·exact h1 u h
    ·exact p1.one _ hmem u h
theorem Inn.set {css:List (List Value)} {cols:aG8} {hs hs':Hs} {i:Nat} {us rs:List Value} (hci:css[i]?=some us) (hsame:∀off p,lk cols off=some p→¬aE1 hs' i off→rs[off]?=us[off]?) (hh:∀j off,aE1 hs' j off↔aE1 hs j off) {j off:Nat} {v:Value} :
  Inn (css.set i rs) cols hs' j off v↔Inn css cols hs j off v:=by
 have hilt:i < css.length:=(List.getElem?_eq_some_iff.1 hci).1
 constructor
 ·rintro ⟨us',p,h1,h2,h3,h4⟩
  rw [List.getElem?_set] at h1
  split at h1
  ·rename_i e
   subst e
   cases h1
   exact ⟨us,p,hci,h2,by rw [←hsame off p h2 h4]; exact h3,fun h=>h4 ((hh _ _).2 h)⟩
  ·exact ⟨us',p,h1,h2,h3,fun h=>h4 ((hh _ _).2 h)⟩
 ·rintro ⟨us',p,h1,h2,h3,h4⟩
  have h4':¬aE1 hs' j off:=fun h=>h4 ((hh _ _).1 h)
  by_cases e:i=j
  ·subst e
   rw [hci] at h1
   cases h1
   exact ⟨rs,p,by rw [List.getElem?_set,if_pos rfl,if_pos hilt],h2,by rw [hsame off p h2 h4']; exact h3,h4'⟩
  ·exact ⟨us',p,by rw [List.getElem?_set,if_neg e]; exact h1,h2,h3,h4'⟩
theorem Post.writeDeep {c:Ctx} {w w':World} {id sz e sh i g:Nat} {cols:aG8} {l l':List (List AV)} {hs hs':Hs} {css:List (List Value)} {us rs:List Value} (hok:P9 c w [(id,.deep sz e cols l hs sh)]) (p2:aB4 c.Φ c.hd w cols hs l css)
  (p3:∀v,v∈aJ1 (c.hd sh)↔∃i off,Inn css cols hs i off v) (p4:∀i off v b,Inn css cols hs i off v→(c.hd id).ownBlock=some b→v.ownBlock=some b→False) (hb:(c.hd id).ownBlock=some g) (hci:css[i]?=some us)
  (hR:M7 w' (c.hd id) sz e (css.set i rs)) (ho:∀k,k≠g→w'.heap[k]?=w.heap[k]?) (hsz:w'.heap.size=w.heap.size) (h1:w'.os=w.os) (h2:w'.tape=w.tape) (h3:w'.output=w.output)
  (hsame:∀off p,lk cols off=some p→¬aE1 hs' i off→rs[off]?=us[off]?) (hh:∀j off,aE1 hs' j off↔aE1 hs j off)
  (hD:(∀v j off,Inn (css.set i rs) cols hs' j off v↔Inn css cols hs j off v)→aB4 c.Φ c.hd w cols hs' l' (css.set i rs)) :
  Post c w c w' [(id,.deep sz e cols l hs sh)] [(id,.deep sz e cols l' hs' sh)] []:=by
 have hlt:=hok.lt id _ g (p9 _ _ _) (.inl hb)
 have hI:∀v j off,Inn (css.set i rs) cols hs' j off v↔Inn css cols hs j off v:=fun v j off=>Inn.set hci hsame hh
 have hfr:∀b,c.Φ b→w'.heap[b]?=w.heap[b]?:=fun b hb'=>ho b fun e=>hlt.2 (e▸hb')
 have tch:∀b,foot c id (.deep sz e cols l hs sh) b→Touch c [(id,.deep sz e cols l hs sh)] [(id,.deep sz e cols l' hs' sh)] b:=fun b hf=>⟨id,_,p9 _ _ _,by rw [p9]; rfl,hf⟩
 refine Post.mk' hok rfl h1 h2 h3 (by omega) (fun b _ hn=>ho b fun e=>hn (tch b (.inl (by rw [hb,e])))) (fun _ _=>⟨rfl,rfl⟩) (fun i' o hl=>?_) (fun i' o b hl hf=>?_) (fun i' i'' o o' b hne hl hl'=>?_)
 ·obtain ⟨rfl,rfl⟩:=aD8 hl
  refine ⟨_,hR,(hD hI).keep hfr (fun _ h=>h) (fun _ _ _ _=>rfl) (fun j off v b hv hvb=>ho b fun e=>?_),fun v=>?_,fun j off v b hv=>p4 j off v b ((hI v j off).1 hv)⟩
  ·exact p4 j off v b ((hI v j off).1 hv) (by rw [hb,e]) hvb
  ·rw [p3 v]
   exact ⟨fun ⟨j,off,h⟩=>⟨j,off,(hI v j off).2 h⟩,fun ⟨j,off,h⟩=>⟨j,off,(hI v j off).1 h⟩⟩
 ·obtain ⟨rfl,rfl⟩:=aD8 hl
  exact .inr (tch b hf)
 ·obtain ⟨rfl,rfl⟩:=aD8 hl
  obtain ⟨e,_⟩:=aD8 hl'
  exact absurd e.symm hne
def bW0 (tab:Q6) (os:Os) (t:TypeId) (x y:AV) (K:Kt):Prop :=
 match lk tab t,y.cells?,x with
 |some ti,some vs,.ep id i sz off=>match lk os id with
  |some (.deep sz' e cols l hs sh)=>match Nat.beq sz sz',Nat.beq vs.length ti.size with
   |true,true=>match lk cols off with
    |none=>AV.idss vs=[]∧(cols.all fun p=>Nat.blt p.1 off || Nat.ble (off+vs.length) p.1)=true∧(hs.all fun p=>(lk cols p.2.1).isSome)=true∧i < l.length∧∀cs,l[i]?=some cs→match U6 off vs cs with
     |some cs'=>∃q,q=l.set i cs'∧K .any [id] [] [(id,.deep sz' e cols q hs sh)]
     |none=>False
    |some _=>match vs,hAt hs off with
     |[.own y],some (j,_)=>b07 hs=true∧j=i∧i < l.length∧off < sz'∧K .any [id] [] [(id,.deep sz' e cols l ((i,off,y)::aY2 hs off) sh)]
     |_,_=>False
   |_,_=>False
  |_=>False
 |_,_,_=>False
theorem cN2 (hT:O3 P tab) {t:TypeId} {x y:Operand} (ho:o.op=.store t x y) (h:bW0 tab os t (ev x) (ev y) K):U8 P o ev os K:=by
 have run:∀(ρ:Operand→Value) (w w':World),(Instr.storeAt t (ρ x) (ρ y)).run P w=.ok () w'→(execOp ρ o).run P w=.ok .skip w':=fun ρ w w' h=>by simp [execOp,ho,h]
 unfold bW0 at h
 split at h
 ·rename_i ti vs id i sz off hti hvs hx
  have hTi:=hT t ti hti
  split at h
  ·rename_i sz' e cols l hs sh hid
   split at h
   ·rename_i hsz hvl
    obtain rfl:=Nat.eq_of_beq_eq_true hsz
    have hvl:=Nat.eq_of_beq_eq_true hvl
    have base:∀(c:Ctx) (w:World) (ρ:Operand→Value),P9 c w [(id,.deep sz e cols l hs sh)]→(∀z∈o.op.operands.toList,Rd c w (ρ z) (ev z))→i < l.length→off+ti.size≤sz →
      ∃css us rs g w',aB4 c.Φ c.hd w cols hs l css∧M7 w (c.hd id) sz e css∧(∀v,v∈aJ1 (c.hd sh)↔∃i off,Inn css cols hs i off v)∧(∀i off v b,Inn css cols hs i off v→(c.hd id).ownBlock=some b→v.ownBlock=some b→False)∧(c.hd id).ownBlock=some g∧css[i]?=some us ∧
       U6 off (ρ y).cells.toList us=some rs∧(execOp ρ o).run P w=.ok .skip w'∧M7 w' (c.hd id) sz e (css.set i rs)∧(∀k,k≠g→w'.heap[k]?=w.heap[k]?)∧w'.heap.size=w.heap.size∧w'.os=w.os∧w'.tape=w.tape∧w'.output=w.output∧us.length=sz:=fun c w ρ hok hr hi hoff=>by
     have r1:=hr x (by simp [ho,Op.operands])
     have r2:=hr y (by simp [ho,Op.operands])
     rw [hx] at r1
     obtain ⟨css,p1,p2,p3,p4⟩:=hok.rep id _ (p9 _ _ _)
     obtain ⟨g,x0,m,cap,e1,hh⟩:=r1.ep_
     obtain ⟨rv,h1⟩:=aK4 r2 hvs
     have hci:css[i]?=some (css[i]'(by rw [p2.len]; exact hi)):=List.getElem?_eq_getElem _
     generalize css[i]'(by rw [p2.len]; exact hi)=us at hci
     have hul:=p1.len us (List.mem_of_getElem? hci)
     have hvl':(ρ y).cells.toList.length=ti.size:=by rw [rv.length]; exact hvl
     obtain ⟨rs,hrs⟩:=aN3 off (ρ y).cells.toList us (by rw [hvl',hul]; exact hoff)
     obtain ⟨w',q1,q2,q3,q4,q5,q6,q7⟩:=M7.write (P:=P) hTi p1 hh hci hvl' h1 hrs
     exact ⟨css,us,rs,g,w',p2,p1,p3,p4,by rw [hh]; rfl,hci,hrs,run ρ w w' (by rw [e1]; exact q1),q2,q3,q4,q5,q6,q7,hul⟩
    split at h
    ·obtain ⟨hids,hcols,hhc,hi,h⟩:=h
     have hcs:l[i]?=some l[i]:=List.getElem?_eq_getElem hi
     have h:=h _ hcs
     generalize l[i]=cs at hcs h
     split at h
     ·rename_i cs' hcs'
      obtain ⟨q,rfl,h⟩:=h
      refine fun _=>⟨_,[(id,.deep sz e cols l hs sh)],_,[],fun c w ρ hok hr=>?_,fun i ob h=>aH7 h hid,fun _ h=>(by cases h),h⟩
      have hlen:off+ti.size≤sz:=by
       obtain ⟨css,p1,p2,_⟩:=hok.rep id _ (p9 _ _ _)
       have hci:css[i]?=some (css[i]'(by rw [p2.len]; exact hi)):=List.getElem?_eq_getElem _
       have h1:=(p2.cell i _ _ hci hcs).1
       have h2:=p1.len _ (List.mem_of_getElem? hci)
       have h3:=(aB6 hcs').2
       omega
      obtain ⟨css,us,rs,g,w',p2,p1,p3,p4,hb,hci,hrs,hrun,hR,ho',hs',k1,k2,k3,hul⟩:=base c w ρ hok hr hi hlen
      rw [hrun]
      obtain ⟨rv,h1⟩:=aK4 (hr y (by simp [ho,Op.operands])) hvs
      have rf:=rv.rfs hids
      have hvl':(ρ y).cells.toList.length=vs.length:=rv.length
      have hout:∀off' p,lk cols off'=some p→¬(off≤off'∧off' < off+vs.length):=fun off' p hp=>by
       have:=List.all_eq_true.1 hcols _ (aA5 hp)
       simp only [Bool.or_eq_true] at this
       rcases this with h|h
       ·have:=Nat.le_of_ble_eq_true h; omega
       ·have:=Nat.le_of_ble_eq_true h; omega
      refine ⟨c,Post.writeDeep hok p2 p3 p4 hb hci hR ho' hs' k1 k2 k3 (fun off' p hp _=>?_) (fun _ _=>Iff.rfl) (fun hI=>⟨by simp [p2.len],fun k us' cs2 hu hc=>?_,fun k us' cs2 off' isz ie u hu hc hcl hg hno=>?_,fun k off' x us' u hm hu hg=>?_,fun a1 a2 a3 a4 a5 a6 b i1 i2=>p2.apart a1 a2 a3 a4 a5 a6 b ((hI _ _ _).1 i1) ((hI _ _ _).1 i2)⟩),Rd.any_ _⟩
      ·rw [U7 hrs,if_neg (by rw [hvl']; exact hout off' p hp)]
      ·rw [List.getElem?_set] at hu hc
       by_cases hk:i=k
       ·subst hk
        rw [if_pos rfl,if_pos (List.getElem?_eq_some_iff.1 hci).1] at hu
        rw [if_pos rfl,if_pos hi] at hc
        cases hu
        cases hc
        have old:=p2.cell i us cs hci hcs
        refine ⟨by rw [(aB6 hrs).1,(aB6 hcs').1]; exact old.1,fun off' u a hg hg' hn=>?_⟩
        rw [U7 hrs,hvl'] at hg
        rw [U7 hcs'] at hg'
        by_cases hin:off≤off'∧off' < off+vs.length
        ·rw [if_pos hin] at hg hg'
         obtain ⟨v,hv,hva⟩:=rf.get hg'
         rw [hg] at hv
         cases hv
         exact hva
        ·rw [if_neg hin] at hg hg'
         exact old.2 off' u a hg hg' hn
       ·rw [if_neg hk] at hu hc
        exact p2.cell k us' cs2 hu hc
      ·rw [List.getElem?_set] at hu hc
       by_cases hk:i=k
       ·subst hk
        rw [if_pos rfl,if_pos (List.getElem?_eq_some_iff.1 hci).1] at hu
        rw [if_pos rfl,if_pos hi] at hc
        cases hu
        cases hc
        rw [U7 hrs,hvl',if_neg (hout off' _ hcl)] at hg
        rw [U7 hcs',if_neg (hout off' _ hcl)]
        exact p2.inner i us cs off' isz ie u hci hcs hcl hg hno
       ·rw [if_neg hk] at hu hc
        exact p2.inner k us' cs2 off' isz ie u hu hc hcl hg hno
      ·rw [List.getElem?_set] at hu
       by_cases hk:i=k
       ·subst hk
        rw [if_pos rfl,if_pos (List.getElem?_eq_some_iff.1 hci).1] at hu
        cases hu
        have hcl:=List.all_eq_true.1 hhc _ hm
        obtain ⟨p,hp⟩:=Option.isSome_iff_exists.1 hcl
        rw [U7 hrs,hvl',if_neg (hout off' p hp)] at hg
        exact p2.hole i off' x us u hm hci hg
       ·rw [if_neg hk] at hu
        exact p2.hole k off' x us' u hm hu hg
     ·exact h.elim
    ·rename_i p hcl
     split at h
     ·rename_i y' j x' hat hvb
      obtain ⟨hu,rfl,hi,hoff,h⟩:=h
      refine fun _=>⟨_,[(id,.deep sz e cols l hs sh)],_,[],fun c w ρ hok hr=>?_,fun i ob h=>aH7 h hid,fun _ h=>(by cases h),h⟩
      have h1s:ti.size=1:=by rw [←hvl]; rfl
      obtain ⟨css,us,rs,g,w',p2,p1,p3,p4,hb,hci,hrs,hrun,hR,ho',hs',k1,k2,k3,hul⟩:=base c w ρ hok hr hi (by omega)
      rw [hrun]
      obtain ⟨rv,h1⟩:=aK4 (hr y (by simp [ho,Op.operands])) hvs
      have hhole:∀k off',aE1 ((j,off,y')::aY2 hs off) k off'↔aE1 hs k off':=fun k off'=>by
       constructor
       ·rintro ⟨z,hz⟩
        rcases List.mem_cons.1 hz with e|hz
        ·cases e; exact ⟨_,bX8 hat⟩
        ·exact ⟨z,(aY8.1 hz).1⟩
       ·rintro ⟨z,hz⟩
        by_cases e:off'=off
        ·subst e
         obtain ⟨rfl,rfl⟩:=cD1 hu hat hz
         exact ⟨y',by simp⟩
        ·exact ⟨z,List.mem_cons_of_mem _ (aY8.2 ⟨hz,e⟩)⟩
      obtain ⟨v,hvv,hrv⟩:∃v,(ρ y).cells.toList=[v]∧Rd c w v (.own y'):=by
       revert rv
       generalize (ρ y).cells.toList=vl
       intro rv
       cases rv with|cons a b=>cases b; exact ⟨_,rfl,a⟩
      rw [hvv] at hrs
      obtain ⟨A,n,cap,e1,e2,e3,e4⟩:=hrv.own_
      have hjo:aE1 ((j,off,y')::aY2 hs off) j off:=⟨y',by simp⟩
      refine ⟨c,Post.writeDeep hok p2 p3 p4 hb hci hR ho' hs' k1 k2 k3 (fun off' p hp hno=>?_) hhole (fun hI=>⟨by simp [p2.len],fun k us' cs2 hu' hc=>?_,fun k us' cs2 off' isz ie u hu' hc hcl' hg hno=>?_,fun k off' x us' u hm hu' hg=>?_,fun a1 a2 a3 a4 a5 a6 b i1 i2=>p2.apart a1 a2 a3 a4 a5 a6 b ((hI _ _ _).1 i1) ((hI _ _ _).1 i2)⟩),Rd.any_ _⟩
      ·have hne:¬(off≤off'∧off' < off+[v].length):=by
        simp only [List.length_singleton]; intro h'; have:off'=off:=by omega
        subst this; exact hno hjo
       rw [U7 hrs,if_neg hne]
      ·rw [List.getElem?_set] at hu'
       by_cases hk:j=k
       ·subst hk
        rw [if_pos rfl,if_pos (List.getElem?_eq_some_iff.1 hci).1] at hu'
        cases hu'
        have old:=p2.cell j us cs2 hci hc
        refine ⟨by rw [(aB6 hrs).1]; exact old.1,fun off' u a hg hg' hn=>?_⟩
        have hne:¬(off≤off'∧off' < off+[v].length):=by
         simp only [List.length_singleton]; intro h'; have:off'=off:=by omega
         subst this; rw [hcl] at hn; cases hn
        rw [U7 hrs,if_neg hne] at hg
        exact old.2 off' u a hg hg' hn
       ·rw [if_neg hk] at hu'
        exact p2.cell k us' cs2 hu' hc
      ·have hno':¬aE1 hs k off':=fun h'=>hno ((hhole _ _).2 h')
       rw [List.getElem?_set] at hu'
       by_cases hk:j=k
       ·subst hk
        rw [if_pos rfl,if_pos (List.getElem?_eq_some_iff.1 hci).1] at hu'
        cases hu'
        have hne:¬(off≤off'∧off' < off+[v].length):=by
         simp only [List.length_singleton]; intro h'; have:off'=off:=by omega
         subst this; exact hno hjo
        rw [U7 hrs,if_neg hne] at hg
        exact p2.inner j us cs2 off' isz ie u hci hc hcl' hg hno'
       ·rw [if_neg hk] at hu'
        exact p2.inner k us' cs2 off' isz ie u hu' hc hcl' hg hno'
      ·rw [List.getElem?_set] at hu'
       by_cases hk:j=k
       ·subst hk
        rw [if_pos rfl,if_pos (List.getElem?_eq_some_iff.1 hci).1] at hu'
        cases hu'
        rw [U7 hrs] at hg
        by_cases e:off'=off
        ·subst e
         rw [if_pos (by simp)] at hg
         simp only [Nat.sub_self,List.getElem?_cons_zero,Option.some.injEq] at hg
         subst hg
         have hx':x=y':=by
          rcases List.mem_cons.1 hm with e'|hm
          ·cases e'; rfl
          ·exact absurd rfl (aY8.1 hm).2
         subst hx'
         exact ⟨by rw [e1,e2],A,n,cap,e1,e3,e4⟩
        ·rw [if_neg (by simp only [List.length_singleton]; omega)] at hg
         rcases List.mem_cons.1 hm with e'|hm
         ·cases e'; exact absurd rfl e
         ·exact p2.hole j off' x us u (aY8.1 hm).1 hci hg
       ·rw [if_neg hk] at hu'
        rcases List.mem_cons.1 hm with e'|hm
        ·cases e'; exact absurd rfl hk
        ·exact p2.hole k off' x us' u (aY8.1 hm).1 hu' hg
     ·exact h.elim
   ·exact h.elim
  ·exact h.elim
 ·exact h.elim
theorem Post.deep {c:Ctx} {w w':World} {need:Os} {d sh sz e:Nat} {cols:aG8} {l:List (List AV)} {css:List (List Value)} {v':Value} (hok:P9 c w need) (hds:d≠sh) (hnd:lk need d=none) (hns:lk need sh=none)
  (wos:w'.os=w.os) (tape:w'.tape=w.tape) (output:w'.output=w.output) (size:w.heap.size≤w'.heap.size) (tch:Nat→Prop) (htch:∀b,tch b↔∃id o,lk need id=some o∧foot c id o b)
  (keep:∀b,b < w.heap.size→¬tch b→w'.heap[b]?=w.heap[b]?) (hR:M7 w' v' sz e css)
  (hD:aB4 c.Φ c.hd w' cols [] l css) (hb:∀b,v'.ownBlock=some b→w.heap.size≤b∨tch b) (hI:∀i off v b,Inn css cols [] i off v→v.ownBlock=some b→(w.heap.size≤b∧b < w'.heap.size)∨tch b)
  (hO:∀i off v b,Inn css cols [] i off v→v'.ownBlock=some b→v.ownBlock=some b→False) :
  ∃L:List Value,Post c w ((c.setHd d v').setHd sh (.tuple L.toArray)) w' need ((d,.deep sz e cols l [] sh)::(sh,.gone)::K5 need) [d,sh]:=by
 obtain ⟨L,hL⟩:=bW2 css cols []
 refine ⟨L,?_⟩
 have h1:((c.setHd d v').setHd sh (.tuple L.toArray)).hd d=v':=by simp [Ctx.setHd,hds]
 have h2:((c.setHd d v').setHd sh (.tuple L.toArray)).hd sh=.tuple L.toArray:=by simp [Ctx.setHd]
 have hs:∀id,(lk (K5 need) id).isSome=(lk need id).isSome:=aX4 need
 have T:∀b,tch b→Touch c need ((d,.deep sz e cols l [] sh)::(sh,.gone)::K5 need) b:=fun b hb=>by
  obtain ⟨id,o,a1,a2⟩:=(htch b).1 hb
  refine ⟨id,o,a1,?_,a2⟩
  have n1:d≠id:=fun e=>by rw [e,a1] at hnd; cases hnd
  have n2:sh≠id:=fun e=>by rw [e,a1] at hns; cases hns
  rw [G9 _ _ n1,G9 _ _ n2,hs,a1]; rfl
 have way:∀id o,lk ((d,Obj.deep sz e cols l [] sh)::(sh,.gone)::K5 need) id=some o→(id=d∧o=.deep sz e cols l [] sh)∨(id≠d∧o=.gone):=fun id o hl=>by
  rw [y7] at hl
  split at hl
  ·rename_i e1; cases hl; exact .inl ⟨e1.symm,rfl⟩
  ·rename_i e1
   rw [y7] at hl
   split at hl
   ·cases hl; exact .inr ⟨fun h=>e1 h.symm,rfl⟩
   ·exact .inr ⟨fun h=>e1 h.symm,aZ3 hl⟩
 have hfr:∀b,c.Φ b→w'.heap[b]?=w.heap[b]?:=fun b hb=>keep b (hok.phi b hb) fun ht=>by
  obtain ⟨id,o,a1,a2⟩:=(htch b).1 ht
  exact (hok.lt id o b a1 a2).2 hb
 have vb:∀b,v'.ownBlock=some b→(w.heap.size≤b∧b < w'.heap.size)∨tch b:=fun b h=>by
  rcases hb b h with h'|h'
  ·refine .inl ⟨h',?_⟩
   rcases hR.lies with ⟨e1,_⟩|⟨g,x,p,cp,cur,e1,hg,_⟩
   ·rw [e1] at h; cases h
   ·rw [e1] at h
    injection h with h
    subst h
    exact (Array.getElem?_eq_some_iff.1 hg).1
  ·exact .inr h'
 refine Post.mk' hok rfl wos tape output size (fun b hb hn=>keep b hb fun h=>hn (T b h)) (fun id hid=>⟨rfl,?_⟩) (fun id o hl=>?_) (fun id o b hl hf=>?_) (fun id id' o o' b hne hl hl' hf hf'=>?_)
 ·simp only [List.mem_cons,List.not_mem_nil,or_false,not_or] at hid
  simp [Ctx.setHd,hid.1,hid.2]
 ·rcases way id o hl with ⟨rfl,rfl⟩|⟨_,rfl⟩
  ·refine ⟨css,by rw [h1]; exact hR,⟨hD.len,hD.cell,hD.inner,fun i off x us u hm=>(by cases hm),hD.apart⟩,fun v=>by rw [h2,aY3]; exact hL v,fun i off v b hv hb'=>hO i off v b hv (by rwa [h1] at hb')⟩
  ·trivial
 ·rcases way id o hl with ⟨rfl,rfl⟩|⟨_,rfl⟩
  ·rcases hf with hf|⟨v,hv,hvb⟩
   ·rw [h1] at hf
    exact (vb b hf).imp (fun h=>h) (T b)
   ·rw [h2,aY3] at hv
    obtain ⟨i,off,hi⟩:=(hL v).1 hv
    exact (hI i off v b hi hvb).imp (fun h=>h) (T b)
  ·exact hf.elim
 ·rcases way id o hl with ⟨rfl,rfl⟩|⟨_,rfl⟩<;>rcases way id' o' hl' with ⟨rfl,rfl⟩|⟨_,rfl⟩<;>first|exact hne rfl|exact hf.elim|exact hf'.elim
theorem bC1 {c:Ctx} {w:World} {need:Os} {id sz e sh:Nat} {cols:aG8} {l:List (List AV)} (hok:P9 c w need) (hid:lk need id=some (.deep sz e cols l [] sh)):∃css,M7 w (c.hd id) sz e css∧aB4 c.Φ c.hd w cols [] l css ∧
  (∀i off v b,Inn css cols [] i off v→(c.hd id).ownBlock=some b→v.ownBlock=some b→False)∧(∀i off v b,Inn css cols [] i off v→v.ownBlock=some b→foot c id (.deep sz e cols l [] sh) b):=by
 obtain ⟨css,h1,h2,h3,h4⟩:=hok.rep id _ hid
 exact ⟨css,h1,h2,h4,fun i off v b hv hb=>.inr ⟨v,(h3 v).2 ⟨i,off,hv⟩,hb⟩⟩
theorem bF9 {i off:Nat}:¬aE1 [] i off:=fun ⟨_,h⟩=>by cases h
theorem Inn.take {css:List (List Value)} {cols:aG8} {n i off:Nat} {v:Value} (h:Inn (css.take n) cols [] i off v):Inn css cols [] i off v:=by
 obtain ⟨us,p,h1,h2,h3,h4⟩:=h
 rw [List.getElem?_take] at h1
 split at h1
 ·exact ⟨us,p,h1,h2,h3,bF9⟩
 ·cases h1
theorem aB4.take {Φ:Nat→Prop} {hd:Nat→Value} {w:World} {cols:aG8} {l:List (List AV)} {css:List (List Value)} (h:aB4 Φ hd w cols [] l css) (n:Nat):aB4 Φ hd w cols [] (l.take n) (css.take n):=by
 have g1:∀(i:Nat) us,(css.take n)[i]?=some us→css[i]?=some us:=fun i us hu=>by
  rw [List.getElem?_take] at hu; split at hu
  ·exact hu
  ·cases hu
 have g2:∀(i:Nat) cs,(l.take n)[i]?=some cs→l[i]?=some cs:=fun i us hu=>by
  rw [List.getElem?_take] at hu; split at hu
  ·exact hu
  ·cases hu
 exact ⟨by simp [h.len],fun i us cs hu hc=>h.cell i us cs (g1 i us hu) (g2 i cs hc),fun i us cs off isz ie u hu hc a b d=>h.inner i us cs off isz ie u (g1 i us hu) (g2 i cs hc) a b d,fun i off x us u hm=>(by cases hm),
  fun i off v i' off' v' b h1 h2=>h.apart i off v i' off' v' b h1.take h2.take⟩
def bV8 (tab:Q6) (os:Os) (d:Nat) (t:TypeId) (x:AV) (lo hi:Option AV) (K:Kt):Prop :=
 match lk tab t,x,lo,hi with
 |some ti,.own id,none,some (.int b)=>match lk os id,lk tab ti.elem with
  |some (.deep sz e cols l [] _),some te=>match Nat.beq id d,Nat.beq id (d+700) with
   |false,false=>ti.kind=2∧te.size=sz∧0≤b∧b≤(l.length:Int)∧∀q,q=l.take b.toNat→K (.own d) [id] [d,d+700] [(d,.deep sz e cols q [] (d+700)),(d+700,.gone),(id,.gone)]
   |_,_=>False
  |_,_=>False
 |_,_,_,_=>False
theorem cO0 (hT:O3 P tab) (d:Nat) {t:TypeId} {x:Operand} {lo hi:Option Operand} (ho:o.op=.slice t x lo hi none) (h:bV8 tab os d t (ev x) (Z5 ev lo) (Z5 ev hi) K):U8 P o ev os K:=by
 have run:∀(ρ:Operand→Value) (w:World) (v:Value),(Instr.sliceAt t (ρ x) (lo.map ρ) (hi.map ρ) none).run P w=.ok v w→(execOp ρ o).run P w=.ok (.value v) w:=fun ρ w v h=>by simp [execOp,ho,h]
 unfold bV8 at h
 split at h
 ·rename_i ti id b hti hx hlo hhi
  split at h
  ·rename_i sz e cols l sh te hid hte
   split at h
   ·rename_i hd1 hd2
    obtain ⟨hk,rfl,h0,h1,h⟩:=h
    have hd1:id≠d:=fun e=>by subst e; simp at hd1
    have hd2:id≠d+700:=fun e=>by rw [←e] at hd2; simp at hd2
    have ht:=(hT t ti hti).slice_ hk
    obtain ⟨rfl⟩:lo=none:=by cases lo<;>simp_all [Z5]
    cases hi with
    |none=>simp [Z5] at hhi
    |some z =>
     simp only [Z5,Option.some.injEq] at hhi
     refine fun _=>⟨_,[(id,.deep te.size e cols l [] sh)],_,[d,d+700],fun c w ρ hok hr=>?_,fun i ob h=>aH7 h hid,fun i hi=>?_,h _ rfl⟩
     ·have r1:=hr x (by simp [ho,Op.operands])
      have r2:=hr z (by simp [ho,Op.operands])
      rw [hx] at r1
      rw [hhi] at r2
      obtain ⟨A,cap,e1,hh,b1,b2⟩:=a95 (hok.rep id _ (p9 _ _ _)) r1
      obtain ⟨css,p1,p2,p3,p4⟩:=bC1 hok (p9 _ _ _)
      have hrun:(execOp ρ o).run P w=.ok (.value (.slice A b.toNat cap)) w:=by
       refine run ρ w _ ?_
       rw [e1]
       simp only [Option.map_none,Option.map_some,r2.int_.1]
       exact aZ6 ht (hT _ te hte) h0 (by omega)
      have hR:M7 w (.slice A b.toNat cap) te.size e (css.take b.toNat):=M7.take (by rw [←hh]; exact p1) (by omega)
      have hbl:(Value.slice A b.toNat cap).ownBlock=(c.hd id).ownBlock:=by rw [hh]; cases A<;>rfl
      obtain ⟨L,hp⟩:=Post.deep (w':=w) (l:=l.take b.toNat) (sh:=d+700) hok (by omega:d≠d+700) (by rw [G9 _ _ hd1]; rfl) (by rw [G9 _ _ hd2]; rfl) rfl rfl rfl (Nat.le_refl _) (foot c id (.deep te.size e cols l [] sh)) (fun b=>by rw [bR5]) (fun _ _ _=>rfl) hR (p2.take b.toNat)
       (fun b' hb'=>.inr (.inl (by rw [←hbl]; exact hb'))) (fun i off v b' hv hb'=>.inr (p4 i off v b' hv.take hb')) (fun i off v b' hv hb'=>p3 i off v b' hv.take (by rw [←hbl]; exact hb'))
      rw [hrun]
      exact ⟨_,hp,.own (by simp [Ctx.setHd]) (by omega) b2⟩
     ·simp only [List.mem_cons,List.not_mem_nil,or_false] at hi
      rcases hi with rfl|rfl
      ·rw [p9]; rfl
      ·rw [G9 _ _ (by omega),p9]; rfl
   ·exact h.elim
  ·exact h.elim
 ·exact h.elim
theorem Inn.app {css css2:List (List Value)} {cols:aG8} {i off:Nat} {v:Value} (h:Inn (css++css2) cols [] i off v):(i < css.length∧Inn css cols [] i off v)∨(css.length≤i∧Inn css2 cols [] (i - css.length) off v):=by
 obtain ⟨us,p,h1,h2,h3,h4⟩:=h
 by_cases hi:i < css.length
 ·rw [List.getElem?_append_left hi] at h1
  exact .inl ⟨hi,us,p,h1,h2,h3,bF9⟩
 ·rw [List.getElem?_append_right (by omega)] at h1
  exact .inr ⟨by omega,us,p,h1,h2,h3,bF9⟩
theorem aB4.append {Φ:Nat→Prop} {hd:Nat→Value} {w:World} {cols:aG8} {l l2:List (List AV)} {css css2:List (List Value)} (h:aB4 Φ hd w cols [] l css) (h2:aB4 Φ hd w cols [] l2 css2)
  (hx:∀i off v i' off' v' b,Inn css cols [] i off v→Inn css2 cols [] i' off' v'→v.ownBlock=some b→v'.ownBlock=some b→False):aB4 Φ hd w cols [] (l++l2) (css++css2):=by
 have way:∀(i:Nat) us cs,(css++css2)[i]?=some us→(l++l2)[i]?=some cs→(css[i]?=some us∧l[i]?=some cs)∨(css2[i - css.length]?=some us∧l2[i - css.length]?=some cs):=fun i us cs hu hc=>by
  by_cases hi:i < css.length
  ·rw [List.getElem?_append_left hi] at hu
   rw [List.getElem?_append_left (by rw [←h.len]; exact hi)] at hc
   exact .inl ⟨hu,hc⟩
  ·rw [List.getElem?_append_right (by omega)] at hu
   rw [List.getElem?_append_right (by rw [←h.len]; omega),←h.len] at hc
   exact .inr ⟨hu,hc⟩
 refine ⟨by simp [h.len,h2.len],fun i us cs hu hc=>?_,fun i us cs off isz ie u hu hc a b d=>?_,fun i off x us u hm=>(by cases hm),fun i off v i' off' v' b a1 a2 b1 b2=>?_⟩
 ·rcases way i us cs hu hc with ⟨q1,q2⟩|⟨q1,q2⟩
  ·exact h.cell i us cs q1 q2
  ·exact h2.cell _ us cs q1 q2
 ·rcases way i us cs hu hc with ⟨q1,q2⟩|⟨q1,q2⟩
  ·exact h.inner i us cs off isz ie u q1 q2 a b bF9
  ·exact h2.inner _ us cs off isz ie u q1 q2 a b bF9
 ·rcases a1.app with ⟨c1,d1⟩|⟨c1,d1⟩<;>rcases a2.app with ⟨c2,d2⟩|⟨c2,d2⟩
  ·exact h.apart i off v i' off' v' b d1 d2 b1 b2
  ·exact (hx _ _ _ _ _ _ b d1 d2 b1 b2).elim
  ·exact (hx _ _ _ _ _ _ b d2 d1 b2 b1).elim
  ·have:=h2.apart _ off v _ off' v' b d1 d2 b1 b2
   exact ⟨by omega,this.2⟩
def bR8 (tab:Q6) (os:Os) (d:Nat) (t t':TypeId) (x y:AV) (K:Kt):Prop :=
 match lk tab t,Nat.beq t t',x,y with
 |some ti,true,.own id,.own id2=>match lk os id,lk os id2,lk tab ti.elem with
  |some (.deep sz e cols l [] _),some (.deep sz2 e2 cols2 l2 [] _),some te=>match Nat.beq id id2,Nat.beq id d,Nat.beq id2 d,Nat.beq id (d+700),Nat.beq id2 (d+700) with
   |false,false,false,false,false=>ti.kind=2∧te.size=sz∧sz2=sz∧e=ti.elem∧cols2=cols∧0 < sz∧1≤te.bytes∧(l.length+l2.length)*te.bytes≤140737488355328∧∀q,q=l++l2→K (.own d) [id,id2] [d,d+700] [(d,.deep sz e cols q [] (d+700)),(d+700,.gone),(id,.gone),(id2,.gone)]
   |_,_,_,_,_=>False
  |_,_,_=>False
 |_,_,_,_=>False
theorem cK2 (hT:O3 P tab) (d:Nat) {t t':TypeId} {x y:Operand} (ho:o.op=.call { callee:=.builtin .append,args:=#[x,y],argTypes:=#[t,t'] }) (h:bR8 tab os d t t' (ev x) (ev y) K):U8 P o ev os K:=by
 unfold bR8 at h
 split at h
 ·rename_i ti id id2 hti htt hx hy
  obtain rfl:=Nat.eq_of_beq_eq_true htt
  split at h
  ·rename_i sz e cols1 l sh sz2 e2 cols l2 sh2 te hid hid2 hte
   split at h
   ·rename_i n1 n2 n3 n4 n5
    have n1:id≠id2:=fun e=>by subst e; simp at n1
    have n2:id≠d:=fun e=>by subst e; simp at n2
    have n3:id2≠d:=fun e=>by subst e; simp at n3
    have n4:id≠d+700:=fun e=>by rw [←e] at n4; simp at n4
    have n5:id2≠d+700:=fun e=>by rw [←e] at n5; simp at n5
    obtain ⟨hk,rfl,rfl,rfl,rfl,hpos,hpb,hb,h⟩:=h
    refine fun _=>⟨_,[(id,.deep te.size ti.elem cols l [] sh),(id2,.deep te.size e2 cols l2 [] sh2)],_,[d,d+700],fun c w ρ hok hr=>?_,fun i ob h=>?_,fun i hi=>?_,h _ rfl⟩
    ·have g1:lk [(id,Obj.deep te.size ti.elem cols l [] sh),(id2,.deep te.size e2 cols l2 [] sh2)] id=some (.deep te.size ti.elem cols l [] sh):=p9 _ _ _
     have g2:lk [(id,Obj.deep te.size ti.elem cols l [] sh),(id2,.deep te.size e2 cols l2 [] sh2)] id2=some (.deep te.size e2 cols l2 [] sh2):=by rw [G9 _ _ n1,p9]
     have r1:=hr x (by simp [ho,Op.operands,Go.Call.operands])
     have r2:=hr y (by simp [ho,Op.operands,Go.Call.operands])
     rw [hx] at r1
     rw [hy] at r2
     obtain ⟨A,cap,e1,hh,b1,b2⟩:=a95 (hok.rep id _ g1) r1
     obtain ⟨A2,cap2,e1',hh',b1',b2'⟩:=a95 (hok.rep id2 _ g2) r2
     obtain ⟨css,p1,p2,p3,p4⟩:=bC1 hok g1
     obtain ⟨css2,s1,s2,s3,s4⟩:=bC1 hok g2
     have hsrc:Src c.Φ w te.size (c.hd id2) (css2.map fun us=>us.map AV.con):=Src.of_row (e:=e2) ⟨css2,s1,by simp,fun i us cs hu hc=>by
      rw [List.getElem?_map,hu] at hc
      cases hc
      exact b66 us⟩
     have hl:css.length+(css2.map fun us=>us.map AV.con).length≤maxLen:=by
      have:(l.length+l2.length)*1≤(l.length+l2.length)*te.bytes:=Nat.mul_le_mul_left _ hpb
      rw [List.length_map,p2.len,s2.len]
      simp only [maxLen]
      omega
     obtain ⟨v',w',css3,hrun,q1,q2,q3,q4,q5⟩:=bK4 (P:=P) (hT t ti hti) hk (hT _ te hte) hpos o.type p1 hsrc (by rw [List.length_map,p2.len,s2.len]; exact hb) hl
     have hcc:css3=css2:=by
      have conEq:∀(a b:List Value),J4 c.Φ w a (b.map AV.con)→a=b:=by
       intro a b
       induction b generalizing a with
       |nil=>intro h; cases h; rfl
       |cons x b ih =>
        intro h
        cases h with|cons h1 h2 =>
        cases h1
        rw [ih _ h2]
      apply List.ext_getElem?
      intro i
      rw [List.length_map] at q1
      by_cases hi:i < css2.length
      ·have h1:css2[i]?=some css2[i]:=List.getElem?_eq_getElem hi
       have h3:css3[i]?=some (css3[i]'(by omega)):=List.getElem?_eq_getElem (by omega)
       rw [h1,h3,conEq _ css2[i] (q5 i _ _ h3 (by rw [List.getElem?_map,h1]; rfl))]
      ·rw [List.getElem?_eq_none (by omega),List.getElem?_eq_none (by omega)]
     subst hcc
     have hrun':(execOp ρ o).run P w=.ok (.value v') w':=by
      simp [execOp,ho,resolve,invoke,builtin,e1,e1',←hh,←hh',hrun]
     have sepf:∀b,foot c id (.deep te.size ti.elem cols l [] sh) b→foot c id2 (.deep te.size e2 cols l2 [] sh2) b→False:=fun b h1 h2=>hok.sep id id2 _ _ b n1 g1 g2 h1 h2
     have outer:∀b,(c.hd id).ownBlock=some b→foot c id (.deep te.size ti.elem cols l [] sh) b:=fun b hb=>.inl hb
     have outer2:∀b,(c.hd id2).ownBlock=some b→foot c id2 (.deep te.size e2 cols l2 [] sh2) b:=fun b hb=>.inl hb
     have ltf:∀b,foot c id (.deep te.size ti.elem cols l [] sh) b→b < w.heap.size:=fun b h=>(hok.lt id _ b g1 h).1
     have ltf2:∀b,foot c id2 (.deep te.size e2 cols l2 [] sh2) b→b < w.heap.size:=fun b h=>(hok.lt id2 _ b g2 h).1
     have hfr:∀b,c.Φ b→w'.heap[b]?=w.heap[b]?:=fun b hb=>q3.block b (hok.phi b hb) fun e=>(hok.lt id _ b g1 (outer b e.symm)).2 hb
     have k1:aB4 c.Φ c.hd w' cols [] l css:=p2.keep hfr (fun _ h=>h) (fun _ _ _ h=>(by cases h)) fun i off v b hv hvb=>q3.block b (ltf b (p4 i off v b hv hvb)) fun e=>p3 i off v b hv e.symm hvb
     have k2:aB4 c.Φ c.hd w' cols [] l2 css3:=s2.keep hfr (fun _ h=>h) (fun _ _ _ h=>(by cases h)) fun i off v b hv hvb=>q3.block b (ltf2 b (s4 i off v b hv hvb)) fun e=>sepf b (outer b e.symm) (s4 i off v b hv hvb)
     have newb:∀b,v'.ownBlock=some b→w.heap.size≤b∨(c.hd id).ownBlock=some b:=fun b hb=>by
      rcases q4 with h|h
      ·exact .inr (h▸hb)
      ·exact .inl (h b hb)
     obtain ⟨L,hp⟩:=Post.deep (w':=w') (l:=l++l2) (sh:=d+700) (d:=d) hok (by omega:d≠d+700) (by rw [G9 _ _ n2,G9 _ _ n3]; rfl) (by rw [G9 _ _ n4,G9 _ _ n5]; rfl) q3.os q3.tape q3.output q3.size
      (fun b=>foot c id (.deep te.size ti.elem cols l [] sh) b∨foot c id2 (.deep te.size e2 cols l2 [] sh2) b) (fun b=>⟨fun h=>by
       rcases h with h|h
       ·exact ⟨id,_,g1,h⟩
       ·exact ⟨id2,_,g2,h⟩,fun ⟨i,o',h1,h2⟩=>by
       rw [y7] at h1
       split at h1
       ·rename_i e; subst e; cases h1; exact .inl h2
       ·obtain ⟨rfl,rfl⟩:=aD8 h1
        exact .inr h2⟩) (fun b hb hn=>q3.block b hb fun e=>hn (.inl (outer b e.symm))) q2
      (k1.append k2 fun i off v i' off' v2 b a1 a2 c1 c2=>sepf b (p4 i off v b a1 c1) (s4 i' off' v2 b a2 c2))
      (fun b hb=>(newb b hb).imp (fun h=>h) fun h=>.inl (outer b h)) (fun i off v b hv hvb=>by
       rcases hv.app with ⟨_,h⟩|⟨_,h⟩
       ·exact .inr (.inl (p4 i off v b h hvb))
       ·exact .inr (.inr (s4 _ off v b h hvb))) (fun i off v b hv h1 h2=>by
       rcases hv.app with ⟨_,h⟩|⟨_,h⟩
       ·rcases newb b h1 with h'|h'
        ·have:=ltf b (p4 i off v b h h2); omega
        ·exact p3 i off v b h h' h2
       ·rcases newb b h1 with h'|h'
        ·have:=ltf2 b (s4 _ off v b h h2); omega
        ·exact sepf b (outer b h') (s4 _ off v b h h2))
     rw [hrun']
     refine ⟨_,hp,?_⟩
     obtain ⟨A3,cap3,hv3,c1,c2⟩:=q2.head
     rw [hv3]
     exact .own (by simp [Ctx.setHd]) c1 c2
    ·rw [y7] at h
     split at h
     ·rename_i e; subst e; cases h; exact hid
     ·obtain ⟨rfl,rfl⟩:=aD8 h
      exact hid2
    ·simp only [List.mem_cons,List.not_mem_nil,or_false] at hi
     rcases hi with rfl|rfl
     ·rw [p9]; rfl
     ·rw [G9 _ _ (by omega),p9]; rfl
   ·exact h.elim
  ·exact h.elim
 ·exact h.elim
def bU2 (os:Os) (cols:aG8):List AV→Nat→Option (List AV×Os)
 |[],_=>some ([],[])
 |a::r,o=>match bU2 os cols r (o+1) with
  |some (cs,g)=>match lk cols o with
   |none=>match a.ids with
    |[]=>some (a::cs,g)
    |_=>none
   |some (isz,ie)=>match a with
    |.nilsl=>some (.sl isz []::cs,g)
    |.own y=>match lk os y with
     |some (.row isz' ls ie')=>match Nat.beq isz isz',Nat.beq ie ie',lk g y with
      |true,true,none=>some (.sl isz ls::cs,(y,.row isz' ls ie')::g)
      |_,_,_=>none
     |_=>none
    |_=>none
  |none=>none
structure cV1 (os:Os) (cols:aG8) (as cs:List AV) (o:Nat) (g:Os):Prop where
 len:cs.length=as.length
 sub:∀id ob,lk g id=some ob→lk os id=some ob
 cell:∀off a,cs[off]?=some a→lk cols (o+off)=none→as[off]?=some a∧a.ids=[]
 col:∀off isz ie,off < cs.length→lk cols (o+off)=some (isz,ie)→(as[off]?=some .nilsl∧cs[off]?=some (.sl isz []))∨∃y ls,as[off]?=some (.own y)∧lk g y=some (.row isz ls ie)∧cs[off]?=some (.sl isz ls)
 one:∀off off' y p p',lk cols (o+off)=some p→lk cols (o+off')=some p'→as[off]?=some (.own y)→as[off']?=some (.own y)→off=off'
 from_:∀id ob,lk g id=some ob→∃off p isz ls ie,lk cols (o+off)=some p∧as[off]?=some (.own id)∧ob=.row isz ls ie
theorem cF3 {os:Os} {cols:aG8}:∀{as cs:List AV} {o:Nat} {g:Os},bU2 os cols as o=some (cs,g)→cV1 os cols as cs o g
 |[],cs,o,g,h=>by
  simp only [bU2,Option.some.injEq,Prod.mk.injEq] at h
  obtain ⟨rfl,rfl⟩:=h
  exact ⟨rfl,fun _ _ h=>(by cases h),fun off a h=>by simp at h,fun off isz ie h=>by simp at h,fun off off' y p p' _ _ h=>by simp at h,fun _ _ h=>(by cases h)⟩
 |a::r,cs,o,g,h=>by
  rw [bU2] at h
  cases hr:bU2 os cols r (o+1) with
  |none=>rw [hr] at h; cases h
  |some q =>
   obtain ⟨cs1,g1⟩:=q
   rw [hr] at h
   have ih:=cF3 hr
   have sh:∀off,o+(off+1)=o+1+off:=fun off=>by omega
   simp only at h
   split at h
   ·rename_i hcol
    split at h
    ·rename_i hids
     simp only [Option.some.injEq,Prod.mk.injEq] at h
     obtain ⟨rfl,rfl⟩:=h
     refine ⟨by simp [ih.len],ih.sub,fun off b hb hn=>?_,fun off isz ie hl hc=>?_,fun off off' y p p' h1 h2 h3 h4=>?_,fun id ob hg=>?_⟩
     ·cases off with
      |zero=>simp at hb; subst hb; exact ⟨rfl,hids⟩
      |succ off=>rw [sh] at hn; simpa using ih.cell off b (by simpa using hb) hn
     ·cases off with
      |zero=>simp only [Nat.add_zero] at hc; rw [hcol] at hc; cases hc
      |succ off=>rw [sh] at hc; simpa using ih.col off isz ie (by simpa using hl) hc
     ·cases off with
      |zero=>simp only [Nat.add_zero] at h1; rw [hcol] at h1; cases h1
      |succ off=>cases off' with
       |zero=>simp only [Nat.add_zero] at h2; rw [hcol] at h2; cases h2
       |succ off'=>rw [sh] at h1 h2; rw [ih.one off off' y p p' h1 h2 (by simpa using h3) (by simpa using h4)]
     ·obtain ⟨off,p,isz,ls,ie,h1,h2,h3⟩:=ih.from_ id ob hg
      exact ⟨off+1,p,isz,ls,ie,by rw [sh]; exact h1,by simpa using h2,h3⟩
    ·cases h
   ·rename_i isz ie hcol
    split at h
    ·simp only [Option.some.injEq,Prod.mk.injEq] at h
     obtain ⟨rfl,rfl⟩:=h
     refine ⟨by simp [ih.len],ih.sub,fun off b hb hn=>?_,fun off isz' ie' hl hc=>?_,fun off off' y p p' h1 h2 h3 h4=>?_,fun id ob hg=>?_⟩
     ·cases off with
      |zero=>simp only [Nat.add_zero] at hn; rw [hcol] at hn; cases hn
      |succ off=>rw [sh] at hn; simpa using ih.cell off b (by simpa using hb) hn
     ·cases off with
      |zero=>simp only [Nat.add_zero] at hc; rw [hcol] at hc; cases hc; exact .inl ⟨rfl,rfl⟩
      |succ off=>rw [sh] at hc; simpa using ih.col off isz' ie' (by simpa using hl) hc
     ·cases off with
      |zero=>simp at h3
      |succ off=>cases off' with
       |zero=>simp at h4
       |succ off'=>rw [sh] at h1 h2; rw [ih.one off off' y p p' h1 h2 (by simpa using h3) (by simpa using h4)]
     ·obtain ⟨off,p,isz',ls,ie',h1,h2,h3⟩:=ih.from_ id ob hg
      exact ⟨off+1,p,isz',ls,ie',by rw [sh]; exact h1,by simpa using h2,h3⟩
    ·rename_i y
     split at h
     ·rename_i isz' ls ie' hy
      split at h
      ·rename_i b1 b2 hgy
       obtain rfl:=Nat.eq_of_beq_eq_true b1
       obtain rfl:=Nat.eq_of_beq_eq_true b2
       simp only [Option.some.injEq,Prod.mk.injEq] at h
       obtain ⟨rfl,rfl⟩:=h
       have up:∀z ob,lk g1 z=some ob→lk ((y,Obj.row isz ls ie)::g1) z=some ob:=fun z ob hz=>by
        rw [G9 _ _ (fun e=>by rw [e,hz] at hgy; cases hgy)]; exact hz
       have other:∀off p,lk cols (o+1+off)=some p→r[off]?=some (.own y)→False:=fun off p h1 h2=>by
        have hl:off < cs1.length:=by rw [ih.len]; exact (List.getElem?_eq_some_iff.1 h2).1
        rcases ih.col off p.1 p.2 hl h1 with ⟨h3,_⟩|⟨y',ls',h3,h4,_⟩
        ·rw [h2] at h3; cases h3
        ·rw [h2] at h3; cases h3; rw [hgy] at h4; cases h4
       refine ⟨by simp [ih.len],fun id ob hg=>?_,fun off b hb hn=>?_,fun off isz' ie' hl hc=>?_,fun off off' z p p' h1 h2 h3 h4=>?_,fun id ob hg=>?_⟩
       ·rw [y7] at hg
        split at hg
        ·rename_i e; subst e; cases hg; exact hy
        ·exact ih.sub id ob hg
       ·cases off with
        |zero=>simp only [Nat.add_zero] at hn; rw [hcol] at hn; cases hn
        |succ off=>rw [sh] at hn; simpa using ih.cell off b (by simpa using hb) hn
       ·cases off with
        |zero=>simp only [Nat.add_zero] at hc; rw [hcol] at hc; cases hc; exact .inr ⟨y,ls,rfl,p9 _ _ _,rfl⟩
        |succ off =>
         rw [sh] at hc
         rcases ih.col off isz' ie' (by simpa using hl) hc with h|⟨y',ls',h3,h4,h5⟩
         ·exact .inl (by simpa using h)
         ·exact .inr ⟨y',ls',by simpa using h3,up _ _ h4,by simpa using h5⟩
       ·cases off with
        |zero=>cases off' with
         |zero=>rfl
         |succ off' =>
          simp only [List.getElem?_cons_zero,Option.some.injEq,AV.own.injEq] at h3
          subst h3
          rw [sh] at h2
          exact (other off' p' h2 (by simpa using h4)).elim
        |succ off=>cases off' with
         |zero =>
          simp only [List.getElem?_cons_zero,Option.some.injEq,AV.own.injEq] at h4
          subst h4
          rw [sh] at h1
          exact (other off p h1 (by simpa using h3)).elim
         |succ off'=>rw [sh] at h1 h2; rw [ih.one off off' z p p' h1 h2 (by simpa using h3) (by simpa using h4)]
       ·rw [y7] at hg
        split at hg
        ·rename_i e; subst e; cases hg; exact ⟨0,(isz,ie),isz,ls,ie,by simpa using hcol,rfl,rfl⟩
        ·obtain ⟨off,p,isz',ls',ie',h1,h2,h3⟩:=ih.from_ id ob hg
         exact ⟨off+1,p,isz',ls',ie',by rw [sh]; exact h1,by simpa using h2,h3⟩
      ·cases h
     ·cases h
    ·cases h
def bY3 (tab:Q6) (os:Os) (ev:Ev) (d:Nat) (t:TypeId) (n:Nat) (parts:Array (Nat×Operand)) (K:Kt):Prop :=
 match lk tab t,n,parts.toList with
 |some ti,1,[(0,x)]=>match lk tab ti.elem,(ev x).cells? with
  |some te,some as=>∃cols cs g,bU2 os cols as 0=some (cs,g)∧ti.kind=2∧te.size=as.length∧te.size≤16777216∧0 < te.size∧lk g d=none∧lk g (d+700)=none∧K (.own d) (g.map (·.1)) [d,d+700] ((d,.deep te.size ti.elem cols [cs] [] (d+700))::(d+700,.gone)::K5 g)
  |_,_=>False
 |_,_,_=>False
theorem a15 {β:Type} {a b:β} {i:Nat} (h:[a][i]?=some b):i=0∧b=a:=by
 cases i with
 |zero=>simp at h; exact ⟨rfl,h.symm⟩
 |succ i=>simp at h
theorem cM7 (hT:O3 P tab) (d:Nat) {t:TypeId} {n:Nat} {parts:Array (Nat×Operand)} (ho:o.op=.buildSlice t n parts) (h:bY3 tab os ev d t n parts K):U8 P o ev os K:=by
 unfold bY3 at h
 split at h
 ·rename_i ti x hti hparts
  split at h
  ·rename_i te as hte hcs
   obtain ⟨cols,cs,g,hdc,hk,hsz,hmax,hpos,hgd,hgs,h⟩:=h
   have D:=cF3 hdc
   have ht:=(hT t ti hti).slice_ hk
   have hE:=hT _ te hte
   have hpa:parts=#[(0,x)]:=by simpa using congrArg List.toArray hparts
   subst hpa
   refine fun _=>⟨_,g,_,[d,d+700],fun c w ρ hok hr=>?_,D.sub,fun i hi=>?_,h⟩
   ·have r1:=hr x (by simp [ho,Op.operands])
    obtain ⟨rv,h1⟩:=aK4 r1 hcs
    obtain ⟨z,hz,hzo,hza⟩:=hE.run_zero w
    have hzr:=aH3 c.Φ w _ _ hzo
    have hzl:z.cells.toList.length=te.size:=by rw [hzr.1.length,hE.zl]
    have hul:(ρ x).cells.toList.length=te.size:=by rw [rv.length,hsz]
    generalize hus:(ρ x).cells.toList=us at rv h1 hul
    have hrun:(execOp ρ o).run P w=.ok (.value (.slice (some ⟨w.heap.size,0,none⟩) 1 1)) (w.alloc (.cells us.toArray ti.elem)):=by
     have hlim:¬(1*te.size > 2 ^ 24):=by omega
     have h0:¬(1*te.size=0):=by omega
     have hcells:(Array.range (1*te.size)).map (z.cells[· % z.cells.size]!)=z.cells.toList.toArray:=by
      have:=bD9 z.cells.toList 1
      rw [hzl] at this
      apply Array.toList_inj.1
      simpa [madeCells] using this
     obtain ⟨rs,hrs⟩:=aN3 0 us z.cells.toList (by omega)
     have hrs':rs=us:=by
      apply List.ext_getElem?
      intro j
      rw [U7 hrs]
      by_cases hj:j < us.length
      ·rw [if_pos (by omega)]; simp
      ·rw [if_neg (by omega),List.getElem?_eq_none (by omega),List.getElem?_eq_none (by omega)]
     have hfold:=foldl_set 0 us 0 z.cells.toList rs (by simpa using hrs)
     have hfold2:(ρ x).cells.zipIdx.foldl (fun (cs:Array Value) (c,j)=>cs.setIfInBounds (0+j) c) z.cells.toList.toArray=us.toArray:=by
      rw [←hrs',←hfold,←hus,←Array.foldl_toList]
      simp
     have hsz1:(ρ x).cells.size=te.size:=by rw [←hul,←hus]; simp
     have hsz2:z.cells.toList.toArray.size=te.size:=by simpa using hzl
     simp only [execOp,ho,Instr.buildSlice,Sem.run_bind,run_underlying ht,hE.run_size,Result.andThen_ok,if_neg hlim,if_neg h0,hz,Sem.run_pure,hcells]
     have hfill:Instr.fill (fun i=>some (i*te.size,te.size)) z.cells.toList.toArray [(0,ρ x)]=some us.toArray:=by
      simp only [Instr.fill,Nat.zero_mul]
      rw [if_neg (by rw [hsz1,hsz2]; simp)]
      exact congrArg some hfold2
     have hpl:(Array.map (fun (p:Nat×Operand)=>(p.1,ρ p.2)) #[(0,x)]).toList=[(0,ρ x)]:=by simp
     simp [hpl,hfill,newRow]
    have hold:∀b,b < w.heap.size→(w.alloc (.cells us.toArray ti.elem)).heap[b]?=w.heap[b]?:=fun b hb=>alloc_old w _ hb
    have hR:M7 (w.alloc (.cells us.toArray ti.elem)) (.slice (some ⟨w.heap.size,0,none⟩) 1 1) te.size ti.elem [us]:=by
     have:=M7.made (w:=w) (sz:=te.size) (e:=ti.elem) (css:=[us]) (fun v hv=>by rw [List.mem_singleton.1 hv]; exact hul) (fun v hv u hu=>by rw [List.mem_singleton.1 hv] at hu; exact h1 u hu) (by simp [maxLen])
     simpa using this
    have hcol:∀off isz ie u,us[off]?=some u→lk cols off=some (isz,ie)→(cs[off]?=some (.sl isz [])∧u=.slice none 0 0)∨∃y ls,as[off]?=some (.own y)∧lk g y=some (.row isz ls ie)∧cs[off]?=some (.sl isz ls)∧u=c.hd y:=fun off isz ie u hu hc=>by
     have hlt:off < cs.length:=by rw [D.len,←hsz,←hul]; exact (List.getElem?_eq_some_iff.1 hu).1
     rcases D.col off isz ie hlt (by simpa using hc) with ⟨a1,a2⟩|⟨y,ls,a1,a2,a3⟩
     ·obtain ⟨v,hv,hr⟩:=rv.get a1
      rw [hu] at hv; cases hv
      exact .inl ⟨a2,hr.nilsl_⟩
     ·obtain ⟨v,hv,hr⟩:=rv.get a1
      rw [hu] at hv; cases hv
      obtain ⟨A,m,cap,e1,e2,_⟩:=hr.own_
      exact .inr ⟨y,ls,a1,a2,a3,by rw [e1,e2]⟩
    have hblk:∀off p u b,us[off]?=some u→lk cols off=some p→u.ownBlock=some b→∃y ob,as[off]?=some (.own y)∧lk g y=some ob∧foot c y ob b:=fun off p u b hu hc hb=>by
     rcases hcol off p.1 p.2 u hu hc with ⟨_,rfl⟩|⟨y,ls,a1,a2,_,rfl⟩
     ·cases hb
     ·exact ⟨y,_,a1,a2,hb⟩
    have hD:aB4 c.Φ c.hd (w.alloc (.cells us.toArray ti.elem)) cols [] [cs] [us]:=by
     refine ⟨rfl,fun i us' cs' hu hc=>?_,fun i us' cs' off isz ie u hu hc a b _=>?_,fun i off x us u hm=>(by cases hm),fun i off v i' off' v' b h2 h3 h4 h5=>?_⟩
     ·obtain ⟨rfl,rfl⟩:=a15 hu
      obtain ⟨_,rfl⟩:=a15 hc
      refine ⟨by rw [hul,D.len,hsz],fun off u a hu' ha hn=>?_⟩
      obtain ⟨a1,a2⟩:=D.cell off a ha (by simpa using hn)
      obtain ⟨v,hv,hr'⟩:=rv.get a1
      rw [hu'] at hv; cases hv
      exact (Rd.rf a2 hr').mono (fun b hb=>hold b (hok.phi b hb)) fun _ h=>h
     ·obtain ⟨rfl,rfl⟩:=a15 hu
      obtain ⟨_,rfl⟩:=a15 hc
      rcases hcol off isz ie u b a with ⟨h2,rfl⟩|⟨y,ls,_,h3,h4,rfl⟩
      ·exact ⟨[],h2,[],⟨.inl ⟨rfl,rfl⟩,by simp,by simp⟩,rfl,fun i us cs h=>by simp at h⟩
      ·exact ⟨ls,h4,O6.keep (hok.rep y _ h3) (fun b hb=>hold b (hok.phi b hb)) (fun _ h=>h) fun b hb=>hold b (hok.lt y _ b h3 hb).1⟩
     ·obtain ⟨us1,p1,a1,a2,a3,_⟩:=h2
      obtain ⟨us2,p2,b1,b2,b3,_⟩:=h3
      obtain ⟨rfl,rfl⟩:=a15 a1
      obtain ⟨rfl,rfl⟩:=a15 b1
      obtain ⟨y1,o1,c1,c2,c3⟩:=hblk off p1 v b a3 a2 h4
      obtain ⟨y2,o2,d1,d2,d3⟩:=hblk off' p2 v' b b3 b2 h5
      refine ⟨rfl,?_⟩
      by_cases hy:y1=y2
      ·subst hy
       exact D.one off off' y1 p1 p2 (by simpa using a2) (by simpa using b2) c1 d1
      ·exact (hok.sep y1 y2 o1 o2 b hy c2 d2 c3 d3).elim
    have hinn:∀i off v b,Inn [us] cols [] i off v→v.ownBlock=some b→∃y ob,lk g y=some ob∧foot c y ob b:=fun i off v b hv hb=>by
     obtain ⟨us1,p1,a1,a2,a3,_⟩:=hv
     obtain ⟨rfl,rfl⟩:=a15 a1
     obtain ⟨y1,o1,_,c2,c3⟩:=hblk off p1 v b a3 a2 hb
     exact ⟨y1,o1,c2,c3⟩
    obtain ⟨L,hp⟩:=Post.deep (w':=w.alloc (.cells us.toArray ti.elem)) (l:=[cs]) (d:=d) (sh:=d+700) hok (by omega) hgd hgs rfl rfl rfl (by rw [aO8]; omega) (fun b=>∃id o,lk g id=some o∧foot c id o b) (fun b=>Iff.rfl) (fun b hb _=>hold b hb) hR hD
     (fun b hb=>.inl (by have hb:some w.heap.size=some b:=hb; cases hb; exact Nat.le_refl _)) (fun i off v b hv hb=>.inr (hinn i off v b hv hb)) (fun i off v b hv hb hb'=>by
      have hb:some w.heap.size=some b:=hb
      cases hb
      obtain ⟨y,ob,h2,h3⟩:=hinn i off v _ hv hb'
      have:=(hok.lt y ob _ h2 h3).1
      omega)
    rw [hrun]
    exact ⟨_,hp,.own (by simp [Ctx.setHd]) (Nat.le_refl _) (by simp [maxLen])⟩
   ·simp only [List.mem_cons,List.not_mem_nil,or_false] at hi
    rcases hi with rfl|rfl
    ·rw [p9]; rfl
    ·rw [G9 _ _ (by omega),p9]; rfl
  ·exact h.elim
 ·exact h.elim
theorem bT8 {c:Ctx} {w:World} {g:Os} {id sz e sh:Nat} {cols:aG8} {l:List (List AV)} {v:Value} (hok:P9 c w g) (hg:lk g id=some (.deep sz e cols l [] sh)) (hr:Rd c w v (.own id)):Rd (c.fz g) w v (.sl sz l):=by
 obtain ⟨A,cap,e1,hh,b1,b2⟩:=a95 (hok.rep id _ hg) hr
 obtain ⟨css,p1,p2,p3,p4⟩:=bC1 hok hg
 have hin:∀b,foot c id (.deep sz e cols l [] sh) b→fzΦ c g b:=fun b hb=>.inr ⟨id,_,hg,hb⟩
 refine .fz ?_
 rw [e1,←hh]
 refine p1.rf (Φ:=fzΦ c g) p2.len (fun i us cs hu hc=>?_) (fun _ h=>h) fun b hb=>hin b (.inl hb)
 obtain ⟨q1,q2⟩:=p2.cell i us cs hu hc
 have key:∀(us:List Value) (cs:List AV),us.length=cs.length→(∀(off:Nat) (u:Value) (a:AV),us[off]?=some u→cs[off]?=some a→Rf (fzΦ c g) w u a)→J4 (fzΦ c g) w us cs:=by
  intro us
  induction us with
  |nil=>intro cs hl _; cases cs with
   |nil=>exact .nil
   |cons a cs=>cases hl
  |cons u us ih=>intro cs hl h; cases cs with
   |nil=>cases hl
   |cons a cs=>exact .cons (h 0 u a rfl rfl) (ih cs (by simpa using hl) fun off u' a' h1 h2=>h (off+1) u' a' (by simpa using h1) (by simpa using h2))
 refine key us cs q1 fun off u a h1 h2=>?_
 cases hcol:lk cols off with
 |none=>exact (q2 off u a h1 h2 hcol).mono (fun _ _=>rfl) fun b hb=>.inl hb
 |some p =>
  obtain ⟨isz,ie⟩:=p
  obtain ⟨ls,a1,a2⟩:=p2.inner i us cs off isz ie u hu hc hcol h1 bF9
  rw [h2] at a1
  cases a1
  exact a2.rf (fun b hb=>.inl hb) fun b hb=>hin b (p4 i off u b ⟨us,_,hu,hcol,h1,bF9⟩ hb)
structure aL8 (os:Os) (as r:List AV) (g:Os):Prop where
 sub:∀id o,lk g id=some o→lk os id=some o
 run:∀(c:Ctx) (w:World) (us:List Value),P9 c w g→F6 c w us as→F6 (c.fz g) w us r
theorem aS5.lend {as r:List AV} {g:Os} (h:aS5 os as r g):aL8 os as r g:=⟨h.sub,h.run⟩
theorem aL8.cons' {id:Nat} {a b:AV} {o:Obj} {l r:List AV} {g:Os} (hid:lk os id=some o) (hrun:∀(c:Ctx) (w:World) (v:Value) (g:Os),P9 c w g→lk g id=some o→Rd c w v a→Rd (c.fz g) w v b) (H:aL8 os l r g):aL8 os (a::l) (b::r) ((id,o)::g):=by
 have hs:∀i x,lk ((id,o)::g) i=some x→lk os i=some x:=fun i x h=>by
  rw [y7] at h
  split at h
  ·rename_i e1; subst e1; cases h; exact hid
  ·exact H.sub i x h
 refine ⟨hs,fun c w us hok h=>?_⟩
 cases h with|cons h t =>
  have hsub:∀i x,lk g i=some x→lk ((id,o)::g) i=some x:=fun i x hi=>by
   rw [y7]
   split
   ·rename_i e1
    subst e1
    rw [←hid,H.sub _ _ hi]
   ·exact hi
  exact .cons (hrun c w _ _ hok (p9 _ _ _) h) ((H.run c w _ (hok.sub hsub) t).fzmono hsub)
theorem aL8.skip {a:AV} {l r:List AV} {g:Os} (H:aL8 os l r g):aL8 os (a::l) (a::r) g :=
 ⟨H.sub,fun c w us hok h=>by cases h with|cons h t=>exact .cons (h.fz0 g) (H.run c w _ hok t)⟩
def a18 (os:Os):List AV→List AV×Os
 |[]=>([],[])
 |.own id::l=>match lk os id with
  |some (.row sz ls e)=>(.sl sz ls::(a18 os l).1,(id,.row sz ls e)::(a18 os l).2)
  |some (.deep sz e cols z [] sh)=>(.sl sz z::(a18 os l).1,(id,.deep sz e cols z [] sh)::(a18 os l).2)
  |_=>(.own id::(a18 os l).1,(a18 os l).2)
 |a::l=>(a::(a18 os l).1,(a18 os l).2)
def fzD (os:Os):List AV→List AV×Os
 |[]=>([],[])
 |.own id::l=>match lk os id with
  |some (.row sz ls e)=>(.sl sz ls::(fzD os l).1,(id,.row sz ls e)::(fzD os l).2)
  |some (.deep sz e cols z [] sh)=>(.sl sz z::(fzD os l).1,(id,.deep sz e cols z [] sh)::(fzD os l).2)
  |_=>(.own id::(fzD os l).1,(fzD os l).2)
 |.agg cs::l=>(.agg (a18 os cs).1::(fzD os l).1,(a18 os cs).2++(fzD os l).2)
 |.osr id n sz'::l=>match lk os id with
  |some (.row sz ls e)=>match Nat.beq sz' sz with
   |true=>(.sl sz (ls.drop n)::(fzD os l).1,(id,.row sz ls e)::(fzD os l).2)
   |false=>(.osr id n sz'::(fzD os l).1,(fzD os l).2)
  |_=>(.osr id n sz'::(fzD os l).1,(fzD os l).2)
 |a::l=>(a::(fzD os l).1,(fzD os l).2)
theorem cY7 {c:Ctx} {w:World} {g:Os} {id sz e n:Nat} {ls:List (List AV)} {v:Value} (hok:P9 c w g) (hg:lk g id=some (.row sz ls e)) (hr:Rd c w v (.osr id n sz)):Rd (c.fz g) w v (.sl sz (ls.drop n)):=by
 obtain ⟨A,m,cap,rfl,e2,e3,e4,e5⟩:=hr.osr_
 have h:=bE5 hok hg (Rd.own (w:=w) e2 e4 e5)
 have hm:ls.length=m:=by
  obtain ⟨A',k,us,b,o,e,_⟩:=h.sl_
  injection e with _ e _
  exact e.symm
 obtain ⟨A',cap',e,hc,hr'⟩:=h.off (a:=n) (by omega)
 injection e with q1 q2 q3
 subst q1 q3
 rw [hm] at hr'
 exact hr'
theorem cW5 : ∀as:List AV,aL8 os as (a18 os as).1 (a18 os as).2:=by
 intro as
 fun_induction a18 os as with
 |case1=>exact ⟨fun _ _ h=>(by cases h),fun c w us _ h=>by cases h; exact .nil⟩
 |case2 id l sz ls e hid ih=>exact .cons' hid (fun c w v g hok hg h=>bE5 hok hg h) ih
 |case3 id l sz e cols z sh hid ih=>exact .cons' hid (fun c w v g hok hg h=>bT8 hok hg h) ih
 |case4 id l _ _ ih=>exact .skip ih
 |case5 a l _ ih=>exact .skip ih
theorem cN5 : ∀as:List AV,aL8 os as (fzD os as).1 (fzD os as).2:=by
 intro as
 fun_induction fzD os as with
 |case1=>exact ⟨fun _ _ h=>(by cases h),fun c w us _ h=>by cases h; exact .nil⟩
 |case2 id l sz ls e hid ih=>exact .cons' hid (fun c w v g hok hg h=>bE5 hok hg h) ih
 |case3 id l sz e cols z sh hid ih=>exact .cons' hid (fun c w v g hok hg h=>bT8 hok hg h) ih
 |case4 id l _ _ ih=>exact .skip ih
 |case5 cs l ih =>
  have C:=cW5 (os:=os) cs
  obtain ⟨s1,s2,s3⟩:=aW1 C.sub ih.sub
  refine ⟨s1,fun c w us hok h=>?_⟩
  cases h with|cons h t =>
   obtain ⟨vs,rfl,hv⟩:=h.agg_
   exact .cons (.agg ((C.run c w _ (hok.sub s3) hv).fzmono s3)) ((ih.run c w _ (hok.sub s2) t).fzmono s2)
 |case6 id n sz' l sz ls e hid hsz ih =>
  obtain rfl:=Nat.eq_of_beq_eq_true hsz
  exact .cons' hid (fun c w v g hok hg h=>cY7 hok hg h) ih
 |case7=>rename_i ih; exact .skip ih
 |case8=>rename_i ih; exact .skip ih
 |case9=>rename_i ih; exact .skip ih
end
end Go.Proofs.YtibjcppjfkamhaaGreatDoor
