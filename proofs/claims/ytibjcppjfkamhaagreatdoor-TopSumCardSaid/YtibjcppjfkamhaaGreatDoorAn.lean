/- The few things that an operation may do to objects: freeze them, lay a new one, write one; and one after the other. No program in sight, no conditions. -/
import Derived.Test.YtibjcppjfkamhaaGreatDoorAm
namespace Go.Proofs.YtibjcppjfkamhaaGreatDoor
open Go.RowKit
set_option linter.unusedVariables false
theorem bO9 {β γ:Type} (f:β→γ) (id:Nat):∀l:List (Nat×β),(lk (l.map fun p=>(p.1,f p.2)) id).isSome=(lk l id).isSome
 |[]=>rfl
 |(k,v)::l=>by
  rw [List.map_cons,y7,y7]
  split
  ·rfl
  ·exact bO9 f id l
theorem cS3 {l:Os} {id:Nat} {o:Obj} (h:lk (l.map fun p=>(p.1,Obj.gone)) id=some o):o=.gone:=by
 have:=aA5 h
 simp only [List.mem_map,Prod.mk.injEq] at this
 obtain ⟨a,_,_,h⟩:=this
 exact h.symm
theorem Post.trans {c c1 c2:Ctx} {w w1 w2:World} {need need2 upd1 upd2:Os} {news1 news2:List Nat} (hok:P9 c w need) (h1:Post c w c1 w1 need upd1 news1) (h2:Post c1 w1 c2 w2 need2 upd2 news2)
  (hn1:∀id∈news1,(lk upd1 id).isSome=true) (hn2:∀id∈news2,(lk upd2 id).isSome=true)
  (hneed:∀id o,lk need2 id=some o→lk (upd1++need) id=some o) (hf1:∀id o,lk need id=some o→lk upd1 id=none→∀x∈news1,x ∉ o.ids)
  (hf2:∀id o,lk (upd1++need) id=some o→lk upd2 id=none→∀x∈news2,x ∉ o.ids):Post c w c2 w2 need (upd2++upd1) (news2++news1):=by
 have ok1:P9 c1 w1 (upd1++need):=hok.frame (fun _ _ h=>h) h1 hn1 hf1
 have ok2:P9 c2 w2 (upd2++(upd1++need)):=ok1.frame hneed h2 hn2 hf2
 have hsome:∀id,(lk (upd2++upd1) id).isSome=true↔(lk upd2 id).isSome=true∨(lk upd1 id).isSome=true:=fun id=>by
  rw [L9]
  cases lk upd2 id<;>cases lk upd1 id<;>simp
 have t1:∀b,Touch c need upd1 b→Touch c need (upd2++upd1) b:=fun b ⟨id,o,a1,a2,a3⟩=>⟨id,o,a1,(hsome id).2 (.inr a2),a3⟩
 have t2:∀b,Touch c1 need2 upd2 b→w.heap.size≤b∨Touch c need (upd2++upd1) b:=by
  rintro b ⟨id,o,a1,a2,a3⟩
  have a1':=hneed id o a1
  rw [L9] at a1'
  cases hu:lk upd1 id with
  |some x =>
   rw [hu] at a1'
   simp at a1'
   subst a1'
   exact (h1.feet id x b hu a3).imp (fun h=>h) (t1 b)
  |none =>
   rw [hu] at a1'
   have hnot:id ∉ news1:=fun hm=>by have:=hn1 id hm; rw [hu] at this; cases this
   have a1'':lk need id=some o:=by simpa using a1'
   exact .inr ⟨id,o,a1'',(hsome id).2 (.inl a2),(bD6 (h1.ctx id hnot) fun x hx=>h1.ctx x fun hm=>hf1 id o a1'' hu x hm hx).1 a3⟩
 refine ⟨h2.wos.trans h1.wos,h2.tape.trans h1.tape,h2.output.trans h1.output,Nat.le_trans h1.size h2.size,fun b h=>h2.phi b (h1.phi b h),fun b h=>?_,fun b hb ht=>?_,fun id hid=>?_,?_,fun id o b hl hf=>?_⟩
 ·rcases h2.phiNew b h with h|h|h
  ·exact (h1.phiNew b h).imp (fun h=>h) (.imp (fun h=>h) (t1 b))
  ·exact .inr (.inl (Nat.le_trans h1.size h))
  ·exact .inr (t2 b h)
 ·refine (h2.keep b (Nat.lt_of_lt_of_le hb h1.size) fun h=>?_).trans (h1.keep b hb fun h=>ht (t1 b h))
  rcases t2 b h with h|h
  ·exact absurd hb (Nat.not_lt.2 h)
  ·exact ht h
 ·simp only [List.mem_append] at hid
  have a:=h1.ctx id fun h=>hid (.inr h)
  have b:=h2.ctx id fun h=>hid (.inl h)
  exact ⟨b.1.trans a.1,b.2.trans a.2⟩
 ·refine ok2.sub fun id o h=>?_
  rw [L9] at h ⊢
  cases hu:lk upd2 id with
  |some x=>rw [hu] at h; simpa using h
  |none =>
   rw [hu] at h
   rw [L9]
   simp at h
   simp [h]
 ·rw [L9] at hl
  cases hu:lk upd2 id with
  |some x =>
   rw [hu] at hl
   simp at hl
   subst hl
   rcases h2.feet id x b hu hf with h|h
   ·exact .inl (Nat.le_trans h1.size h)
   ·exact t2 b h
  |none =>
   rw [hu] at hl
   simp at hl
   have hnot:id ∉ news2:=fun hm=>by have:=hn2 id hm; rw [hu] at this; cases this
   exact (h1.feet id o b hl ((bD6 (h2.ctx id hnot) fun x hx=>h2.ctx x fun hm=>hf2 id o (by rw [L9,hl]; rfl) hu x hm hx).1 hf)).imp (fun h=>h) (t1 b)
theorem flat_get {β:Type} (n:Nat):∀(css:List (List β)),(∀cs∈css,cs.length=n)→∀(i j:Nat) (cs:List β),css[i]?=some cs→j < n→css.flatten[i*n+j]?=cs[j]?
 |[],_,i,j,cs,h,_=>by simp at h
 |c::css,hl,0,j,cs,h,hj=>by
  simp at h
  subst h
  have:c.length=n:=hl c (by simp)
  simp [List.getElem?_append_left,this,hj]
 |c::css,hl,i+1,j,cs,h,hj=>by
  have hc:c.length=n:=hl c (by simp)
  have ih:=flat_get n css (fun x hx=>hl x (by simp [hx])) i j cs (by simpa using h) hj
  have e:(i+1)*n+j=c.length+(i*n+j):=by rw [hc,Nat.succ_mul]; omega
  rw [List.flatten_cons,e,List.getElem?_append_right (by omega)]
  simpa using ih
theorem aA6 {β:Type} (n:Nat):∀(css:List (List β)),(∀cs∈css,cs.length=n)→css.flatten.length=css.length*n
 |[],_=>by simp
 |c::css,hl=>by
  have ih:=aA6 n css (fun x hx=>hl x (by simp [hx]))
  rw [List.flatten_cons,List.length_append,hl c (by simp),ih,List.length_cons,Nat.succ_mul]; omega
theorem M7.head {w:World} {hdv:Value} {sz e:Nat} {css:List (List Value)} (h:M7 w hdv sz e css):∃A cap,hdv=.slice A css.length cap∧css.length≤cap∧cap≤maxLen:=by
 rcases h.lies with ⟨rfl,hn⟩|⟨g,x,p,cap,cur,rfl,hg,h1,h2,_⟩
 ·exact ⟨none,0,by rw [hn],by omega,by simp [maxLen]⟩
 ·exact ⟨_,cap,rfl,h1,by omega⟩
theorem M7.cells {w:World} {hdv:Value} {sz e:Nat} {css:List (List Value)} (h:M7 w hdv sz e css) {i:Nat} {us:List Value} (hi:css[i]?=some us) :
  ∃g x cap,hdv=.slice (some ⟨g,x,none⟩) css.length cap∧hdv.ownBlock=some g∧∀j u,us[j]?=some u→w.cell? ⟨g,x+i*sz+j,none⟩=some u:=by
 have hil:i < css.length:=(List.getElem?_eq_some_iff.1 hi).1
 rcases h.lies with ⟨rfl,hn⟩|⟨g,x,p,cap,cur,rfl,hg,h1,h2,h3,hx,h4⟩
 ·omega
 ·obtain rfl:=hx (by omega)
  refine ⟨g,p*sz,cap,rfl,rfl,fun j u hj=>?_⟩
  have hm:us∈css:=List.mem_of_getElem? hi
  have hul:=h.len us hm
  have hjs:j < sz:=by rw [←hul]; exact (List.getElem?_eq_some_iff.1 hj).1
  have hfl:=flat_get sz css h.len i j us hi hjs
  have hb1:i*sz+j < css.length*sz:=by
   calc i*sz+j < i*sz+sz:=by omega
    _=(i+1)*sz:=by rw [Nat.succ_mul]
    _≤css.length*sz:=Nat.mul_le_mul_right _ (by omega)
  have hc:w.cell? ⟨g,p*sz+i*sz+j,none⟩=css.flatten[i*sz+j]?:=by
   rw [←h4]
   unfold World.cell?
   rw [hg]
   simp [hb1,Nat.add_assoc]
  rw [hc,hfl,hj]
theorem M7.rf {w:World} {hdv:Value} {sz e:Nat} {css:List (List Value)} {ls:List (List AV)} {Φ Φ':Nat→Prop} (h:M7 w hdv sz e css) (hl:css.length=ls.length)
  (hr:∀(i:Nat) (us:List Value) (cs:List AV),css[i]?=some us→ls[i]?=some cs→J4 Φ w us cs) (hΦ:∀b,Φ b→Φ' b) (hb:∀b,hdv.ownBlock=some b→Φ' b):Rf Φ' w hdv (.sl sz ls):=by
 obtain ⟨A,cap,hv,h1,h2⟩:=h.head
 have key:∀i cs,ls[i]?=some cs→∃us,css[i]?=some us:=fun i cs hi=>by
  have:=(List.getElem?_eq_some_iff.1 hi).1
  exact ⟨css[i],List.getElem?_eq_getElem (by omega)⟩
 rcases Nat.eq_zero_or_pos ls.length with h0|hp
 ·have:ls=[]:=List.eq_nil_of_length_eq_zero h0
  subst this
  rw [hv,show css.length=([]:List (List AV)).length by simpa using hl]
  exact .sl (fun _=>[]) 0 0 (by simp) h2 (fun h=>absurd h (by simp)) (fun i cs h=>by simp at h) (fun i cs h=>by simp at h) (fun i cs h=>by simp at h) (fun i cs h=>by simp at h)
 ·obtain ⟨u0,hu0⟩:=key 0 ls[0] (List.getElem?_eq_getElem hp)
  obtain ⟨g,x,cap',hv',hg,_⟩:=h.cells hu0
  rw [hv',hl]
  have hcap:css.length≤cap'∧cap'≤maxLen:=by rw [hv'] at hv; injection hv with _ _ e; subst e; exact ⟨h1,h2⟩
  have hget:∀i us,css[i]?=some us→css.getD i []=us:=fun i us h=>by simp [List.getD_eq_getElem?_getD,h]
  refine .sl (fun i=>css.getD i []) g x (by omega) hcap.2 (fun _=>⟨rfl,hb g hg⟩) (fun i cs hi=>?_) (fun i cs hi j u hj=>?_) (fun i cs hi=>?_) (fun i cs hi u hu=>?_)<;>obtain ⟨us,hus⟩:=key i cs hi
  ·rw [hget i us hus]
   exact h.len us (List.mem_of_getElem? hus)
  ·rw [hget i us hus] at hj
   obtain ⟨g',x',cap2,hv2,hg2,hc⟩:=h.cells hus
   rw [hv'] at hv2
   injection hv2 with a1 _ _
   injection a1 with a1
   injection a1 with a1 a2 _
   subst a1 a2
   exact hc j u hj
  ·rw [hget i us hus]
   exact (hr i us cs hus hi).mono (fun _ _=>rfl) hΦ
  ·rw [hget i us hus] at hu
   exact h.one us (List.mem_of_getElem? hus) u hu
def fzΦ (c:Ctx) (g:Os) (b:Nat):Prop:=c.Φ b∨∃id o,lk g id=some o∧foot c id o b
def Ctx.fz (c:Ctx) (g:Os):Ctx:={ c with Φ:=fzΦ c g }
def K5 : Os→Os
 |[]=>[]
 |(k,_)::r=>(k,.gone)::K5 r
theorem b91 (g:Os):K5 g=g.map fun p=>(p.1,.gone):=by
 induction g with
 |nil=>rfl
 |cons p r ih=>simp [K5,ih]
theorem aX4 (g:Os) (id:Nat):(lk (K5 g) id).isSome=(lk g id).isSome:=by rw [b91]; exact bO9 (fun _=>Obj.gone) id g
theorem aZ3 {l:Os} {id:Nat} {o:Obj} (h:lk (K5 l) id=some o):o=.gone:=cS3 (by rwa [b91] at h)
theorem Post.freeze {c:Ctx} {w:World} {g:Os} (h:P9 c w g):Post c w (c.fz g) w g (K5 g) []:=by
 have hs:∀id,(lk (K5 g) id).isSome=(lk g id).isSome:=aX4 g
 refine ⟨rfl,rfl,rfl,Nat.le_refl _,fun b hb=>.inl hb,fun b hb=>?_,fun _ _ _=>rfl,fun _ _=>⟨rfl,rfl⟩,⟨fun id o hl=>?_,fun id o b hl hf=>?_,fun id id' o o' b _ hl _ hf=>?_,fun b hb=>?_⟩,fun id o b hl hf=>?_⟩
 ·rcases hb with hb|⟨id,o,h1,h2⟩
  ·exact .inl hb
  ·exact .inr (.inr ⟨id,o,h1,by rw [hs,h1]; rfl,h2⟩)
 ·cases aZ3 hl
  trivial
 ·cases aZ3 hl
  exact hf.elim
 ·cases aZ3 hl
  exact hf.elim
 ·rcases hb with hb|⟨id,o,h1,h2⟩
  ·exact h.phi b hb
  ·exact (h.lt id o b h1 h2).1
 ·cases aZ3 hl
  exact hf.elim
def Ctx.setμ (c:Ctx) (d b:Nat):Ctx:={ c with μ:=fun i=>if i=d then b else c.μ i }
def Ctx.setHd (c:Ctx) (d:Nat) (v:Value):Ctx:={ c with hd:=fun i=>if i=d then v else c.hd i }
theorem alloc_old (w:World) (o:Go.Obj) {b:Nat} (h:b < w.heap.size):(w.alloc o).heap[b]?=w.heap[b]?:=by
 show (w.heap.push o)[b]?=_
 rw [Array.getElem?_push]
 rw [if_neg (by omega)]
theorem bH7 (w:World) (o:Go.Obj):(w.alloc o).heap[w.heap.size]?=some o:=by
 show (w.heap.push o)[w.heap.size]?=_
 simp
theorem aO8 (w:World) (o:Go.Obj):(w.alloc o).heap.size=w.heap.size+1:=by
 show (w.heap.push o).size=_
 simp
theorem Post.newBox {c:Ctx} {w:World} (hphi:∀b,c.Φ b→b < w.heap.size) (d:Nat) {us:List Value} {cs:List AV} (e:TypeId) (hr:F6 c w us cs) (hd:d ∉ AV.idss cs) :
  Post c w (c.setμ d w.heap.size) (w.alloc (.cells us.toArray e)) [] [(d,.box cs e)] [d]:=by
 have hm:(c.setμ d w.heap.size).μ d=w.heap.size:=by simp [Ctx.setμ]
 have hne:∀id,id≠d→(c.setμ d w.heap.size).μ id=c.μ id:=fun id h=>by simp [Ctx.setμ,h]
 refine ⟨rfl,rfl,rfl,by rw [aO8]; omega,fun b hb=>hb,fun b hb=>.inl hb,fun b hb _=>alloc_old w _ hb,fun id hid=>⟨hne id (by simpa using hid),rfl⟩,⟨fun id o hl=>?_,fun id o b hl hf=>?_,fun id id' o o' b hdis hl hl' hf=>?_,fun b hb=>by rw [aO8]; have:=hphi b hb; omega⟩,fun id o b hl hf=>?_⟩<;>rw [y7] at hl<;>split at hl<;>first|(rename_i e1; subst e1; cases hl)|cases hl
 ·exact ⟨us,by rw [hm]; exact bH7 w _,hr.mono (c':=c.setμ d w.heap.size) (fun b hb=>alloc_old w _ (hphi b hb)) (fun _ h=>h) fun id hi=>⟨hne id fun e1=>hd (by rw [←e1]; exact hi),rfl⟩⟩
 ·have hb:b=w.heap.size:=hf.trans hm
  exact ⟨by rw [aO8]; omega,fun h=>by have:=hphi b h; omega⟩
 ·rw [G9 _ _ hdis] at hl'
  cases hl'
 ·exact .inl (by have hb:b=w.heap.size:=hf.trans hm; omega)
theorem M7.made {w:World} {sz e:Nat} {css:List (List Value)} (hl:∀us∈css,us.length=sz) (h1:∀us∈css,∀u∈us,u.oneCell'=true) (hm:css.length≤maxLen) :
  M7 (w.alloc (.cells css.flatten.toArray e)) (.slice (some ⟨w.heap.size,0,none⟩) css.length css.length) sz e css :=
 have hf:=aA6 sz css hl
 ⟨.inr ⟨w.heap.size,0,0,css.length,css.flatten.toArray,rfl,bH7 w _,Nat.le_refl _,by omega,by simpa using hf,fun _=>by simp,by simpa using List.take_of_length_le (Nat.le_of_eq hf)⟩,hl,h1⟩
theorem Post.newRow {c:Ctx} {w:World} (hphi:∀b,c.Φ b→b < w.heap.size) (d:Nat) {sz:Nat} {css:List (List Value)} {ls:List (List AV)} (e:TypeId) (hl:css.length=ls.length)
  (hr:∀(i:Nat) (us:List Value) (cs:List AV),css[i]?=some us→ls[i]?=some cs→J4 c.Φ w us cs) (hlen:∀us∈css,us.length=sz) (h1:∀us∈css,∀u∈us,u.oneCell'=true) (hm:css.length≤maxLen) :
  Post c w (c.setHd d (.slice (some ⟨w.heap.size,0,none⟩) css.length css.length)) (w.alloc (.cells css.flatten.toArray e)) [] [(d,.row sz ls e)] [d]:=by
 have hm':(c.setHd d (.slice (some ⟨w.heap.size,0,none⟩) css.length css.length)).hd d=.slice (some ⟨w.heap.size,0,none⟩) css.length css.length:=by simp [Ctx.setHd]
 have hne:∀id,id≠d→(c.setHd d (.slice (some ⟨w.heap.size,0,none⟩) css.length css.length)).hd id=c.hd id:=fun id h=>by simp [Ctx.setHd,h]
 have hfoot:∀b,foot (c.setHd d (.slice (some ⟨w.heap.size,0,none⟩) css.length css.length)) d (.row sz ls e) b→b=w.heap.size:=fun b hf=>by
  simp only [foot,hm',Value.ownBlock,Option.some.injEq] at hf
  exact hf.symm
 refine ⟨rfl,rfl,rfl,by rw [aO8]; omega,fun b hb=>hb,fun b hb=>.inl hb,fun b hb _=>alloc_old w _ hb,fun id hid=>⟨rfl,hne id (by simpa using hid)⟩,⟨fun id o hl=>?_,fun id o b hl hf=>?_,fun id id' o o' b hdis hl hl' hf=>?_,fun b hb=>by rw [aO8]; have:=hphi b hb; omega⟩,fun id o b hl hf=>?_⟩<;>rw [y7] at hl<;>split at hl<;>first|(rename_i e1; subst e1; cases hl)|cases hl
 ·refine ⟨css,by rw [hm']; exact M7.made hlen h1 hm,by assumption,fun i us cs hu hc=>(hr i us cs hu hc).mono (fun b hb=>alloc_old w _ (hphi b hb)) fun _ h=>h⟩
 ·have hb:=hfoot b hf
  exact ⟨by rw [aO8]; omega,fun h=>by have:=hphi b h; omega⟩
 ·rw [G9 _ _ hdis] at hl'
  cases hl'
 ·exact .inl (by have:=hfoot b hf; omega)
theorem Post.write {c:Ctx} {w w':World} {id:Nat} {cs cs':List AV} {e:TypeId} {us':List Value} (h:P9 c w [(id,.box cs e)]) (hb:w'.heap[c.μ id]?=some (.cells us'.toArray e)) (hr:F6 c w us' cs') (ho:∀k,k≠c.μ id→w'.heap[k]?=w.heap[k]?)
  (hs:w'.heap.size=w.heap.size) (h1:w'.os=w.os) (h2:w'.tape=w.tape) (h3:w'.output=w.output):Post c w c w' [(id,.box cs e)] [(id,.box cs' e)] []:=by
 have hlt:=h.lt id _ (c.μ id) (p9 _ _ _) rfl
 have ht:∀b,b=c.μ id→Touch c [(id,.box cs e)] [(id,.box cs' e)] b:=fun b hb=>⟨id,_,p9 _ _ _,by rw [p9]; rfl,hb⟩
 refine ⟨h1,h2,h3,by omega,fun b hb=>hb,fun b hb=>.inl hb,fun b hb hn=>ho b fun e=>hn (ht b e),fun _ _=>⟨rfl,rfl⟩,⟨fun i o hl=>?_,fun i o b hl hf=>?_,fun i i' o o' b hdis hl hl' hf=>?_,fun b hb=>by have:=h.phi b hb; omega⟩,fun i o b hl hf=>?_⟩<;>rw [y7] at hl<;>split at hl<;>first|(rename_i e1; subst e1; cases hl)|cases hl
 ·exact ⟨us',hb,hr.mono (fun b hb=>ho b fun e=>hlt.2 (e▸hb)) (fun _ h=>h) fun _ _=>⟨rfl,rfl⟩⟩
 ·exact ⟨by rw [hs]; rw [show b=_ from hf]; exact hlt.1,by rw [show b=_ from hf]; exact hlt.2⟩
 ·rw [G9 _ _ hdis] at hl'
  cases hl'
 ·exact .inr (ht b hf)
def leC : AV→AV→Prop
 |_,.any=>True
 |.nilsl,.sl _ ls=>ls=[]
 |a,b=>a=b
def bD8 : List AV→List AV→Prop
 |[],[]=>True
 |a::as,b::bs=>leC a b∧bD8 as bs
 |_,_=>False
def aF9 : List (List AV)→List (List AV)→Prop
 |[],[]=>True
 |a::as,b::bs=>bD8 a b∧aF9 as bs
 |_,_=>False
theorem c06 {Φ:Nat→Prop} {w:World} {v:Value} {a b:AV} (h:leC a b) (hr:Rf Φ w v a):Rf Φ w v b:=by
 unfold leC at h
 split at h
 ·exact .any _
 ·subst h
  cases hr
  exact Rf.sl (A:=none) (c:=0) (sz:=_) (ls:=[]) (fun _=>[]) 0 0 (by simp) (by simp [maxLen]) (fun h=>absurd h (by simp)) (fun i cs h=>by simp at h) (fun i cs h=>by simp at h) (fun i cs h=>by simp at h) (fun i cs h=>by simp at h)
 ·subst h; exact hr
theorem cE4 {Φ:Nat→Prop} {w:World}:∀{vs:List Value} {as bs:List AV},bD8 as bs→J4 Φ w vs as→J4 Φ w vs bs
 |_,[],[],_,.nil=>.nil
 |_,_::_,_::_,h,.cons x t=>.cons (c06 h.1 x) (cE4 h.2 t)
 |_,[],_::_,h,_=>h.elim
 |_,_::_,[],h,_=>h.elim
theorem b73 : ∀{ls q:List (List AV)},aF9 ls q→ls.length=q.length∧∀(i:Nat) (cs:List AV),q[i]?=some cs→∃ds,ls[i]?=some ds∧bD8 ds cs
 |[],[],_=>⟨rfl,fun i cs h=>by simp at h⟩
 |[],_::_,h=>h.elim
 |_::_,[],h=>h.elim
 |a::ls,b::q,h=>by
  obtain ⟨h1,h2⟩:=b73 h.2
  refine ⟨by simp [h1],fun i cs hi=>?_⟩
  cases i with
  |zero=>simp at hi; subst hi; exact ⟨a,rfl,h.1⟩
  |succ i=>simpa using h2 i cs (by simpa using hi)
theorem O6.le {Φ:Nat→Prop} {w:World} {v:Value} {sz e:Nat} {ls q:List (List AV)} (h:O6 Φ w v sz ls e) (hl:aF9 ls q):O6 Φ w v sz q e:=by
 obtain ⟨css,h1,h2,h3⟩:=h
 obtain ⟨l1,l2⟩:=b73 hl
 refine ⟨css,h1,h2.trans l1,fun i us cs hu hc=>?_⟩
 obtain ⟨ds,hd,hle⟩:=l2 i cs hc
 exact cE4 hle (h3 i us ds hu hd)
theorem Post.leRow {c c':Ctx} {w w':World} {need U:Os} {news:List Nat} {d sz e:Nat} {ls q:List (List AV)} (h:Post c w c' w' need ((d,.row sz ls e)::U) news) (hl:aF9 ls q):Post c w c' w' need ((d,.row sz q e)::U) news:=by
 have hs:∀id,(lk ((d,Obj.row sz q e)::U) id).isSome=(lk ((d,Obj.row sz ls e)::U) id).isSome:=fun id=>by
  rw [y7,y7]; split<;>rfl
 have ht:∀b,Touch c need ((d,.row sz ls e)::U) b→Touch c need ((d,.row sz q e)::U) b:=fun b ⟨id,o,a1,a2,a3⟩=>⟨id,o,a1,by rw [hs]; exact a2,a3⟩
 have ht2:∀b,Touch c need ((d,.row sz q e)::U) b→Touch c need ((d,.row sz ls e)::U) b:=fun b ⟨id,o,a1,a2,a3⟩=>⟨id,o,a1,by rw [←hs]; exact a2,a3⟩
 have way:∀id o,lk ((d,Obj.row sz q e)::U) id=some o→∃o',lk ((d,Obj.row sz ls e)::U) id=some o'∧(∀b,foot c' id o b↔foot c' id o' b)∧(aH8 c' w' id o'→aH8 c' w' id o):=fun id o hid=>by
  rw [y7] at hid
  split at hid
  ·rename_i e1
   subst e1
   cases hid
   exact ⟨.row sz ls e,p9 _ _ _,fun b=>Iff.rfl,fun hr=>O6.le hr hl⟩
  ·rename_i e1
   exact ⟨o,by rw [G9 _ _ e1]; exact hid,fun b=>Iff.rfl,fun hr=>hr⟩
 refine ⟨h.wos,h.tape,h.output,h.size,h.phi,fun b hb=>(h.phiNew b hb).imp (fun h=>h) (.imp (fun h=>h) (ht b)),fun b hb hn=>h.keep b hb fun h2=>hn (ht b h2),h.ctx,⟨fun id o hid=>?_,fun id o b hid hf=>?_,fun id id' o o' b hne h1 h2 hf hf'=>?_,h.hok.phi⟩,fun id o b hid hf=>?_⟩
 ·obtain ⟨o',h1,_,h3⟩:=way id o hid
  exact h3 (h.hok.rep id o' h1)
 ·obtain ⟨o',h1,h2,_⟩:=way id o hid
  exact h.hok.lt id o' b h1 ((h2 b).1 hf)
 ·obtain ⟨p,p1,p2,_⟩:=way id o h1
  obtain ⟨p',q1,q2,_⟩:=way id' o' h2
  exact h.hok.sep id id' p p' b hne p1 q1 ((p2 b).1 hf) ((q2 b).1 hf')
 ·obtain ⟨o',h1,h2,_⟩:=way id o hid
  exact (h.feet id o' b h1 ((h2 b).1 hf)).imp (fun h=>h) (ht b)
theorem bY5 (a:AV):leC a a:=by
 unfold leC
 split<;>first|trivial|rfl|(rename_i h1 h2; simp_all)
theorem bA9 : ∀l:List AV,bD8 l l
 |[]=>trivial
 |a::l=>⟨bY5 a,bA9 l⟩
theorem y9 : ∀l:List (List AV),aF9 l l
 |[]=>trivial
 |a::l=>⟨bA9 a,y9 l⟩
end Go.Proofs.YtibjcppjfkamhaaGreatDoor
