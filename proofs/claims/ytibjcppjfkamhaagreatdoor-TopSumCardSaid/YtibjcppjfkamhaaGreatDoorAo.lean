/- Objects that a call has of its own, apart from one another; what one operation may do to them; whatever else there is stays. No program in sight, no conditions. -/
import Derived.Test.YtibjcppjfkamhaaGreatDoorAv
namespace Go.Proofs.YtibjcppjfkamhaaGreatDoor
open Go.RowKit
set_option linter.unusedVariables false
structure Hd where
 A:Option Addr
 n:Nat
 c:Nat
def Hd.v (h:Hd):Value:=.slice h.A h.n h.c
inductive Obj : Type where
 |gone
 |box (cs:List AV) (e:TypeId)
 |row (sz:Nat) (ls:List (List AV)) (e:TypeId)
  |pins (sz:Nat) (l:List (Hd×List (List AV))) (e:TypeId)
  |nest (sz:Nat) (e:TypeId) (isz:Nat) (ie:TypeId) (l:List (List AV×List (List AV)))
  |rowx (sz:Nat) (ls:List (List AV)) (e:TypeId) (i off x:Nat)
  |deep (sz:Nat) (e:TypeId) (cols:List (Nat×Nat×TypeId)) (l:List (List AV)) (hs:List (Nat×Nat×Nat)) (sh:Nat)
  |mapo (l:List (AV×AV))
  |eqv (j:Nat) (v:Value)
  |glb (bs:List Nat) (G:World→Prop)
 deriving Inhabited
abbrev Ts := List (Nat×AV)
abbrev Os := List (Nat×Obj)
def lk {β:Type}:List (Nat×β)→Nat→Option β
 |[],_=>none
 |(k,v)::r,n=>bif Nat.beq k n then some v else lk r n
theorem y7 {β:Type} (k:Nat) (v:β) (r:List (Nat×β)) (n:Nat):lk ((k,v)::r) n=if k=n then some v else lk r n:=by
 show (bif Nat.beq k n then some v else lk r n)=_
 by_cases h:k=n
 ·subst h; simp
 ·have:Nat.beq k n=false:=by cases e:Nat.beq k n; rfl; exact absurd (Nat.eq_of_beq_eq_true e) h
  simp [this,h]
theorem p9 {β:Type} (k:Nat) (v:β) (r:List (Nat×β)):lk ((k,v)::r) k=some v:=by rw [y7,if_pos rfl]
theorem G9 {β:Type} {k n:Nat} (v:β) (r:List (Nat×β)) (h:k≠n):lk ((k,v)::r) n=lk r n:=by rw [y7,if_neg h]
theorem L9 {β:Type} (n:Nat) (r:List (Nat×β)):∀l:List (Nat×β),lk (l++r) n=(lk l n).or (lk r n)
 |[]=>rfl
 |(k,v)::l=>by
  rw [List.cons_append,y7,y7,L9 n r l]
  split<;>simp
theorem aA5 {β:Type} {n:Nat} {v:β}:∀{l:List (Nat×β)},lk l n=some v→(n,v)∈l
 |(k,u)::l,h=>by
  rw [y7] at h
  split at h
  ·rename_i e; subst e; cases h; simp
  ·exact List.mem_cons_of_mem _ (aA5 h)
def Obj.ids : Obj→List Nat
 |.box cs _=>AV.idss cs
 |.eqv j _=>[j]
 |.rowx _ _ _ _ _ x=>[x]
 |.deep _ _ _ _ hs sh=>sh::hs.map (·.2.2)
 |_=>[]
def aJ1 : Value→List Value
 |.tuple a=>a.toList
 |_=>[]
def foot (c:Ctx) (id:Nat):Obj→Nat→Prop
 |.gone,_=>False
 |.glb _ _,_=>False
 |.box _ _,b=>b=c.μ id
 |.mapo _,b=>b=c.μ id
 |.row _ _ _,b=>(c.hd id).ownBlock=some b
 |.pins _ l _,b=>∃p∈l,p.1.v.ownBlock=some b
 |.nest _ _ _ _ _,b=>∃v∈aJ1 (c.hd id),v.ownBlock=some b
 |.rowx _ _ _ _ _ _,b=>(c.hd id).ownBlock=some b
 |.deep _ _ _ _ _ sh,b=>(c.hd id).ownBlock=some b∨∃v∈aJ1 (c.hd sh),v.ownBlock=some b
 |.eqv _ _,_=>False
structure M7 (w:World) (hdv:Value) (sz e:Nat) (css:List (List Value)):Prop where
 lies:(hdv=.slice none 0 0∧css.length=0)∨∃g x p cap cur,hdv=.slice (some ⟨g,x,none⟩) css.length cap∧w.heap[g]?=some (.cells cur e)∧css.length≤cap∧p+cap≤maxLen∧cur.size=(p+cap)*sz∧(0 < cap→x=p*sz)∧(cur.toList.drop (p*sz)).take (css.length*sz)=css.flatten
 len:∀us∈css,us.length=sz
 one:∀us∈css,∀u∈us,u.oneCell'=true
def O6 (Φ:Nat→Prop) (w:World) (hdv:Value) (sz:Nat) (ls:List (List AV)) (e:TypeId):Prop :=
 ∃css,M7 w hdv sz e css∧css.length=ls.length∧∀(i:Nat) (us:List Value) (cs:List AV),css[i]?=some us→ls[i]?=some cs→J4 Φ w us cs
def Y7 (Φ:Nat→Prop) (w:World) (sz:Nat) (l:List (Hd×List (List AV))) (e:TypeId):Prop :=
 (∀p∈l,O6 Φ w p.1.v sz p.2 e)∧l.Pairwise fun p q=>∀b,p.1.v.ownBlock=some b→q.1.v.ownBlock=some b→False
def D6 (z:List (Hd×List AV×List (List AV))):List (List AV):=z.map fun p=>p.2.1++[.con p.1.v]
def U9 (z:List (Hd×List AV×List (List AV))):List (Hd×List (List AV)):=z.map fun p=>(p.1,p.2.2)
def aF6 (isz:Nat) (l:List (List AV×List (List AV))):List (List AV):=l.map fun p=>p.1++[.sl isz p.2]
def a19 (Φ:Nat→Prop) (w:World) (hd:Value) (sz:Nat) (e:TypeId) (isz:Nat) (ie:TypeId) (l:List (List AV×List (List AV))):Prop :=
 ∃(h:Hd) (z:List (Hd×List AV×List (List AV))),hd=.tuple (h.v::z.map (·.1.v)).toArray∧z.map (·.2)=l∧O6 Φ w h.v sz (D6 z) e∧Y7 Φ w isz (U9 z) ie∧∀b p,h.v.ownBlock=some b→p∈z→p.1.v.ownBlock=some b→False
def aW4 (ls:List (List AV)) (i off:Nat) (a:AV):List (List AV):=match ls[i]? with
 |some cs=>ls.set i (cs.set off a)
 |none=>ls
def aE1 (hs:List (Nat×Nat×Nat)) (i off:Nat):Prop:=∃x,(i,off,x)∈hs
def Inn (css:List (List Value)) (cols:List (Nat×Nat×TypeId)) (hs:List (Nat×Nat×Nat)) (i off:Nat) (v:Value):Prop:=∃us p,css[i]?=some us∧lk cols off=some p∧us[off]?=some v∧¬aE1 hs i off
structure aB4 (Φ:Nat→Prop) (hd:Nat→Value) (w:World) (cols:List (Nat×Nat×TypeId)) (hs:List (Nat×Nat×Nat)) (l:List (List AV)) (css:List (List Value)):Prop where
 len:css.length=l.length
 cell:∀(i:Nat) (us:List Value) (cs:List AV),css[i]?=some us→l[i]?=some cs→us.length=cs.length∧∀(off:Nat) (u:Value) (a:AV),us[off]?=some u→cs[off]?=some a→lk cols off=none→Rf Φ w u a
 inner:∀(i:Nat) (us:List Value) (cs:List AV) (off isz:Nat) (ie:TypeId) (u:Value),css[i]?=some us→l[i]?=some cs→lk cols off=some (isz,ie)→us[off]?=some u→¬aE1 hs i off→∃ls,cs[off]?=some (.sl isz ls)∧O6 Φ w u isz ls ie
 hole:∀(i off x:Nat) (us:List Value) (u:Value),(i,off,x)∈hs→css[i]?=some us→us[off]?=some u→u=hd x∧∃A n cap,u=.slice A n cap∧n≤cap∧cap≤maxLen
 apart:∀(i off:Nat) (v:Value) (i' off':Nat) (v':Value) (b:Nat),Inn css cols hs i off v→Inn css cols hs i' off' v'→v.ownBlock=some b→v'.ownBlock=some b→i=i'∧off=off'
def bJ9 (Φ:Nat→Prop) (hd:Nat→Value) (w:World) (id:Nat) (sz:Nat) (e:TypeId) (cols:List (Nat×Nat×TypeId)) (l:List (List AV)) (hs:List (Nat×Nat×Nat)) (sh:Nat):Prop :=
 ∃css,M7 w (hd id) sz e css∧aB4 Φ hd w cols hs l css∧(∀v,v∈aJ1 (hd sh)↔∃i off,Inn css cols hs i off v)∧∀i off v b,Inn css cols hs i off v→(hd id).ownBlock=some b→v.ownBlock=some b→False
inductive aI3 (Φ:Nat→Prop) (w:World):List MapEntry→List (AV×AV)→Prop
 |nil:aI3 Φ w [] []
 |cons {e:MapEntry} {k v:AV} {es:List MapEntry} {l:List (AV×AV)}:Rf Φ w e.key k→Rf Φ w e.val v→aI3 Φ w es l→aI3 Φ w (e::es) ((k,v)::l)
theorem aI3.mono {Φ Φ':Nat→Prop} {w w':World} (hw:∀b,Φ b→w'.heap[b]?=w.heap[b]?) (hΦ:∀b,Φ b→Φ' b):∀{es:List MapEntry} {l:List (AV×AV)},aI3 Φ w es l→aI3 Φ' w' es l
 |_,_,.nil=>.nil
 |_,_,.cons h1 h2 t=>.cons (h1.mono hw hΦ) (h2.mono hw hΦ) (aI3.mono hw hΦ t)
def cP0 (es:List MapEntry) (clock:Nat):Prop:=(∀x∈es,x.born < clock)∧(es.map (·.born)).Nodup
def c50 (Φ:Nat→Prop) (w:World) (b:Nat) (l:List (AV×AV)):Prop:=∃(es:Array MapEntry) (clock:Nat),w.heap[b]?=some (.map es clock)∧aI3 Φ w es.toList l∧l.length≤maxLen∧cP0 es.toList clock
def aH8 (c:Ctx) (w:World) (id:Nat):Obj→Prop
 |.gone=>True
 |.glb bs G=>(∀b∈bs,c.Φ b)∧∃w0:World,G w0∧∀b∈bs,w.heap[b]?=w0.heap[b]?
 |.box cs e=>∃us,w.heap[c.μ id]?=some (.cells us.toArray e)∧F6 c w us cs
 |.mapo l=>c50 c.Φ w (c.μ id) l
 |.deep sz e cols l hs sh=>bJ9 c.Φ c.hd w id sz e cols l hs sh
 |.row sz ls e=>O6 c.Φ w (c.hd id) sz ls e
 |.pins sz l e=>Y7 c.Φ w sz l e
 |.nest sz e isz ie l=>a19 c.Φ w (c.hd id) sz e isz ie l
 |.rowx sz ls e i off x=>∃v,Rd c w v (.own x)∧O6 c.Φ w (c.hd id) sz (aW4 ls i off (.con v)) e
 |.eqv j v=>c.hd j=v
structure P9 (c:Ctx) (w:World) (os:Os):Prop where
 rep:∀id o,lk os id=some o→aH8 c w id o
 lt:∀id o b,lk os id=some o→foot c id o b→b < w.heap.size∧¬c.Φ b
 sep:∀id id' o o' b,id≠id'→lk os id=some o→lk os id'=some o'→foot c id o b→¬foot c id' o' b
 phi:∀b,c.Φ b→b < w.heap.size
theorem P9.sub {c:Ctx} {w:World} {os need:Os} (h:P9 c w os) (hn:∀id o,lk need id=some o→lk os id=some o):P9 c w need :=
 ⟨fun id o hl=>h.rep id o (hn id o hl),fun id o b hl=>h.lt id o b (hn id o hl),fun id id' o o' b hne h1 h2=>h.sep id id' o o' b hne (hn id o h1) (hn id' o' h2),h.phi⟩
def Touch (c:Ctx) (need upd:Os) (b:Nat):Prop:=∃id o,lk need id=some o∧(lk upd id).isSome=true∧foot c id o b
structure Post (c:Ctx) (w:World) (c':Ctx) (w':World) (need upd:Os) (news:List Nat):Prop where
 wos:w'.os=w.os
 tape:w'.tape=w.tape
 output:w'.output=w.output
 size:w.heap.size≤w'.heap.size
 phi:∀b,c.Φ b→c'.Φ b
 phiNew:∀b,c'.Φ b→c.Φ b∨w.heap.size≤b∨Touch c need upd b
 keep:∀b,b < w.heap.size→¬Touch c need upd b→w'.heap[b]?=w.heap[b]?
 ctx:∀id,id ∉ news→c'.μ id=c.μ id∧c'.hd id=c.hd id
 hok:P9 c' w' upd
 feet:∀id o b,lk upd id=some o→foot c' id o b→w.heap.size≤b∨Touch c need upd b
theorem Post.frozen {c c':Ctx} {w w':World} {need upd:Os} {news:List Nat} (h:Post c w c' w' need upd news) (hn:P9 c w need):∀b,c.Φ b→w'.heap[b]?=w.heap[b]? :=
 fun b hb=>h.keep b (hn.phi b hb) fun ⟨id,o,h1,_,h3⟩=>(hn.lt id o b h1 h3).2 hb
theorem Rd.post {c c':Ctx} {w w':World} {need upd:Os} {news:List Nat} (h:Post c w c' w' need upd news) (hn:P9 c w need) {v:Value} {a:AV} (hr:Rd c w v a) (hf:∀id∈news,id ∉ a.ids):Rd c' w' v a :=
 hr.mono (h.frozen hn) h.phi fun id hi=>h.ctx id fun hm=>hf id hm hi
theorem F6.post {c c':Ctx} {w w':World} {need upd:Os} {news:List Nat} (h:Post c w c' w' need upd news) (hn:P9 c w need) {v:List Value} {a:List AV} (hr:F6 c w v a) (hf:∀id∈news,id ∉ AV.idss a):F6 c' w' v a :=
 hr.mono (h.frozen hn) h.phi fun id hi=>h.ctx id fun hm=>hf id hm hi
theorem bD6 {c c':Ctx} {id:Nat} {o:Obj} {b:Nat} (h:c'.μ id=c.μ id∧c'.hd id=c.hd id) (hi:∀x∈o.ids,c'.μ x=c.μ x∧c'.hd x=c.hd x):foot c' id o b↔foot c id o b:=by
 cases o
 case deep sz e cols l hs sh=>simp only [foot,h.2,(hi sh (by simp [Obj.ids])).2]
 all_goals simp [foot,h.1,h.2]
theorem M7.keep {w w':World} {hdv:Value} {sz e:Nat} {css:List (List Value)} (h:M7 w hdv sz e css) (hk:∀b,hdv.ownBlock=some b→w'.heap[b]?=w.heap[b]?):M7 w' hdv sz e css:=by
 refine ⟨?_,h.len,h.one⟩
 rcases h.lies with h|⟨g,x,p,cap,cur,rfl,hg,h⟩
 ·exact .inl h
 ·exact .inr ⟨g,x,p,cap,cur,rfl,(hk g rfl).trans hg,h⟩
theorem O6.keep {Φ Φ':Nat→Prop} {w w':World} {hdv:Value} {sz e:Nat} {ls:List (List AV)} (h:O6 Φ w hdv sz ls e) (hfr:∀b,Φ b→w'.heap[b]?=w.heap[b]?) (hΦ:∀b,Φ b→Φ' b)
  (hk:∀b,hdv.ownBlock=some b→w'.heap[b]?=w.heap[b]?):O6 Φ' w' hdv sz ls e:=by
 obtain ⟨css,h1,h2,h3⟩:=h
 exact ⟨css,h1.keep hk,h2,fun i us cs hu hl=>(h3 i us cs hu hl).mono hfr hΦ⟩
theorem aB4.keep {Φ Φ':Nat→Prop} {hd hd':Nat→Value} {w w':World} {cols:List (Nat×Nat×TypeId)} {hs:List (Nat×Nat×Nat)} {l:List (List AV)} {css:List (List Value)} (h:aB4 Φ hd w cols hs l css) (hfr:∀b,Φ b→w'.heap[b]?=w.heap[b]?) (hΦ:∀b,Φ b→Φ' b)
  (hx:∀i off x,(i,off,x)∈hs→hd' x=hd x) (hk:∀i off v b,Inn css cols hs i off v→v.ownBlock=some b→w'.heap[b]?=w.heap[b]?):aB4 Φ' hd' w' cols hs l css :=
 ⟨h.len,fun i us cs h1 h2=>⟨(h.cell i us cs h1 h2).1,fun off u a h3 h4 h5=>((h.cell i us cs h1 h2).2 off u a h3 h4 h5).mono hfr hΦ⟩,
  fun i us cs off isz ie u h1 h2 h3 h4 h5=>let ⟨ls,a1,a2⟩:=h.inner i us cs off isz ie u h1 h2 h3 h4 h5; ⟨ls,a1,O6.keep a2 hfr hΦ fun b hb=>hk i off u b ⟨us,_,h1,h3,h4,h5⟩ hb⟩,
  fun i off x us u h1 h2 h3=>by rw [hx i off x h1]; exact h.hole i off x us u h1 h2 h3,h.apart⟩
theorem Y7.keep {Φ Φ':Nat→Prop} {w w':World} {sz e:Nat} {l:List (Hd×List (List AV))} (h:Y7 Φ w sz l e) (hfr:∀b,Φ b→w'.heap[b]?=w.heap[b]?) (hΦ:∀b,Φ b→Φ' b)
  (hk:∀b,(∃p∈l,p.1.v.ownBlock=some b)→w'.heap[b]?=w.heap[b]?):Y7 Φ' w' sz l e :=
 ⟨fun p hp=>(h.1 p hp).keep hfr hΦ fun b hb=>hk b ⟨p,hp,hb⟩,h.2⟩
theorem a19.keep {Φ Φ':Nat→Prop} {w w':World} {hd:Value} {sz e isz ie:Nat} {l:List (List AV×List (List AV))} (h:a19 Φ w hd sz e isz ie l) (hfr:∀b,Φ b→w'.heap[b]?=w.heap[b]?) (hΦ:∀b,Φ b→Φ' b)
  (hk:∀b,(∃v∈aJ1 hd,v.ownBlock=some b)→w'.heap[b]?=w.heap[b]?):a19 Φ' w' hd sz e isz ie l:=by
 obtain ⟨hdv,z,rfl,h2,h3,h4,h5⟩:=h
 exact ⟨hdv,z,rfl,h2,h3.keep hfr hΦ fun b hb=>hk b ⟨hdv.v,by simp [aJ1],hb⟩,h4.keep hfr hΦ fun b ⟨p,hp,hb⟩=>hk b ⟨p.1.v,by
  obtain ⟨q,hq,rfl⟩:=List.mem_map.1 hp
  simpa [aJ1] using .inr ⟨q.1,⟨q.2.1,q.2.2,hq⟩,rfl⟩,hb⟩,h5⟩
theorem aH8.keep {c c':Ctx} {w w':World} {id:Nat} {o:Obj} (h:aH8 c w id o) (hc:c'.μ id=c.μ id∧c'.hd id=c.hd id) (hfr:∀b,c.Φ b→w'.heap[b]?=w.heap[b]?) (hΦ:∀b,c.Φ b→c'.Φ b)
  (hk:∀b,foot c id o b→w'.heap[b]?=w.heap[b]?) (hi:∀x∈o.ids,c'.μ x=c.μ x∧c'.hd x=c.hd x):aH8 c' w' id o:=by
 cases o with
 |gone=>trivial
 |glb bs G=>obtain ⟨h1,w0,h2,h3⟩:=h; exact ⟨fun b hb=>hΦ b (h1 b hb),w0,h2,fun b hb=>(hfr b (h1 b hb)).trans (h3 b hb)⟩
 |box cs e =>
  obtain ⟨us,h1,h2⟩:=h
  exact ⟨us,by rw [hc.1,hk _ rfl,h1],h2.mono hfr hΦ hi⟩
 |deep sz e cols l hs sh =>
  obtain ⟨css,h1,h2,h3,h4⟩:=h
  have es:c'.hd sh=c.hd sh:=(hi sh (by simp [Obj.ids])).2
  refine ⟨css,by rw [hc.2]; exact h1.keep fun b hb=>hk b (.inl hb),h2.keep hfr hΦ (fun i off x hx=>(hi x (by simp [Obj.ids]; exact .inr ⟨i,off,hx⟩)).2) (fun i off v b hv hb=>hk b (.inr ⟨v,(h3 v).2 ⟨i,off,hv⟩,hb⟩)),fun v=>by rw [es]; exact h3 v,fun i off v b hv h5 h6=>h4 i off v b hv (by rw [←hc.2]; exact h5) h6⟩
 |mapo l =>
  obtain ⟨es,clock,h1,h2,h3⟩:=h
  exact ⟨es,clock,by rw [hc.1,hk _ rfl,h1],h2.mono hfr hΦ,h3⟩
 |row sz ls e =>
  show O6 c'.Φ w' (c'.hd id) sz ls e
  rw [hc.2]
  exact O6.keep h hfr hΦ hk
 |pins sz l e=>exact Y7.keep h hfr hΦ hk
 |nest sz e isz ie l =>
  show a19 c'.Φ w' (c'.hd id) sz e isz ie l
  rw [hc.2]
  exact a19.keep h hfr hΦ hk
 |rowx sz ls e i off x =>
  obtain ⟨v,h1,h2⟩:=h
  refine ⟨v,h1.mono hfr hΦ hi,?_⟩
  rw [hc.2]
  exact O6.keep h2 hfr hΦ hk
 |eqv j v=>exact ((hi j (by simp [Obj.ids])).2).trans h
def aW0 (news:List Nat) (l:List Nat):Bool:=l.all fun i=>!(news.elem i)
theorem aL9 {news l:List Nat} (h:aW0 news l=true):∀id∈news,id ∉ l:=by
 intro id hn hl
 have:=List.all_eq_true.1 h id hl
 simp at this
 exact this hn
theorem P9.frame {c c':Ctx} {w w':World} {os need upd:Os} {news:List Nat} (h:P9 c w os) (hn:∀id o,lk need id=some o→lk os id=some o) (hp:Post c w c' w' need upd news)
  (hnew:∀id∈news,(lk upd id).isSome=true) (hfresh:∀id o,lk os id=some o→lk upd id=none→∀x∈news,x ∉ o.ids):P9 c' w' (upd++os):=by
 have hno:=h.sub hn
 have hfr:=hp.frozen hno
 have old:∀id o,lk upd id=none→lk os id=some o→aH8 c' w' id o∧(∀b,foot c' id o b→foot c id o b∧b < w.heap.size∧¬c'.Φ b∧¬Touch c need upd b):=by
  intro id o hu hl
  have hid:id ∉ news:=fun hm=>by have:=hnew id hm; rw [hu] at this; cases this
  have hc:=hp.ctx id hid
  have hnt:∀b,foot c id o b→¬Touch c need upd b:=by
   rintro b hf ⟨id2,o2,h1,h2,h3⟩
   refine h.sep id2 id o2 o b ?_ (hn _ _ h1) hl h3 hf
   rintro rfl
   rw [hu] at h2
   cases h2
  refine ⟨(h.rep id o hl).keep hc hfr hp.phi (fun b hf=>hp.keep b (h.lt id o b hl hf).1 (hnt b hf)) fun x hx=>hp.ctx x fun hm=>hfresh id o hl hu x hm hx,fun b hf=>?_⟩
  have hf0:=(bD6 hc fun x hx=>hp.ctx x fun hm=>hfresh id o hl hu x hm hx).1 hf
  have hlt:=h.lt id o b hl hf0
  refine ⟨hf0,hlt.1,fun hphi=>?_,hnt b hf0⟩
  rcases hp.phiNew b hphi with hx|hx|hx
  ·exact hlt.2 hx
  ·exact absurd hlt.1 (Nat.not_lt.2 hx)
  ·exact hnt b hf0 hx
 have way:∀id o,lk (upd++os) id=some o→lk upd id=some o∨(lk upd id=none∧lk os id=some o):=by
  intro id o hl
  rw [L9] at hl
  cases hu:lk upd id with
  |none=>rw [hu] at hl; exact .inr ⟨rfl,by simpa using hl⟩
  |some x=>rw [hu] at hl; exact .inl (by simpa using hl)
 refine ⟨fun id o hl=>?_,fun id o b hl hf=>?_,fun id id' o o' b hne hl hl' hf hf'=>?_,hp.hok.phi⟩
 ·rcases way id o hl with hu|⟨hu,hl⟩
  ·exact hp.hok.rep id o hu
  ·exact (old id o hu hl).1
 ·rcases way id o hl with hu|⟨hu,hl⟩
  ·exact hp.hok.lt id o b hu hf
  ·have:=(old id o hu hl).2 b hf
   exact ⟨Nat.lt_of_lt_of_le this.2.1 hp.size,this.2.2.1⟩
 ·rcases way id o hl with hu|⟨hu,hl⟩<;>rcases way id' o' hl' with hu'|⟨hu',hl'⟩
  ·exact hp.hok.sep id id' o o' b hne hu hu' hf hf'
  ·have h1:=(old id' o' hu' hl').2 b hf'
   rcases hp.feet id o b hu hf with hx|hx
   ·exact absurd h1.2.1 (Nat.not_lt.2 hx)
   ·exact h1.2.2.2 hx
  ·have h1:=(old id o hu hl).2 b hf
   rcases hp.feet id' o' b hu' hf' with hx|hx
   ·exact absurd h1.2.1 (Nat.not_lt.2 hx)
   ·exact h1.2.2.2 hx
  ·exact h.sep id id' o o' b hne hl hl' ((old id o hu hl).2 b hf).1 ((old id' o' hu' hl').2 b hf').1
structure Fun where
 c:Ctx
 w:World
 need:Os
 n:Nat
def Fun.own (Γ:Fun) (b:Nat):Prop:=Γ.w.heap.size≤b∨∃id o,lk Γ.need id=some o∧foot Γ.c id o b
structure Inv (Γ:Fun) (c:Ctx) (w:World) (os:Os):Prop where
 wos:w.os=Γ.w.os
 tape:w.tape=Γ.w.tape
 output:w.output=Γ.w.output
 size:Γ.w.heap.size≤w.heap.size
 phi:∀b,Γ.c.Φ b→c.Φ b
 phiNew:∀b,c.Φ b→Γ.c.Φ b∨Γ.own b
 keep:∀b,¬Γ.own b→w.heap[b]?=Γ.w.heap[b]?
 feet:∀id o b,lk os id=some o→foot c id o b→Γ.own b
theorem Inv.post {Γ:Fun} {c c':Ctx} {w w':World} {os need upd:Os} {news:List Nat} (h:Inv Γ c w os) (hok:P9 c w os) (hn:∀id o,lk need id=some o→lk os id=some o) (hp:Post c w c' w' need upd news)
  (hnew:∀id∈news,(lk upd id).isSome=true) (hfresh:∀id o,lk os id=some o→lk upd id=none→∀x∈news,x ∉ o.ids):Inv Γ c' w' (upd++os):=by
 have hto:∀b,Touch c need upd b→Γ.own b:=fun b ⟨id,o,h1,_,h3⟩=>h.feet id o b (hn _ _ h1) h3
 have hsz:∀b,w.heap.size≤b→Γ.own b:=fun b hb=>.inl (Nat.le_trans h.size hb)
 refine ⟨hp.wos.trans h.wos,hp.tape.trans h.tape,hp.output.trans h.output,Nat.le_trans h.size hp.size,fun b hb=>hp.phi b (h.phi b hb),fun b hb=>?_,fun b hb=>?_,fun id o b hl hf=>?_⟩
 ·rcases hp.phiNew b hb with hx|hx|hx
  ·exact h.phiNew b hx
  ·exact .inr (hsz b hx)
  ·exact .inr (hto b hx)
 ·rcases Nat.lt_or_ge b w.heap.size with hlt|hge
  ·exact (hp.keep b hlt fun ht=>hb (hto b ht)).trans (h.keep b hb)
  ·exact absurd (hsz b hge) hb
 ·rw [L9] at hl
  cases hu:lk upd id with
  |none =>
   rw [hu] at hl
   have hid:id ∉ news:=fun hm=>by have:=hnew id hm; rw [hu] at this; cases this
   have hl':lk os id=some o:=by simpa using hl
   exact h.feet id o b hl' ((bD6 (hp.ctx id hid) fun x hx=>hp.ctx x fun hm=>hfresh id o hl' hu x hm hx).1 hf)
  |some x =>
   rw [hu] at hl
   simp at hl
   subst hl
   rcases hp.feet id x b hu hf with hx|hx
   ·exact hsz b hx
   ·exact hto b hx
def aZ5 (c:Ctx) (w:World) (ts:Ts) (a:Act):Prop:=∀t av,lk ts t=some av→∃v,a.tmps[t]?=some v∧Rd c w v av
structure dC4 (Γ:Fun) (ts:Ts) (os:Os) (c:Ctx) (a:Act) (w:World):Prop where
 defers:a.defers=[]
 n:a.tmps.size=Γ.n
 ts:aZ5 c w ts a
 hok:P9 c w os
 inv:Inv Γ c w os
end Go.Proofs.YtibjcppjfkamhaaGreatDoor
