import Derived.Test.YtibjcppjfkamhaaGreatDoorAs4
import Derived.Lib.AppendStr
import Derived.Lib.ConvBytes
import Derived.Laws.BytesArg
/- Operations over readings, the fifth part: values built of parts, rows made, appended to, cut. No program in sight; types are told by the table. -/
namespace Go.Proofs.YtibjcppjfkamhaaGreatDoor
open Go.RowKit
set_option linter.unusedVariables false
section
variable {P:Program} {tab:Q6} {o:Oper} {ev:Ev} {os:Os} {K:Kt}
theorem foldl_set (off:Nat):∀(vs:List Value) (k:Nat) (cells rs:List Value),U6 (off+k) vs cells=some rs →
  (vs.zipIdx k).foldl (fun (cs:Array Value) (c,j)=>cs.setIfInBounds (off+j) c) cells.toArray=rs.toArray
 |[],k,cells,rs,h=>by
  have e1:cells=rs:=by
   apply List.ext_getElem?
   intro j
   rw [U7 h j,if_neg (by simp only [List.length_nil]; omega)]
  simp [e1]
 |v::vs,k,cells,rs,h=>by
  obtain ⟨hlen,hle⟩:=aB6 h
  simp only [List.length_cons] at hle
  obtain ⟨r,hr⟩:=aN3 (off+(k+1)) vs (cells.set (off+k) v) (by rw [List.length_set]; omega)
  have:r=rs:=by
   apply List.ext_getElem?
   intro j
   rw [U7 hr j,U7 h j,List.getElem?_set]
   by_cases h0:j=off+k
   ·subst h0
    rw [if_neg (by omega),if_pos rfl,if_pos (by omega),if_pos (by simp)]
    simp
   ·by_cases hin:off+k≤j∧j < off+k+(vs.length+1)
    ·rw [if_pos (by omega),if_pos (by simpa using hin)]
     obtain ⟨i,rfl⟩:∃i,j=off+k+1+i:=⟨j - (off+k+1),by omega⟩
     rw [show off+k+1+i - (off+(k+1))=i by omega,show off+k+1+i - (off+k)=i+1 by omega]
     simp
    ·rw [if_neg (by omega),if_neg (fun e=>h0 e.symm),if_neg (by simpa using hin)]
  subst this
  have ih:=foldl_set off vs (k+1) (cells.set (off+k) v) r hr
  simpa using ih
def bT9 (place:Nat→Option (Nat×Nat)):List AV→List (Nat×AV)→Option (List AV)
 |cells,[]=>some cells
 |cells,(i,a)::rest=>match place i,a.cells? with
  |some (off,size),some vs=>match Nat.beq vs.length size with
   |true=>match U6 off vs cells with
    |some r=>bT9 place r rest
    |none=>none
   |false=>none
  |_,_=>none
theorem b92 {c:Ctx} {w:World} {place:Nat→Option (Nat×Nat)}:∀{parts:List (Nat×AV)} {cells rs:List AV},bT9 place cells parts=some rs→∀{vparts:List (Nat×Value)} {us:List Value},
  vparts.length=parts.length→(∀(k:Nat) (p:Nat×Value) (q:Nat×AV),vparts[k]?=some p→parts[k]?=some q→p.1=q.1∧Rd c w p.2 q.2)→F6 c w us cells→(∀u∈us,u.oneCell'=true) →
  ∃r,Instr.fill place us.toArray vparts=some r.toArray∧F6 c w r rs∧∀u∈r,u.oneCell'=true
 |[],cells,rs,h,vparts,us,hl,_,hr,h1=>by
  have:vparts=[]:=List.eq_nil_of_length_eq_zero hl
  subst this
  cases h
  exact ⟨us,rfl,hr,h1⟩
 |(i,a)::rest,cells,rs,h,[],us,hl,_,_,_=>by simp at hl
 |(i,a)::rest,cells,rs,h,(i',v)::vrest,us,hl,hp,hr,h1=>by
  obtain ⟨e,hv⟩:=hp 0 _ _ rfl rfl
  simp only at e hv
  subst e
  unfold bT9 at h
  split at h
  ·rename_i off size vs hpl hvs
   split at h
   ·rename_i hsz
    have hsz:=Nat.eq_of_beq_eq_true hsz
    split at h
    ·rename_i r hset
     obtain ⟨rv,h1v⟩:=aK4 hv hvs
     obtain ⟨r',e1,hr'⟩:=bW8 hset rv hr
     have hle:=aB6 e1
     obtain ⟨q,q1,q2,q3⟩:=b92 h (vparts:=vrest) (us:=r') (by simpa using hl) (fun k p q a b=>hp (k+1) p q (by simpa using a) (by simpa using b)) hr' (fun u hu=>by
      rcases bO6 e1 u hu with h|h
      ·exact h1v u h
      ·exact h1 u h)
     refine ⟨q,?_,q2,q3⟩
     have hvl:v.cells.size=size:=by rw [←hsz,←rv.length]; simp
     have hle2:off+v.cells.size≤us.length:=by have:=hle.2; simpa using this
     have hfold:=foldl_set off v.cells.toList 0 us r' (by simpa using e1)
     have hfold2:v.cells.zipIdx.foldl (fun (cs:Array Value) (c,j)=>cs.setIfInBounds (off+j) c) us.toArray=r'.toArray:=by
      rw [←hfold,←Array.foldl_toList]
      simp
     unfold Instr.fill
     simp only [hpl]
     rw [if_neg (by simp [hvl]; omega),hfold2]
     exact q1
    ·cases h
   ·cases h
  ·cases h
def bS4 (l:List (Nat×Nat×Bool)) (i:Nat):Option (Nat×Nat) :=
 match b37 i l with
 |some (off,sz,_)=>some (off,sz)
 |none=>none
def cO2 (size:Nat) (i:Nat):Option (Nat×Nat):=some (i*size,size)
def a88 (ev:Ev):List (Nat×Operand)→List (Nat×AV)
 |[]=>[]
 |(i,x)::l=>(i,ev x)::a88 ev l
def b71 (tab:Q6) (ev:Ev) (t:TypeId) (parts:Array (Nat×Operand)) (K:Kt):Prop :=
 match lk tab t with
 |some ti=>match ti.kind,lk tab ti.elem with
  |1,_=>match bT9 (bS4 ti.fields) ti.zero (a88 ev parts.toList) with
   |some cs=>K (.agg cs) [] [] []
   |none=>False
  |3,some te=>match bT9 (cO2 te.size) ti.zero (a88 ev parts.toList) with
   |some cs=>K (.agg cs) [] [] []
   |none=>False
  |_,_=>False
 |none=>False
theorem bY7 (l:List (Nat×Operand)):a88 ev l=l.map fun p=>(p.1,ev p.2):=by
 induction l with
 |nil=>rfl
 |cons p l ih=>simp [a88,ih]
theorem bZ8 {w:World} (fs:Array Field) (l:List (Nat×Nat×Bool)) (hfs:aI2 P fs.toList l=true):(fs.mapM (fun f=>do pure (f.offset,←sizeOf f.type)):Sem (Array (Nat×Nat))).run P w=.ok (l.map fun x=>(x.1,x.2.1)).toArray w:=by
 have hpl:∀(fs:List Field) (l:List (Nat×Nat×Bool)) (acc:Array (Nat×Nat)),aI2 P fs l=true→(fs.foldlM (fun (bs:Array (Nat×Nat)) (a:Field)=>bs.push <$> (do pure (a.offset,←sizeOf a.type))) acc:Sem (Array (Nat×Nat))).run P w=.ok (acc++(l.map fun x=>(x.1,x.2.1)).toArray) w:=by
  intro fs
  induction fs with
  |nil =>
   intro l acc hf
   cases l with
   |nil=>simp
   |cons a l=>simp [aI2] at hf
  |cons f fs ih =>
   intro l acc hf
   cases l with
   |nil=>simp [aI2] at hf
   |cons a l =>
    obtain ⟨a1,a2,a3⟩:=a
    simp only [aI2,Bool.and_eq_true,decide_eq_true_eq] at hf
    obtain ⟨⟨⟨f1,f2⟩,f3⟩,f4⟩:=hf
    simp only [Option.map_eq_some_iff] at f2
    obtain ⟨i,hi,his⟩:=f2
    have hsz:(sizeOf f.type).run P w=.ok a2 w:=by simp [sizeOf,typeInfo,hi,his]
    simp only [List.foldlM_cons,Sem.run_bind,Sem.run_map,hsz,Result.andThen_ok,Sem.run_pure,f1,ih l _ f4]
    simp
 rw [Array.mapM_eq_foldlM,←Array.foldlM_toList]
 have:=hpl fs.toList l #[] hfs
 rw [this]
 simp
theorem cK3 (l:List (Nat×Nat×Bool)) (i:Nat):((l.map fun x=>(x.1,x.2.1)).toArray)[i]?=bS4 l i:=by
 have:∀(l:List (Nat×Nat×Bool)) (i:Nat),(l.map fun x=>(x.1,x.2.1))[i]?=bS4 l i:=by
  intro l
  induction l with
  |nil=>intro i; cases i<;>rfl
  |cons a l ih =>
   intro i
   cases i with
   |zero=>rfl
   |succ i=>simpa [bS4,b37] using ih i
 simpa using this l i
theorem cQ7 (hT:O3 P tab) {t:TypeId} {parts:Array (Nat×Operand)} (ho:o.op=.build t parts) (h:b71 tab ev t parts K):U8 P o ev os K:=by
 unfold b71 at h
 split at h
 ·rename_i ti hti
  have hTi:=hT t ti hti
  have close:∀(place:Nat→Option (Nat×Nat)) (cs:List AV),bT9 place ti.zero (a88 ev parts.toList)=some cs→K (.agg cs) [] [] [] →
    (∀(w:World) (ρ:Operand→Value) (z:Value) (r:List Value),(zeroValue t).run P w=.ok z w→Instr.fill place z.cells (parts.toList.map fun p=>(p.1,ρ p.2))=some r.toArray→(Instr.build t (parts.map fun (i,x)=>(i,ρ x))).run P w=.ok (.agg r.toArray) w)→U8 P o ev os K:=by
   intro place cs hcs hK hrun
   refine .pure (fun c w ρ hr=>?_) hK
   obtain ⟨z,hz,hzo,hza⟩:=hTi.run_zero w
   have hzr:=aH3 c.Φ w _ _ hzo
   rw [bY7] at hcs
   obtain ⟨r,h1,h2,h3⟩:=b92 (c:=c) (w:=w) hcs (vparts:=parts.toList.map fun p=>(p.1,ρ p.2)) (us:=z.cells.toList) (by simp) (fun k p q hp hq=>by
    simp only [List.getElem?_map,Option.map_eq_some_iff] at hp hq
    obtain ⟨a,ha,rfl⟩:=hp
    obtain ⟨b,hb,rfl⟩:=hq
    rw [ha] at hb
    cases hb
    refine ⟨rfl,hr a.2 ?_⟩
    rw [ho]
    simp only [Op.operands,List.mem_map]
    exact ⟨a,List.mem_of_getElem? ha,rfl⟩) (.of_rfs hzr.1) hzr.2
   have hzc:z.cells.toList.toArray=z.cells:=by simp
   rw [hzc] at h1
   exact ⟨.agg r.toArray,by simp [execOp,ho,hrun w ρ z r hz h1],.agg h2⟩
  split at h
  ·rename_i hk
   split at h
   ·rename_i cs hcs
    obtain ⟨fs,hu,hfs⟩:=hTi.struct_ hk
    refine close _ cs hcs h fun w ρ z r hz hfill=>?_
    rw [show bS4 ti.fields=(fun i=>((ti.fields.map fun x=>(x.1,x.2.1)).toArray)[i]?) from funext fun i=>(cK3 ti.fields i).symm] at hfill
    have hvp:(parts.map fun (p:Nat×Operand)=>(p.1,ρ p.2)).toList=parts.toList.map fun p=>(p.1,ρ p.2):=by simp
    simp only [Instr.build,Sem.run_bind,hz,Result.andThen_ok,run_underlying hu,bZ8 fs ti.fields hfs]
    rw [hvp,hfill]
    simp
   ·exact h.elim
  ·rename_i te hk hte
   split at h
   ·rename_i cs hcs
    have hu:=hTi.array_ hk
    refine close _ cs hcs h fun w ρ z r hz hfill=>?_
    have hvp:(parts.map fun (p:Nat×Operand)=>(p.1,ρ p.2)).toList=parts.toList.map fun p=>(p.1,ρ p.2):=by simp
    simp only [Instr.build,Sem.run_bind,hz,Result.andThen_ok,run_underlying hu,(hT _ te hte).run_size]
    rw [hvp]
    rw [show cO2 te.size=(fun i=>some (i*te.size,te.size)) from rfl] at hfill
    rw [hfill]
    simp
   ·exact h.elim
  ·exact h.elim
 ·exact h.elim
end
end Go.Proofs.YtibjcppjfkamhaaGreatDoor
namespace Go.Proofs.YtibjcppjfkamhaaGreatDoor
open Go.RowKit
set_option linter.unusedVariables false
def fzs (os:Os):List AV→Option (List AV×Os)
 |[]=>some ([],[])
 |.own id::l=>match lk os id with
  |some (.row sz ls e)=>match fzs os l with
   |some (r,g)=>some (.sl sz ls::r,(id,.row sz ls e)::g)
   |none=>none
  |_=>none
 |a::l=>match a.ids with
  |[]=>match fzs os l with
   |some (r,g)=>some (a::r,g)
   |none=>none
  |_=>none
structure dB7 (os:Os) (as r:List AV) (g:Os):Prop where
 sub:∀id o,lk g id=some o→lk os id=some o
 ids:∀id o,lk g id=some o→o.ids=[]
 len:r.length=as.length
 one:as.all b61=true→r.all b61=true
 run:∀(c:Ctx) (w:World) (us:List Value),P9 c w g→F6 c w us as→J4 (c.fz g).Φ w us r
theorem P9.tail {c:Ctx} {w:World} {os g:Os} {id:Nat} {o:Obj} (h:P9 c w ((id,o)::g)) (h1:lk os id=some o) (hs:∀i x,lk g i=some x→lk os i=some x):P9 c w g :=
 h.sub fun i x hl=>by
  rw [y7]
  split
  ·rename_i e
   subst e
   rw [←h1,hs _ _ hl]
  ·exact hl
theorem cT6 {c:Ctx} {os g:Os} {id:Nat} {o:Obj} (h1:lk os id=some o) (hs:∀i x,lk g i=some x→lk os i=some x):∀b,fzΦ c g b→fzΦ c ((id,o)::g) b:=by
 rintro b (hb|⟨i,x,h,hf⟩)
 ·exact .inl hb
 ·refine .inr ⟨i,x,?_,hf⟩
  rw [y7]
  split
  ·rename_i e
   subst e
   rw [←h1,hs _ _ h]
  ·exact h
theorem c33 {os:Os}:∀{as r:List AV} {g:Os},fzs os as=some (r,g)→dB7 os as r g:=by
 intro as
 fun_induction fzs os as with
 |case1=>intro r g h; cases h; exact ⟨fun _ _ h=>(by cases h),fun _ _ h=>(by cases h),rfl,fun h=>h,fun c w us _ h=>by cases h; exact .nil⟩
 |case2 id l sz ls e hid r' g' hr ih =>
  intro r g h
  cases h
  have H:=ih hr
  refine ⟨fun i o h=>?_,fun i o h=>?_,by simp [H.len],fun h=>?_,fun c w us hok h=>?_⟩
  ·rw [y7] at h
   split at h
   ·rename_i e1; subst e1; cases h; exact hid
   ·exact H.sub i o h
  ·rw [y7] at h
   split at h
   ·cases h; rfl
   ·exact H.ids i o h
  ·simp only [List.all_cons,Bool.and_eq_true] at h ⊢
   exact ⟨rfl,H.one h.2⟩
  ·cases h with|cons h t =>
    have hok':=hok.tail hid H.sub
    have hrow:=hok.rep id _ (p9 _ _ _)
    obtain ⟨css,q1,q2,q3⟩:=hrow
    obtain ⟨A,n,cap,e1,e2,_⟩:=h.own_
    refine .cons ?_ ((H.run c w _ hok' t).mono (fun _ _=>rfl) (cT6 hid H.sub))
    rw [e1,←e2]
    exact q1.rf q2 q3 (fun b hb=>.inl hb) fun b hb=>.inr ⟨id,_,p9 _ _ _,hb⟩
 |case3 id l sz ls e hid hr ih=>intro r g h; cases h
 |case4 id l hid=>intro r g h; cases h
 |case5 a l hne hids r' g' hr ih =>
  intro r g h
  cases h
  have H:=ih hr
  refine ⟨H.sub,H.ids,by simp [H.len],fun h=>?_,fun c w us hok h=>?_⟩
  ·simp only [List.all_cons,Bool.and_eq_true] at h ⊢
   exact ⟨h.1,H.one h.2⟩
  ·cases h with|cons h t=>exact .cons ((h.rf hids).mono (fun _ _=>rfl) fun _ h=>.inl h) (H.run c w _ hok t)
 |case6 a l hne hids hr ih=>intro r g h; cases h
 |case7 a l hne hids=>intro r g h; cases h
theorem Post.widen {c c':Ctx} {w w':World} {g need upd:Os} {news:List Nat} (h:Post c w c' w' g upd news) (hs:∀id o,lk g id=some o→lk need id=some o):Post c w c' w' need upd news:=by
 have ht:∀b,Touch c g upd b→Touch c need upd b:=fun b ⟨id,o,h1,h2,h3⟩=>⟨id,o,hs id o h1,h2,h3⟩
 exact ⟨h.wos,h.tape,h.output,h.size,h.phi,fun b hb=>(h.phiNew b hb).imp (fun h=>h) (.imp (fun h=>h) (ht b)),fun b hb hn=>h.keep b hb fun h=>hn (ht b h),h.ctx,h.hok,fun id o b hl hf=>(h.feet id o b hl hf).imp (fun h=>h) (ht b)⟩
theorem Post.fzRow {c:Ctx} {w:World} {g:Os} (hok:P9 c w g) (hids:∀id o,lk g id=some o→o.ids=[]) (d:Nat) {sz:Nat} {css:List (List Value)} {ls:List (List AV)} (e:TypeId) (hl:css.length=ls.length)
  (hr:∀(i:Nat) (us:List Value) (cs:List AV),css[i]?=some us→ls[i]?=some cs→J4 (c.fz g).Φ w us cs) (hlen:∀us∈css,us.length=sz) (h1:∀us∈css,∀u∈us,u.oneCell'=true) (hm:css.length≤maxLen) :
  Post c w ((c.fz g).setHd d (.slice (some ⟨w.heap.size,0,none⟩) css.length css.length)) (w.alloc (.cells css.flatten.toArray e)) g ((d,.row sz ls e)::K5 g) [d]:=by
 have p1:=Post.freeze hok
 have p2:=Post.newRow (c:=c.fz g) (w:=w) (fun b hb=>p1.hok.phi b hb) d e hl hr hlen h1 hm
 have:=Post.trans hok p1 p2 (fun _ h=>(by cases h)) (fun id hid=>(by simp at hid; subst hid; rw [p9]; rfl)) (fun _ _ h=>(by cases h)) (fun _ _ _ _ _ h=>(by cases h)) (fun id o h _ x _=>by
  rw [L9] at h
  cases hg:lk (K5 g) id with
  |some y =>
   rw [hg] at h
   simp at h
   subst h
   rw [aZ3 hg]
   simp [Obj.ids]
  |none =>
   rw [hg] at h
   simp at h
   rw [hids id o h]
   simp)
 simpa using this
section
variable {P:Program} {tab:Q6} {o:Oper} {ev:Ev} {os:Os} {K:Kt}
def bZ6 (os:Os) (sz:Nat):List (List AV)→List (Nat×AV)→Option (List (List AV)×Os)
 |ls,[]=>some (ls,[])
 |ls,(i,a)::rest=>match a.cells? with
  |some vs=>match Nat.beq vs.length sz with
   |true=>match fzs os vs with
    |some (r,g)=>match U6 i [r] ls with
     |some ls'=>match bZ6 os sz ls' rest with
      |some (q,g')=>some (q,g++g')
      |none=>none
     |none=>none
    |none=>none
   |false=>none
  |none=>none
theorem aW1 {os g g':Os} (h1:∀id o,lk g id=some o→lk os id=some o) (h2:∀id o,lk g' id=some o→lk os id=some o):(∀id o,lk (g++g') id=some o→lk os id=some o)∧(∀id o,lk g' id=some o→lk (g++g') id=some o)∧(∀id o,lk g id=some o→lk (g++g') id=some o):=by
 refine ⟨fun id o h=>?_,fun id o h=>?_,fun id o h=>?_⟩
 ·rw [L9] at h
  cases hg:lk g id with
  |some x=>rw [hg] at h; simp at h; subst h; exact h1 id x hg
  |none=>rw [hg] at h; simp at h; exact h2 id o h
 ·rw [L9]
  cases hg:lk g id with
  |some x =>
   have a:=h1 id x hg
   have b:=h2 id o h
   rw [a] at b
   simpa using b
  |none=>simpa using h
 ·rw [L9,h]
  rfl
theorem bN6 {c:Ctx} {g g':Os} (h:∀id o,lk g id=some o→lk g' id=some o):∀b,fzΦ c g b→fzΦ c g' b:=by
 rintro b (hb|⟨i,x,h1,hf⟩)
 ·exact .inl hb
 ·exact .inr ⟨i,x,h i x h1,hf⟩
structure cZ2 (os:Os) (sz:Nat) (ls:List (List AV)) (parts:List (Nat×AV)) (ls':List (List AV)) (g:Os):Prop where
 sub:∀id o,lk g id=some o→lk os id=some o
 ids:∀id o,lk g id=some o→o.ids=[]
 len:ls'.length=ls.length
 run:∀(c:Ctx) (w:World) (Φ:Nat→Prop) (vparts:List (Nat×Value)) (css:List (List Value)),P9 c w g→(∀b,fzΦ c g b→Φ b)→vparts.length=parts.length →
  (∀(k:Nat) (p:Nat×Value) (q:Nat×AV),vparts[k]?=some p→parts[k]?=some q→p.1=q.1∧Rd c w p.2 q.2)→css.length=ls.length→(∀us∈css,us.length=sz)→(∀us∈css,∀u∈us,u.oneCell'=true) →
  (∀(i:Nat) (us:List Value) (cs:List AV),css[i]?=some us→ls[i]?=some cs→J4 Φ w us cs) →
  ∃css':List (List Value),Instr.fill (fun i=>some (i*sz,sz)) css.flatten.toArray vparts=some css'.flatten.toArray∧css'.length=ls'.length∧(∀us∈css',us.length=sz)∧(∀us∈css',∀u∈us,u.oneCell'=true) ∧
   (∀(i:Nat) (us:List Value) (cs:List AV),css'[i]?=some us→ls'[i]?=some cs→J4 Φ w us cs)
theorem cD9 {os:Os} {sz:Nat}:∀{parts:List (Nat×AV)} {ls ls':List (List AV)} {g:Os},bZ6 os sz ls parts=some (ls',g)→cZ2 os sz ls parts ls' g
 |[],ls,ls',g,h=>by
  cases h
  refine ⟨fun _ _ h=>(by cases h),fun _ _ h=>(by cases h),rfl,fun c w Φ vparts css _ _ hvl _ hl h1 h2 h3=>?_⟩
  have:vparts=[]:=List.eq_nil_of_length_eq_zero hvl
  subst this
  exact ⟨css,rfl,hl,h1,h2,h3⟩
 |(i,a)::rest,ls,ls',g,h=>by
  unfold bZ6 at h
  split at h
  ·rename_i vs hvs
   split at h
   ·rename_i hsz
    have hsz:=Nat.eq_of_beq_eq_true hsz
    split at h
    ·rename_i r g1 hr
     split at h
     ·rename_i ls1 hls1
      split at h
      ·rename_i q g2 hq
       cases h
       have F:=c33 hr
       have R:=cD9 hq
       obtain ⟨s1,s2,s3⟩:=aW1 F.sub R.sub
       refine ⟨s1,fun id o h=>?_,by rw [R.len,(aB6 hls1).1],fun c w Φ vparts css hok hΦ hvl hp hl h1 h2 h3=>?_⟩
       ·rw [L9] at h
        cases hg:lk g1 id with
        |some x=>rw [hg] at h; simp at h; subst h; exact F.ids id x hg
        |none=>rw [hg] at h; simp at h; exact R.ids id o h
       ·cases vparts with
        |nil=>simp at hvl
        |cons pv vrest =>
         obtain ⟨i',v⟩:=pv
         obtain ⟨e,hv⟩:=hp 0 _ _ rfl rfl
         simp only at e hv
         subst e
         obtain ⟨rv,h1v⟩:=aK4 hv hvs
         have hfv:=F.run c w _ (hok.sub s3) rv
         have hfv':J4 Φ w v.cells.toList r:=hfv.mono (fun _ _=>rfl) fun b hb=>hΦ b (bN6 s3 b hb)
         have hile:=(aB6 hls1).2
         simp only [List.length_cons,List.length_nil] at hile
         have hil:i' < css.length:=by omega
         have hvlen:v.cells.toList.length=sz:=by rw [rv.length]; exact hsz
         have hset0:U6 0 v.cells.toList css[i']=some v.cells.toList:=by
          obtain ⟨x,hx⟩:=aN3 0 v.cells.toList css[i'] (by rw [hvlen,h1 _ (List.getElem_mem hil)]; omega)
          rw [hx]
          congr 1
          apply List.ext_getElem?
          intro j
          rw [U7 hx j]
          by_cases hj:j < v.cells.toList.length
          ·rw [if_pos (by omega)]; simp
          ·rw [if_neg (by omega),List.getElem?_eq_none (by rw [h1 _ (List.getElem_mem hil)]; omega),List.getElem?_eq_none (by omega)]
         have hblk:=bO7 css i' 0 css[i'] v.cells.toList v.cells.toList h1 (List.getElem?_eq_getElem hil) hset0
         rw [Nat.add_zero] at hblk
         have hl1:ls1=ls.set i' r:=by
          apply List.ext_getElem?
          intro j
          rw [U7 hls1 j,List.getElem?_set]
          by_cases hj:i'=j
          ·subst hj
           rw [if_pos (by simp),if_pos rfl,if_pos (by omega)]
           simp
          ·rw [if_neg (by simp; omega),if_neg hj]
         obtain ⟨css',q1,q2,q3,q4,q5⟩:=R.run c w Φ vrest (css.set i' v.cells.toList) (hok.sub s2) (fun b hb=>hΦ b (bN6 s2 b hb)) (by simpa using hvl) (fun k p q a b=>hp (k+1) p q (by simpa using a) (by simpa using b)) (by rw [List.length_set,hl,hl1,List.length_set])
          (fun us hu=>by
           rcases List.mem_or_eq_of_mem_set hu with h|h
           ·exact h1 us h
           ·rw [h]; exact hvlen) (fun us hu=>by
           rcases List.mem_or_eq_of_mem_set hu with h|h
           ·exact h2 us h
           ·rw [h]; exact h1v) (fun k us cs hu hc=>by
           rw [hl1] at hc
           rw [List.getElem?_set] at hu hc
           by_cases hk:i'=k
           ·subst hk
            rw [if_pos rfl,if_pos hil] at hu
            rw [if_pos rfl,if_pos (by omega)] at hc
            cases hu
            cases hc
            exact hfv'
           ·rw [if_neg hk] at hu hc
            exact h3 k us cs hu hc)
         refine ⟨css',?_,q2,q3,q4,q5⟩
         have hvl:v.cells.size=sz:=by simpa using hvlen
         have hfold:=foldl_set (i'*sz) v.cells.toList 0 css.flatten _ (by simpa using hblk)
         have hfold2:v.cells.zipIdx.foldl (fun (cs:Array Value) (c,j)=>cs.setIfInBounds (i'*sz+j) c) css.flatten.toArray=(css.set i' v.cells.toList).flatten.toArray:=by
          rw [←hfold,←Array.foldl_toList]
          simp
         have hble:=(aB6 hblk).2
         unfold Instr.fill
         simp only
         rw [if_neg (by simp only [ne_eq,hvl,not_true_eq_false,decide_false,Bool.false_or,decide_eq_true_eq,List.size_toArray]; rw [hvlen] at hble; omega),hfold2]
         exact q1
      ·cases h
     ·cases h
    ·cases h
   ·cases h
  ·cases h
theorem bD9 (z:List Value) (m:Nat):(madeCells z.toArray (m*z.length)).toList=(List.replicate m z).flatten:=by
 have hfl:(List.replicate m z).flatten.length=m*z.length:=by
  have:=aA6 z.length (List.replicate m z) (fun c hc=>by rw [List.eq_of_mem_replicate hc])
  rwa [List.length_replicate] at this
 apply List.ext_getElem?
 intro j
 by_cases hj:j < m*z.length
 ·have hpos:0 < z.length:=by rcases Nat.eq_zero_or_pos z.length with h|h; rw [h] at hj; omega; exact h
  have hd:j / z.length < m:=Nat.div_lt_of_lt_mul (by rwa [Nat.mul_comm] at hj)
  have hmod:j % z.length < z.length:=Nat.mod_lt _ hpos
  have h:=flat_get z.length (List.replicate m z) (fun c hc=>by rw [List.eq_of_mem_replicate hc]) (j / z.length) (j % z.length) z (by simp [hd]) hmod
  have ej:j / z.length*z.length+j % z.length=j:=by rw [Nat.mul_comm]; exact Nat.div_add_mod j z.length
  rw [ej] at h
  rw [h]
  simp [madeCells,hj,List.getElem?_eq_getElem hmod]
 ·rw [List.getElem?_eq_none (by simp [madeCells]; omega),List.getElem?_eq_none (by rw [hfl]; omega)]
def aZ4 (tab:Q6) (os:Os) (ev:Ev) (d:Nat) (t:TypeId) (n:Nat) (parts:Array (Nat×Operand)) (K:Kt):Prop :=
 match lk tab t with
 |some ti=>match ti.kind,lk tab ti.elem with
  |2,some te=>match Nat.ble (n*te.size) 1000000,Nat.ble 1 te.size,bZ6 os te.size (List.replicate n te.zero) (a88 ev parts.toList) with
   |true,true,some (ls,g)=>∃q,aF9 ls q∧K (.own d) (g.map (·.1)) [d] ((d,.row te.size q ti.elem)::K5 g)
   |_,_,_=>False
  |_,_=>False
 |none=>False
theorem bP5 (hT:O3 P tab) (d:Nat) {t:TypeId} {n:Nat} {parts:Array (Nat×Operand)} (ho:o.op=.buildSlice t n parts) (h:aZ4 tab os ev d t n parts K):U8 P o ev os K:=by
 unfold aZ4 at h
 split at h
 ·rename_i ti hti
  split at h
  ·rename_i te hk hte
   split at h
   ·rename_i ls g hsm hpos hfe
    have hsm:=Nat.le_of_ble_eq_true hsm
    have hpos:=Nat.le_of_ble_eq_true hpos
    have ht:=(hT t ti hti).slice_ hk
    have hE:=hT _ te hte
    rw [bY7] at hfe
    have F:=cD9 hfe
    obtain ⟨q0,hq0,h⟩:=h
    refine fun _=>⟨_,g,_,[d],fun c w ρ hok hr=>?_,F.sub,fun id hid=>(by simp at hid; subst hid; rw [p9]; rfl),h⟩
    obtain ⟨z,hz,hzo,hza⟩:=hE.run_zero w
    have hzr:=aH3 (c.fz g).Φ w _ _ hzo
    have hzl:z.cells.toList.length=te.size:=by rw [hzr.1.length,hE.zl]
    obtain ⟨css',q1,q2,q3,q4,q5⟩:=F.run c w (c.fz g).Φ (parts.toList.map fun p=>(p.1,ρ p.2)) (List.replicate n z.cells.toList) hok (fun b h=>h) (by simp) (fun k p q hp hq=>by
      simp only [List.getElem?_map,Option.map_eq_some_iff] at hp hq
      obtain ⟨a,ha,rfl⟩:=hp
      obtain ⟨b,hb,rfl⟩:=hq
      rw [ha] at hb
      cases hb
      refine ⟨rfl,hr a.2 ?_⟩
      rw [ho]
      simp only [Op.operands,List.mem_map]
      exact ⟨a,List.mem_of_getElem? ha,rfl⟩) (by simp) (fun us hu=>by rw [List.eq_of_mem_replicate hu]; exact hzl) (fun us hu=>by rw [List.eq_of_mem_replicate hu]; exact hzr.2) (fun i us cs hu hc=>by
      rw [List.getElem?_replicate] at hu hc
      split at hu
      ·rename_i hi
       rw [if_pos hi] at hc
       cases hu
       cases hc
       exact hzr.1
      ·cases hu)
    have hn:css'.length=n:=by rw [q2,F.len,List.length_replicate]
    have hnm:n≤n*te.size:=Nat.le_mul_of_pos_right n hpos
    have hp:=Post.fzRow hok F.ids d ti.elem q2 q5 q3 q4 (by rw [hn]; simp only [maxLen]; omega)
    have hcells:(Array.range (n*te.size)).map (z.cells[· % z.cells.size]!)=(List.replicate n z.cells.toList).flatten.toArray:=by
     have:=bD9 z.cells.toList n
     rw [hzl] at this
     apply Array.toList_inj.1
     simpa [madeCells] using this
    have hvp:(parts.map fun (p:Nat×Operand)=>(p.1,ρ p.2)).toList=parts.toList.map fun p=>(p.1,ρ p.2):=by simp
    have hrun:(execOp ρ o).run P w=.ok (.value (.slice (some ⟨w.heap.size,0,none⟩) n n)) (w.alloc (.cells css'.flatten.toArray ti.elem)):=by
     have hlim:¬(n*te.size > 2 ^ 24):=by omega
     by_cases h0:n*te.size=0
     ·have hn0:n=0:=by rcases Nat.mul_eq_zero.1 h0 with h|h; exact h; omega
      subst hn0
      have hp0:parts.toList=[]:=by
       cases hpp:parts.toList with
       |nil=>rfl
       |cons a l =>
        rw [hpp] at hfe
        simp only [List.map_cons,bZ6,List.replicate_zero] at hfe
        split at hfe
        ·split at hfe
         ·split at hfe
          ·have:∀(i:Nat) (r:List AV),U6 i [r] ([]:List (List AV))=none:=fun i r=>by cases i<;>rfl
           rw [this] at hfe
           cases hfe
          ·cases hfe
         ·cases hfe
        ·cases hfe
      have hpa:parts=#[]:=by simpa using hp0
      have hc0:css'=[]:=List.eq_nil_of_length_eq_zero hn
      subst hpa hc0
      simp [execOp,ho,Instr.buildSlice,run_underlying ht,hE.run_size,Instr.fill,newRow]
      rw [show (Array.map (fun _=>(default:Value)) (Array.range 0))=#[] from Array.eq_empty_of_size_eq_zero (by simp)]
     ·simp only [execOp,ho,Instr.buildSlice,Sem.run_bind,run_underlying ht,hE.run_size,Result.andThen_ok,if_neg hlim,if_neg h0,hz,Sem.run_pure,hcells]
      simp [q1,newRow]
    rw [hrun]
    refine ⟨_,Post.leRow hp hq0,?_⟩
    rw [←hn]
    exact .own (by simp [Ctx.setHd]) (Nat.le_refl _) (by rw [hn]; simp only [maxLen]; omega)
   ·exact h.elim
  ·exact h.elim
 ·exact h.elim
def cF2 (tab:Q6) (d:Nat) (t:TypeId) (x y:AV) (K:Kt):Prop :=
 match lk tab t,x,y with
 |some ti,.int a,.int b=>match ti.kind,lk tab ti.elem with
  |2,some te=>a=b∧0≤a∧a≤140737488355328∧a*te.bytes≤140737488355328∧∃q,aF9 (List.replicate a.toNat te.zero) q∧K (.own d) [] [d] [(d,.row te.size q ti.elem)]
  |_,_=>False
 |_,_,_=>False
theorem cX1 (hT:O3 P tab) (d:Nat) {t:TypeId} {x y:Operand} (ho:o.op=.makeSlice t x y) (h:cF2 tab d t (ev x) (ev y) K):U8 P o ev os K:=by
 unfold cF2 at h
 split at h
 ·rename_i ti a b hti hx hy
  split at h
  ·rename_i te hk hte
   obtain ⟨rfl,h0,h1,h2,q0,hq0,h⟩:=h
   have ht:=(hT t ti hti).slice_ hk
   have hE:=hT _ te hte
   refine fun _=>⟨_,[],_,[d],fun c w ρ hok hr=>?_,fun _ _ h=>(by cases h),fun id hid=>(by simp at hid; subst hid; rw [p9]; rfl),h⟩
   obtain ⟨i,z,hi,hsz,hby,hz,hzo,hza⟩:=hE.info
   have hzr:=aH3 c.Φ w _ _ hzo
   have hzl:z.cells.toList.length=te.size:=by rw [hzr.1.length,hE.zl]
   have r1:=hr x (by simp [ho,Op.operands])
   have r2:=hr y (by simp [ho,Op.operands])
   rw [hx] at r1
   rw [hy] at r2
   have hmk:=run_make (P:=P) w t ti.elem i z ht hi hz .i64 .i64 a a h0 (Int.le_refl _) (by rw [hby,Int.mul_comm]; omega) (by omega)
   have hcells:madeCells z.cells (a.toNat*i.size)=(List.replicate a.toNat z.cells.toList).flatten.toArray:=by
    have:=bD9 z.cells.toList a.toNat
    rw [hzl] at this
    apply Array.toList_inj.1
    rw [hsz]
    simpa using this
   rw [hcells] at hmk
   have hp:=Post.newRow (c:=c) (w:=w) hok.phi d (sz:=te.size) (css:=List.replicate a.toNat z.cells.toList) (ls:=List.replicate a.toNat te.zero) ti.elem (by simp) (fun k us cs hu hc=>by
    rw [List.getElem?_replicate] at hu hc
    split at hu
    ·rename_i hi
     rw [if_pos hi] at hc
     cases hu
     cases hc
     exact hzr.1
    ·cases hu) (fun us hu=>by rw [List.eq_of_mem_replicate hu]; exact hzl) (fun us hu=>by rw [List.eq_of_mem_replicate hu]; exact hzr.2) (by rw [List.length_replicate]; simp only [maxLen]; omega)
   have hrun:(execOp ρ o).run P w=.ok (.value (.slice (some ⟨w.heap.size,0,none⟩) a.toNat a.toNat)) (w.alloc (.cells (List.replicate a.toNat z.cells.toList).flatten.toArray ti.elem)):=by
    simp [execOp,ho,r1.int_.1,r2.int_.1,hmk]
   rw [hrun]
   simp only [List.length_replicate] at hp
   exact ⟨_,Post.leRow hp hq0,.own (by simp [Ctx.setHd]) (Nat.le_refl _) (by simp only [maxLen]; omega)⟩
  ·exact h.elim
 ·exact h.elim
end
end Go.Proofs.YtibjcppjfkamhaaGreatDoor
namespace Go.Proofs.YtibjcppjfkamhaaGreatDoor
open Go.RowKit
set_option linter.unusedVariables false
section
variable {P:Program} {tab:Q6} {o:Oper} {ev:Ev} {os:Os} {K:Kt}
def cA9 (os:Os) (sz e:Nat) (x:AV):Option (List (List AV)×Os) :=
 match x with
 |.nilsl=>some ([],[])
 |.own id=>match lk os id with
  |some (.row sz' ls e')=>match Nat.beq sz sz',Nat.beq e e' with
   |true,true=>some (ls,[(id,.row sz' ls e')])
   |_,_=>none
  |_=>none
 |.osl id n=>match lk os id with
  |some (.row sz' ls e')=>match Nat.beq sz sz',Nat.beq e e' with
   |true,true=>some (ls.take n,[(id,.row sz' ls e')])
   |_,_=>none
  |_=>none
 |_=>none
def cJ4 (os:Os) (sz:Nat) (x:AV):Option (List (List AV)×Os) :=
 match x with
 |.nilsl=>some ([],[])
 |.sl sz' ls=>match Nat.beq sz sz' with
  |true=>some (ls,[])
  |false=>none
 |.own id=>match lk os id with
  |some (.row sz' ls e)=>match Nat.beq sz sz' with
   |true=>some (ls,[(id,.row sz' ls e)])
   |false=>none
  |_=>none
 |.osr id n sz2=>match lk os id with
  |some (.row sz' ls e)=>match Nat.beq sz sz',Nat.beq sz sz2 with
   |true,true=>some (ls.drop n,[(id,.row sz' ls e)])
   |_,_=>none
  |_=>none
 |_=>none
structure dA1 (os:Os) (sz e:Nat) (x:AV) (ls:List (List AV)) (g:Os):Prop where
 sub:∀id o,lk g id=some o→lk os id=some o
 run:∀(c:Ctx) (w:World) (v:Value),P9 c w g→Rd c w v x→(∀b,v.ownBlock=some b↔∃id o,lk g id=some o∧foot c id o b) ∧
  ∃css,M7 w v sz e css∧css.length=ls.length∧∀(i:Nat) (us:List Value) (cs:List AV),css[i]?=some us→ls[i]?=some cs→J4 c.Φ w us cs
theorem bR5 {id:Nat} {ob:Obj} {c:Ctx} {b:Nat}:(∃i o,lk [(id,ob)] i=some o∧foot c i o b)↔foot c id ob b:=by
 refine ⟨fun ⟨i,o,h1,h2⟩=>?_,fun h=>⟨id,ob,p9 _ _ _,h⟩⟩
 rw [y7] at h1
 split at h1
 ·rename_i e
  subst e
  cases h1
  exact h2
 ·cases h1
theorem cO7 {sz e:Nat} {x:AV} {ls:List (List AV)} {g:Os} (h:cA9 os sz e x=some (ls,g)):dA1 os sz e x ls g:=by
 unfold cA9 at h
 split at h
 ·cases h
  refine ⟨fun _ _ h=>(by cases h),fun c w v hok hr=>⟨fun b=>⟨fun h=>?_,fun ⟨_,_,h,_⟩=>(by cases h)⟩,[],⟨.inl ⟨hr.nilsl_,rfl⟩,by simp,by simp⟩,rfl,fun i us cs h=>by simp at h⟩⟩
  rw [hr.nilsl_] at h
  cases h
 ·rename_i id
  split at h
  ·rename_i sz' ls' e' hid
   split at h
   ·rename_i h1 h2
    obtain rfl:=Nat.eq_of_beq_eq_true h1
    obtain rfl:=Nat.eq_of_beq_eq_true h2
    cases h
    refine ⟨fun i o h=>aH7 h hid,fun c w v hok hr=>?_⟩
    obtain ⟨A,n,cap,e1,e2,e3,e4⟩:=hr.own_
    obtain ⟨css,q1,q2,q3⟩:=hok.rep id _ (p9 _ _ _)
    have hv:v=c.hd id:=e1.trans e2.symm
    refine ⟨fun b=>by rw [bR5,hv]; rfl,css,by rw [hv]; exact q1,q2,q3⟩
   ·cases h
  ·cases h
 ·rename_i id n
  split at h
  ·rename_i sz' ls' e' hid
   split at h
   ·rename_i h1 h2
    obtain rfl:=Nat.eq_of_beq_eq_true h1
    obtain rfl:=Nat.eq_of_beq_eq_true h2
    cases h
    refine ⟨fun i o h=>aH7 h hid,fun c w v hok hr=>?_⟩
    obtain ⟨A,m,cap,e1,e2,e3,e4,e5⟩:=hr.osl_
    obtain ⟨css,q1,q2,q3⟩:=hok.rep id _ (p9 _ _ _)
    rw [e2] at q1
    have hown:v.ownBlock=(c.hd id).ownBlock:=by rw [e1,e2]; cases A<;>rfl
    refine ⟨fun b=>by rw [bR5,hown]; rfl,css.take n,by rw [e1]; exact q1.take e3,by simp [q2],fun i us cs hu hc=>?_⟩
    rw [List.getElem?_take] at hu hc
    split at hu
    ·rename_i hi
     rw [if_pos hi] at hc
     exact q3 i us cs hu hc
    ·cases hu
   ·cases h
  ·cases h
 ·cases h
structure c96 (os:Os) (sz:Nat) (x:AV) (ls:List (List AV)) (g:Os):Prop where
 sub:∀id o,lk g id=some o→lk os id=some o
 run:∀(c:Ctx) (w:World) (v:Value),P9 c w g→Rd c w v x→Src c.Φ w sz v ls
theorem src_ok {sz:Nat} {x:AV} {ls:List (List AV)} {g:Os} (h:cJ4 os sz x=some (ls,g)):c96 os sz x ls g:=by
 unfold cJ4 at h
 split at h
 ·cases h
  exact ⟨fun _ _ h=>(by cases h),fun c w v hok hr=>by rw [hr.nilsl_]; exact Src.nil sz⟩
 ·split at h
  ·rename_i h1
   obtain rfl:=Nat.eq_of_beq_eq_true h1
   cases h
   exact ⟨fun _ _ h=>(by cases h),fun c w v hok hr=>Src.of_rf hr⟩
  ·cases h
 ·rename_i id
  split at h
  ·rename_i sz' ls' e' hid
   split at h
   ·rename_i h1
    obtain rfl:=Nat.eq_of_beq_eq_true h1
    cases h
    refine ⟨fun i o h=>aH7 h hid,fun c w v hok hr=>?_⟩
    obtain ⟨A,n,cap,e1,e2,e3,e4⟩:=hr.own_
    rw [e1.trans e2.symm]
    exact Src.of_row (hok.rep id _ (p9 _ _ _))
   ·cases h
  ·cases h
 ·rename_i id n sz2
  split at h
  ·rename_i sz' ls' e' hid
   split at h
   ·rename_i h1 h2
    obtain rfl:=Nat.eq_of_beq_eq_true h1
    obtain rfl:=Nat.eq_of_beq_eq_true h2
    cases h
    refine ⟨fun i o h=>aH7 h hid,fun c w v hok hr=>?_⟩
    obtain ⟨A,m,cap,e1,e2,e3,e4,e5⟩:=hr.osr_
    obtain ⟨css,q1,q2,q3⟩:=hok.rep id _ (p9 _ _ _)
    rw [e2] at q1
    rw [e1]
    refine Src.of_rowOk (q1.drop e3) (by simp [q2]) fun i us cs hu hc=>?_
    rw [List.getElem?_drop] at hu hc
    exact q3 _ us cs hu hc
   ·cases h
  ·cases h
 ·cases h
def bX4 (tab:Q6) (os:Os) (d:Nat) (t t':TypeId) (x y:AV) (K:Kt):Prop :=
 match lk tab t,Nat.beq t t' with
 |some ti,true=>match ti.kind,lk tab ti.elem with
  |2,some te=>match Nat.ble 1 te.size,Nat.ble 1 te.bytes,cA9 os te.size ti.elem x,cJ4 os te.size y with
   |true,true,some (ls,g),some (ls2,g2)=>match lk g d with
    |none=>(ls.length+ls2.length)*te.bytes≤140737488355328∧∃q,aF9 (ls++ls2) q∧K (.own d) ((g++g2).map (·.1)) [d] ((d,.row te.size q ti.elem)::K5 g)
    |some _=>False
   |_,_,_,_=>False
  |_,_=>False
 |_,_=>False
theorem cN4 (hT:O3 P tab) (d:Nat) {t t':TypeId} {x y:Operand} (ho:o.op=.call { callee:=.builtin .append,args:=#[x,y],argTypes:=#[t,t'] }) (h:bX4 tab os d t t' (ev x) (ev y) K):U8 P o ev os K:=by
 unfold bX4 at h
 split at h
 ·rename_i ti hti htt
  obtain rfl:=Nat.eq_of_beq_eq_true htt
  split at h
  ·rename_i te hk hte
   split at h
   ·rename_i ls g ls2 g2 hpos hpb htg hsr
    have hpos:=Nat.le_of_ble_eq_true hpos
    have hpb:=Nat.le_of_ble_eq_true hpb
    split at h
    ·rename_i hgd
     obtain ⟨hb,q0,hq0,h⟩:=h
     have T:=cO7 htg
     have S:=src_ok hsr
     obtain ⟨s1,s2,s3⟩:=aW1 T.sub S.sub
     refine fun _=>⟨_,g++g2,_,[d],fun c w ρ hok hr=>?_,s1,fun id hid=>(by simp at hid; subst hid; rw [p9]; rfl),h⟩
     have r1:=hr x (by simp [ho,Op.operands,Go.Call.operands])
     have r2:=hr y (by simp [ho,Op.operands,Go.Call.operands])
     obtain ⟨hgb,css,q1,q2,q3⟩:=T.run c w _ (hok.sub s3) r1
     have hsrc:=S.run c w _ (hok.sub s2) r2
     have hl:css.length+ls2.length≤maxLen:=by
      have:(ls.length+ls2.length)*1≤(ls.length+ls2.length)*te.bytes:=Nat.mul_le_mul_left _ hpb
      simp only [maxLen]
      omega
     obtain ⟨v',w',css2,hrun,p1,p2,p3,p4,p5⟩:=bK4 (P:=P) (hT t ti hti) hk (hT _ te hte) hpos o.type q1 hsrc (by rw [q2]; exact hb) hl
     have hpost:=Post.append (d:=d) (ls:=ls++ls2) (hok.sub s3) hgb hgd p3 p4 p2 (by simp [q2,p1]) (fun i us cs hu hc=>by
      by_cases hi:i < css.length
      ·rw [List.getElem?_append_left hi] at hu
       rw [List.getElem?_append_left (by omega)] at hc
       exact q3 i us cs hu hc
      ·rw [List.getElem?_append_right (by omega)] at hu
       rw [List.getElem?_append_right (by omega),←q2] at hc
       exact p5 _ us cs hu hc)
     have hex:(execOp ρ o).run P w=.ok (.value v') w':=by
      simp [execOp,ho,resolve,invoke,builtin,hrun]
     rw [hex]
     refine ⟨_,(hpost.leRow hq0).widen s3,?_⟩
     obtain ⟨A,cap,hv,c1,c2⟩:=p2.head
     rw [hv]
     exact .own (by simp [Ctx.setHd]) c1 c2
    ·exact h.elim
   ·exact h.elim
  ·exact h.elim
 ·exact h.elim
def aI0 (s:ByteArray):List Int:=s.data.toList.map fun b=>(b.toNat:Int)
theorem b29 {t u:TypeId} {ti te:TI} (hT:U4 P t ti) (hk:ti.kind=2) (hE:U4 P ti.elem te) (h1:te.size=1) (hb1:te.bytes=1) (hu:P.underlying u=some .string) (ty:TypeId) {w:World} {hdv:Value} {css:List (List Value)}
  (h:M7 w hdv 1 ti.elem css) (s:ByteArray) (hl:css.length+s.size≤140737488355328) :
  ∃v' w',(Builtin.append_ #[t,u] ty #[hdv,.string s]).run P w=.ok v' w'∧M7 w' v' 1 ti.elem (css++(Lib.strCells s).map fun x=>[x])∧w.grownBy w' hdv.ownBlock∧(v'.ownBlock=hdv.ownBlock∨∀b,v'.ownBlock=some b→w.heap.size≤b):=by
 obtain ⟨i,z,hi,hsz,hby,hz,hzo,hza⟩:=hE.info
 rw [h1] at hsz
 rw [hb1] at hby
 have ht:=hT.slice_ hk
 have hzs:z.cells.size=1:=by
  have:=(aH3 (fun _=>False) w _ _ hzo).1.length
  rw [←h1,←hE.zl,←this]
  simp
 have hscl:=Lib.strCells_length s
 have hfl0:=aA6 1 css h.len
 have hlen12:∀us∈css++(Lib.strCells s).map (fun x=>[x]),us.length=1:=fun us hu=>by
  rcases List.mem_append.1 hu with hu|hu
  ·exact h.len us hu
  ·obtain ⟨x,_,rfl⟩:=List.mem_map.1 hu; rfl
 have hone12:∀us∈css++(Lib.strCells s).map (fun x=>[x]),∀u∈us,u.oneCell'=true:=fun us hu=>by
  rcases List.mem_append.1 hu with hu|hu
  ·exact h.one us hu
  ·obtain ⟨x,hx,rfl⟩:=List.mem_map.1 hu
   intro u hu'
   simp only [List.mem_singleton] at hu'
   subst hu'
   exact Lib.strCells_oneCell s u hx
 have hfs:∀l:List Value,(l.map fun x=>[x]).flatten=l:=fun l=>by induction l with
  |nil=>rfl
  |cons a l ih=>simp [ih]
 have hll:(css++(Lib.strCells s).map (fun x=>[x])).length=css.length+s.size:=by simp [hscl]
 have new_:∀cap:Nat,css.length+s.size≤cap→cap≤maxLen→∀olds:List Value,olds=css.flatten →
   M7 (w.drew.alloc (.cells (olds.toArray++(Lib.strCells s).toArray++Builtin.zeroCells z.cells (cap - (css.length+s.size))) ti.elem)) (.slice (some ⟨w.heap.size,0,none⟩) (css.length+s.size) cap) 1 ti.elem (css++(Lib.strCells s).map fun x=>[x]):=by
  rintro cap hc1 hc2 olds rfl
  refine ⟨.inr ⟨w.heap.size,0,0,cap,_,by rw [hll],bH7 w.drew _,by rw [hll]; exact hc1,by omega,?_,fun _=>by simp,?_⟩,hlen12,hone12⟩
  ·simp only [Array.size_append,List.size_toArray,size_zeroCells,hzs,hfl0,hscl]; omega
  ·have e1:(css++(Lib.strCells s).map fun x=>[x]).flatten=css.flatten++Lib.strCells s:=by rw [List.flatten_append,hfs]
   rw [hll,e1]
   simp only [Array.toList_append,List.append_assoc,Nat.zero_mul,List.drop_zero,Nat.mul_one]
   rw [←List.append_assoc]
   have:css.length+s.size=(css.flatten++Lib.strCells s).length:=by rw [List.length_append,hfl0,hscl]; omega
   rw [this]
   exact List.take_left
 have grow_:∀o:Go.Obj,w.grownBy (w.drew.alloc o) hdv.ownBlock:=fun o=>⟨rfl,rfl,rfl,by simp,fun k hk _=>alloc_old w.drew o hk⟩
 have hf:=Lib.run_firstCells_string (P:=P) w 1 s
 have h63:css.length+s.size≤maxLen:=by simp only [maxLen]; omega
 rcases h.lies with ⟨rfl,hn⟩|⟨g,x,p,cp,cur,rfl,hg,a1,a2,a3,hx,a4⟩
 ·have e0:css=[]:=List.eq_nil_of_length_eq_zero hn
  subst e0
  rcases Nat.eq_zero_or_pos s.size with h0|hp
  ·have hsc:Lib.strCells s=[]:=List.eq_nil_of_length_eq_zero (by omega)
   refine ⟨.slice none 0 0,w,?_,by rw [hsc]; exact h,World.grownBy.refl w _,.inl rfl⟩
   rw [h0,hsc] at hf
   simp [Builtin.append_,run_underlying ht,run_underlying hu,sizeOf,typeInfo,hi,hsz,Builtin.lenOf,h0,hf,storeCells]
  ·have hr:=run_append_nil_string (P:=P) w t u ty ti.elem i z ht hu hi hz s (by omega) (by omega) (by rw [hby]; omega)
   have e1:(s.data.map fun b=>Value.int .u8 b.toNat)=(Lib.strCells s).toArray:=by
    apply Array.ext'
    simp [Lib.strCells]
   rw [e1] at hr
   have:=new_ (grownCap w s.size 0 ti.elem) (by simpa using grownCap_ge w s.size 0 ti.elem) (grownCap_le_maxLen w s.size 0 ti.elem (by simpa using h63)) [] rfl
   simp only [List.length_nil,Nat.zero_add,Array.empty_append] at this
   exact ⟨_,_,hr,this,grow_ _,.inr fun b hb=>by simp [Value.ownBlock] at hb; omega⟩
 ·have hcs:cur.toList.length=(p+cp)*1:=by rw [←a3]; simp
  by_cases hroom:css.length+s.size≤cp
  ·rcases Nat.eq_zero_or_pos cp with hc0|hcp
   ·have h0:s.size=0:=by omega
    have hsc:Lib.strCells s=[]:=List.eq_nil_of_length_eq_zero (by omega)
    refine ⟨_,w,?_,by rw [hsc]; simpa using h,World.grownBy.refl w _,.inl rfl⟩
    rw [h0,hsc] at hf
    simp [Builtin.append_,run_underlying ht,run_underlying hu,sizeOf,typeInfo,hi,hsz,Builtin.lenOf,h0,hf,storeCells,a1]
   ·have hxp:=hx hcp
    obtain ⟨rs,hrs⟩:=aN3 (p*1+css.length*1+0) (Lib.strCells s) cur.toList (by rw [hscl]; omega)
    have hg':w.heap[g]?=some (.cells cur.toList.toArray ti.elem):=by simpa using hg
    obtain ⟨w',q1,q2,q3,q4,q5,q6,q7⟩:=aW2 (P:=P) g (p*1+css.length*1) ti.elem (Lib.strCells s) 0 cur.toList rs w hg' (Lib.strCells_oneCell s) hrs
    refine ⟨.slice (some ⟨g,x,none⟩) (css.length+s.size) cp,w',?_,⟨.inr ⟨g,x,p,cp,rs.toArray,by rw [hll],q2,by rw [hll]; exact hroom,a2,by rw [List.size_toArray,(aB6 hrs).1]; exact hcs,hx,?_⟩,hlen12,hone12⟩,⟨q5,q6,q7,by omega,fun k _ hk=>q3 k fun e=>hk (by simp [Value.ownBlock,e])⟩,.inl rfl⟩
    ·simp [Builtin.append_,run_underlying ht,run_underlying hu,sizeOf,typeInfo,hi,Builtin.lenOf,hroom,hsz,hf,aF4,hxp]
     simp only [Nat.mul_one,Nat.add_zero] at q1
     rw [q1]
     rfl
    ·rw [hll,List.flatten_append,hfs]
     apply List.ext_getElem?
     intro j
     simp only [Nat.mul_one]
     rw [List.getElem?_take]
     split
     ·rename_i hj
      rw [List.getElem?_drop]
      show rs[p+j]?=_
      rw [U7 hrs]
      by_cases hjl:j < css.length
      ·rw [if_neg (by omega),List.getElem?_append_left (by omega),←a4,List.getElem?_take_of_lt (by omega),List.getElem?_drop]
       simp
      ·rw [if_pos (by omega),List.getElem?_append_right (by omega),hfl0]
       congr 1
       omega
     ·rw [List.getElem?_eq_none]
      rw [List.length_append,hfl0,hscl]
      omega
  ·have holds:∀j v,css.flatten[j]?=some v→w.cell? ((⟨g,x,none⟩:Addr).add j)=some v:=fun j v hj=>by
    have hlt:j < css.length*1:=by
     have:=(List.getElem?_eq_some_iff.1 hj).1
     rwa [hfl0] at this
    have hxp:=hx (by omega)
    rw [←a4,List.getElem?_take_of_lt hlt,List.getElem?_drop] at hj
    rw [aF4,hxp]
    unfold World.cell?
    rw [hg]
    simpa using hj
   have hr:=Lib.run_append_grow_string (P:=P) w t u ty ti.elem i z ht hu hi hz ⟨g,x,none⟩ css.length cp css.flatten (by rw [hsz]; exact hfl0) holds s (by omega) (by omega) (by rw [hby]; exact growslice_fits (by omega) (by omega))
   have:=new_ (grownCap w (css.length+s.size) cp ti.elem) (grownCap_ge w _ cp ti.elem) (grownCap_le_maxLen w _ cp ti.elem h63) _ rfl
   exact ⟨_,_,hr,this,grow_ _,.inr fun b hb=>by simp [Value.ownBlock] at hb; omega⟩
def c05 : AV→Bool
 |.str _=>true
 |_=>false
def bS3 (tab:Q6) (os:Os) (d:Nat) (t t':TypeId) (x y:AV) (K:Kt):Prop :=
 match y,lk tab t,lk tab t' with
 |.str s,some ti,some ts=>match ti.kind,ts.kind,lk tab ti.elem,cA9 os 1 ti.elem x with
  |2,4,some te,some (ls,g)=>match Nat.beq te.size 1,Nat.beq te.bytes 1,lk g d with
   |true,true,none=>ls.length+s.size≤140737488355328∧∃q,aF9 (ls++(aI0 s).map fun n=>[AV.ik .u8 n]) q∧K (.own d) (g.map (·.1)) [d] ((d,.row 1 q ti.elem)::K5 g)
   |_,_,_=>False
  |_,_,_,_=>False
 |_,_,_=>False
theorem cI6 (hT:O3 P tab) (d:Nat) {t t':TypeId} {x y:Operand} (ho:o.op=.call { callee:=.builtin .append,args:=#[x,y],argTypes:=#[t,t'] }) (h:bS3 tab os d t t' (ev x) (ev y) K):U8 P o ev os K:=by
 unfold bS3 at h
 split at h
 ·rename_i s ti ts hy hti hts
  split at h
  ·rename_i te ls g hk hk2 hte htg
   split at h
   ·rename_i h1 hb1 hgd
    have h1:=Nat.eq_of_beq_eq_true h1
    have hb1:=Nat.eq_of_beq_eq_true hb1
    obtain ⟨hb,q0,hq0,h⟩:=h
    have T:=cO7 htg
    refine fun _=>⟨_,g,_,[d],fun c w ρ hok hr=>?_,T.sub,fun id hid=>(by simp at hid; subst hid; rw [p9]; rfl),h⟩
    have r1:=hr x (by simp [ho,Op.operands,Go.Call.operands])
    have r2:=hr y (by simp [ho,Op.operands,Go.Call.operands])
    rw [hy] at r2
    obtain ⟨hgb,css,q1,q2,q3⟩:=T.run c w _ hok r1
    obtain ⟨v',w',hrun,p2,p3,p4⟩:=b29 (P:=P) (hT t ti hti) hk (hT _ te hte) h1 hb1 ((hT t' ts hts).string_ hk2) o.type q1 s (by rw [q2]; exact hb)
    have hpost:=Post.append (d:=d) (ls:=ls++(aI0 s).map fun n=>[AV.ik .u8 n]) hok hgb hgd p3 p4 p2 (by simp [q2,aI0,Lib.strCells]) (fun i us cs hu hc=>by
     by_cases hi:i < css.length
     ·rw [List.getElem?_append_left hi] at hu
      rw [List.getElem?_append_left (by omega)] at hc
      exact q3 i us cs hu hc
     ·rw [List.getElem?_append_right (by omega)] at hu
      rw [List.getElem?_append_right (by omega),←q2] at hc
      simp only [Lib.strCells,aI0,List.map_map,List.getElem?_map,Option.map_eq_some_iff] at hu hc
      obtain ⟨b,b1,rfl⟩:=hu
      obtain ⟨b',b2,rfl⟩:=hc
      rw [b1] at b2
      cases b2
      exact .cons (.ik _ _) .nil)
    have hex:(execOp ρ o).run P w=.ok (.value v') w':=by
     simp [execOp,ho,resolve,invoke,builtin,r2.str_.1,hrun]
    rw [hex]
    refine ⟨_,hpost.leRow hq0,?_⟩
    obtain ⟨A,cap,hv,c1,c2⟩:=p2.head
    rw [hv]
    exact .own (by simp [Ctx.setHd]) c1 c2
   ·exact h.elim
  ·exact h.elim
 ·exact h.elim
end
end Go.Proofs.YtibjcppjfkamhaaGreatDoor
namespace Go.Proofs.YtibjcppjfkamhaaGreatDoor
open Go.RowKit
set_option linter.unusedVariables false
section
variable {P:Program} {tab:Q6} {o:Oper} {ev:Ev} {os:Os} {K:Kt}
def Z5 (ev:Ev):Option Operand→Option AV
 |none=>none
 |some x=>some (ev x)
def b45 (tab:Q6) (os:Os) (d:Nat) (t:TypeId) (x:AV) (lo hi:Option AV) (K:Kt):Prop :=
 match lk tab t with
 |some ti=>match x,lo,hi with
  |.sl sz ls,none,some (.int b)=>ti.kind=2∧(lk tab ti.elem).isSome=true∧0≤b∧b≤ls.length∧∀q,q=ls.take b.toNat→K (.sl sz q) [] [] []
  |.sl sz ls,some (.int a),none=>match lk tab ti.elem with
   |some te=>ti.kind=2∧te.size=sz∧0≤a∧a≤ls.length∧∀q,q=ls.drop a.toNat→K (.sl sz q) [] [] []
   |none=>False
  |.own id,none,some (.int b)=>match lk os id with
   |some (.row sz ls e)=>match Nat.beq id d with
    |false=>ti.kind=2∧(lk tab ti.elem).isSome=true∧0≤b∧b≤ls.length∧∀q,q=ls.take b.toNat→K (.own d) [id] [d] [(d,.row sz q e),(id,.gone)]
    |true=>False
   |_=>False
  |.osl id n,none,some (.int b)=>ti.kind=2∧(lk tab ti.elem).isSome=true∧0≤b∧b≤n∧K (.osl id b.toNat) [] [] []
  |.own id,some (.int a),none=>match lk os id,lk tab ti.elem,Nat.beq id d with
   |some (.row sz ls e),some te,false=>ti.kind=2∧te.size=sz∧0≤a∧a≤ls.length∧(K (.osr id a.toNat sz) [id] [] []∨∀q,q=ls.drop a.toNat→K (.own d) [id] [d] [(d,.row sz q e),(id,.gone)])
   |_,_,_=>False
  |.str s,some (.int a),some (.int b)=>ti.kind=4∧0≤a∧a≤b∧b≤s.size∧K (.str (s.extract a.toNat b.toNat)) [] [] []
  |_,_,_=>False
 |none=>False
theorem map_add_zero (A:Option Addr) (k cap:Nat):(if cap=0 then A else A.map (·.add (0*k)))=A:=by
 split
 ·rfl
 ·cases A<;>simp [Addr.add]
theorem aZ6 {t e:TypeId} {te:TI} (ht:P.underlying t=some (.slice e)) (hE:U4 P e te) {w:World} {A:Option Addr} {n cap:Nat} {b:Int} (h0:0≤b) (h1:b≤cap) :
  (Instr.sliceAt t (.slice A n cap) none (some (.int .i64 b)) none).run P w=.ok (.slice A b.toNat cap) w:=by
 have e:=map_add_zero A te.size cap
 simp only [Nat.zero_mul] at e
 simp [Instr.sliceAt,run_underlying ht,Instr.slice,Instr.sliceBounds,Instr.sliceBound,asIntOf,h0,h1,hE.run_size,e]
theorem Rd.cut {c:Ctx} {w:World} {v:Value} {sz:Nat} {ls:List (List AV)} (h:Rd c w v (.sl sz ls)) {b:Nat} (hb:b≤ls.length):∃A n cap,v=.slice A n cap∧ls.length≤cap∧Rd c w (.slice A b cap) (.sl sz (ls.take b)):=by
 obtain ⟨A,k,us,g,p,e,g1,g2,g3,g4,g5,g6,g7⟩:=h.sl_
 have hl:(ls.take b).length=b:=by rw [List.length_take]; omega
 refine ⟨A,ls.length,k,e,g1,.fz ?_⟩
 have key:∀i cs,(ls.take b)[i]?=some cs→ls[i]?=some cs:=fun i cs hi=>by
  rw [List.getElem?_take] at hi
  split at hi
  ·exact hi
  ·cases hi
 have:=Rf.sl (Φ:=c.Φ) (w:=w) (A:=A) (c:=k) (sz:=sz) (ls:=ls.take b) us g p (by rw [hl]; omega) g2 (fun hp=>g3 (by omega)) (fun i cs hi=>g4 i cs (key i cs hi)) (fun i cs hi=>g5 i cs (key i cs hi)) (fun i cs hi=>g6 i cs (key i cs hi)) (fun i cs hi=>g7 i cs (key i cs hi))
 rwa [hl] at this
theorem Rd.off {c:Ctx} {w:World} {v:Value} {sz:Nat} {ls:List (List AV)} (h:Rd c w v (.sl sz ls)) {a:Nat} (ha:a≤ls.length):∃A cap,v=.slice A ls.length cap∧ls.length≤cap∧Rd c w (.slice (if cap=a then A else A.map (·.add (a*sz))) (ls.length - a) (cap - a)) (.sl sz (ls.drop a)):=by
 obtain ⟨A,k,us,g,p,e,g1,g2,g3,g4,g5,g6,g7⟩:=h.sl_
 have hl:(ls.drop a).length=ls.length - a:=by rw [List.length_drop]
 refine ⟨A,k,e,g1,.fz ?_⟩
 have key:∀i cs,(ls.drop a)[i]?=some cs→ls[a+i]?=some cs:=fun i cs hi=>by rwa [List.getElem?_drop] at hi
 have:=Rf.sl (Φ:=c.Φ) (w:=w) (A:=if k=a then A else A.map (·.add (a*sz))) (c:=k - a) (sz:=sz) (ls:=ls.drop a) (fun i=>us (a+i)) g (p+a*sz) (by rw [hl]; omega) (by omega) (fun hp=>by
   obtain ⟨rfl,hb⟩:=g3 (by omega)
   rw [if_neg (by omega)]
   exact ⟨by simp [aF4],hb⟩) (fun i cs hi=>g4 _ cs (key i cs hi)) (fun i cs hi j u hj=>by
   have:=g5 _ cs (key i cs hi) j u hj
   rw [Nat.add_mul] at this
   rwa [show p+a*sz+i*sz+j=p+(a*sz+i*sz)+j by omega]) (fun i cs hi=>g6 _ cs (key i cs hi)) (fun i cs hi=>g7 _ cs (key i cs hi))
 rwa [hl] at this
theorem bG4 {t e:TypeId} {te:TI} (ht:P.underlying t=some (.slice e)) (hE:U4 P e te) {w:World} {A:Option Addr} {n cap:Nat} {a:Int} (h0:0≤a) (h1:a≤n) :
  (Instr.sliceAt t (.slice A n cap) (some (.int .i64 a)) none none).run P w=.ok (.slice (if cap=a.toNat then A else A.map (·.add (a.toNat*te.size))) (n - a.toNat) (cap - a.toNat)) w:=by
 simp [Instr.sliceAt,run_underlying ht,Instr.slice,Instr.sliceBounds,Instr.sliceBound,asIntOf,h0,h1,hE.run_size]
theorem cT4 (hT:O3 P tab) (d:Nat) {t:TypeId} {x:Operand} {lo hi:Option Operand} (ho:o.op=.slice t x lo hi none) (h:b45 tab os d t (ev x) (Z5 ev lo) (Z5 ev hi) K):U8 P o ev os K:=by
 have opx:∀{c:Ctx} {w:World} {ρ:Operand→Value},(∀z∈o.op.operands.toList,Rd c w (ρ z) (ev z))→Rd c w (ρ x) (ev x)∧(∀l,lo=some l→Rd c w (ρ l) (ev l))∧(∀l,hi=some l→Rd c w (ρ l) (ev l)):=fun hr =>
  ⟨hr x (by simp [ho,Op.operands]),fun l hl=>hr l (by simp [ho,Op.operands,hl]),fun l hl=>hr l (by simp [ho,Op.operands,hl])⟩
 have run:∀(ρ:Operand→Value) (w:World) (v:Value),(Instr.sliceAt t (ρ x) (lo.map ρ) (hi.map ρ) none).run P w=.ok v w→(execOp ρ o).run P w=.ok (.value v) w:=fun ρ w v h=>by simp [execOp,ho,h]
 unfold b45 at h
 split at h
 ·rename_i ti hti
  split at h
  ·rename_i sz ls b hx hlo hhi
   obtain ⟨hk,hsome,h0,h1,h⟩:=h
   obtain ⟨te,hte⟩:=Option.isSome_iff_exists.1 hsome
   have ht:=(hT t ti hti).slice_ hk
   obtain ⟨rfl⟩:lo=none:=by cases lo<;>simp_all [Z5]
   cases hi with
   |none=>simp [Z5] at hhi
   |some l =>
    simp only [Z5,Option.some.injEq] at hhi
    refine .pure (fun c w ρ hr=>?_) (h _ rfl)
    obtain ⟨r1,_,r2⟩:=opx hr
    have r2:=r2 l rfl
    rw [hx] at r1
    rw [hhi] at r2
    obtain ⟨A,n,cap,e,hc,hr'⟩:=r1.cut (b:=b.toNat) (by omega)
    refine ⟨_,run ρ w _ ?_,hr'⟩
    rw [e]
    simp only [Option.map_none,Option.map_some,r2.int_.1]
    exact aZ6 ht (hT _ te hte) h0 (by omega)
  ·rename_i sz ls a hx hlo hhi
   split at h
   ·rename_i te hte
    obtain ⟨hk,rfl,h0,h1,h⟩:=h
    have ht:=(hT t ti hti).slice_ hk
    obtain ⟨rfl⟩:hi=none:=by cases hi<;>simp_all [Z5]
    cases lo with
    |none=>simp [Z5] at hlo
    |some l =>
     simp only [Z5,Option.some.injEq] at hlo
     refine .pure (fun c w ρ hr=>?_) (h _ rfl)
     obtain ⟨r1,r2,_⟩:=opx hr
     have r2:=r2 l rfl
     rw [hx] at r1
     rw [hlo] at r2
     obtain ⟨A,cap,e,hc,hr'⟩:=r1.off (a:=a.toNat) (by omega)
     refine ⟨_,run ρ w _ ?_,hr'⟩
     rw [e]
     simp only [Option.map_none,Option.map_some,r2.int_.1]
     exact bG4 ht (hT _ te hte) h0 (by omega)
   ·exact h.elim
  ·rename_i id b hx hlo hhi
   split at h
   ·rename_i sz ls e hid
    split at h
    ·rename_i hdne
     obtain ⟨hk,hsome,h0,h1,h⟩:=h
     have hdne:id≠d:=fun e=>by subst e; simp at hdne
     obtain ⟨te,hte⟩:=Option.isSome_iff_exists.1 hsome
     have ht:=(hT t ti hti).slice_ hk
     obtain ⟨rfl⟩:lo=none:=by cases lo<;>simp_all [Z5]
     cases hi with
     |none=>simp [Z5] at hhi
     |some l =>
      simp only [Z5,Option.some.injEq] at hhi
      refine fun _=>⟨_,[(id,.row sz ls e)],_,[d],fun c w ρ hok hr=>?_,fun i ob h=>aH7 h hid,fun i hi=>(by simp at hi; subst hi; rw [p9]; rfl),h _ rfl⟩
      obtain ⟨r1,_,r2⟩:=opx hr
      have r2:=r2 l rfl
      rw [hx] at r1
      rw [hhi] at r2
      obtain ⟨A,n,cap,e1,e2,e3,e4⟩:=r1.own_
      obtain ⟨css,q1,q2,q3⟩:=hok.rep id _ (p9 _ _ _)
      rw [e2] at q1
      have hn:n=css.length:=by
       obtain ⟨A',cap',hv,_,_⟩:=q1.head
       injection hv with _ a _
      have hd:=q1.take (n:=b.toNat) (by omega)
      have hrun:(execOp ρ o).run P w=.ok (.value (.slice A b.toNat cap)) w:=by
       refine run ρ w _ ?_
       rw [e1]
       simp only [Option.map_none,Option.map_some,r2.int_.1]
       exact aZ6 ht (hT _ te hte) h0 (by omega)
      have hblk:(Value.slice A b.toNat cap).ownBlock=(c.hd id).ownBlock:=by
       rw [e2]
       cases A<;>simp [Value.ownBlock]
      have hp:=Post.append (d:=d) (w':=w) (hdv:=c.hd id) (ls:=ls.take b.toNat) hok (fun b=>by rw [bR5]; rfl) (by rw [G9 _ _ hdne]; rfl) (World.grownBy.refl w _) (.inl hblk) hd (by simp [q2]) (fun i us cs hu hc=>by
       rw [List.getElem?_take] at hu hc
       split at hu
       ·rename_i hlt
        rw [if_pos hlt] at hc
        exact q3 _ us cs hu hc
       ·cases hu)
      rw [hrun]
      exact ⟨_,hp,.own (by simp [Ctx.setHd]) (by omega) (by omega)⟩
    ·exact h.elim
   ·exact h.elim
  ·rename_i id n b hx hlo hhi
   obtain ⟨hk,hsome,h0,h1,h⟩:=h
   obtain ⟨te,hte⟩:=Option.isSome_iff_exists.1 hsome
   have ht:=(hT t ti hti).slice_ hk
   obtain ⟨rfl⟩:lo=none:=by cases lo<;>simp_all [Z5]
   cases hi with
   |none=>simp [Z5] at hhi
   |some l =>
    simp only [Z5,Option.some.injEq] at hhi
    refine .pure (fun c w ρ hr=>?_) h
    obtain ⟨r1,_,r2⟩:=opx hr
    have r2:=r2 l rfl
    rw [hx] at r1
    rw [hhi] at r2
    obtain ⟨A,m,cap,e1,e2,e3,e4,e5⟩:=r1.osl_
    refine ⟨.slice A b.toNat cap,run ρ w _ ?_,.osl e2 (by omega) e4 e5⟩
    rw [e1]
    simp only [Option.map_none,Option.map_some,r2.int_.1]
    exact aZ6 ht (hT _ te hte) h0 (by omega)
  ·rename_i id a hx hlo hhi
   split at h
   ·rename_i sz ls e te hid hte hdne
    obtain ⟨hk,rfl,h0,h1,h⟩:=h
    have hdne:id≠d:=fun e=>by subst e; simp at hdne
    have ht:=(hT t ti hti).slice_ hk
    obtain ⟨rfl⟩:hi=none:=by cases hi<;>simp_all [Z5]
    cases lo with
    |none=>simp [Z5] at hlo
    |some l =>
     simp only [Z5,Option.some.injEq] at hlo
     rcases h with h|h
     ·refine .read hid (fun c w ρ hrep hr=>?_) h
      obtain ⟨r1,r2,_⟩:=opx hr
      have r2:=r2 l rfl
      rw [hx] at r1
      rw [hlo] at r2
      obtain ⟨A,n,cap,e1,e2,e3,e4⟩:=r1.own_
      obtain ⟨css,q1,q2,q3⟩:=hrep
      obtain ⟨A',cap',hv,_,_⟩:=q1.head
      rw [e2] at hv
      injection hv with a1 a2 a3
      refine ⟨_,run ρ w _ ?_,.osr e2 (by omega) e3 e4⟩
      rw [e1]
      simp only [Option.map_none,Option.map_some,r2.int_.1]
      exact bG4 ht (hT _ te hte) h0 (by omega)
     refine fun _=>⟨_,[(id,.row te.size ls e)],_,[d],fun c w ρ hok hr=>?_,fun i ob h=>aH7 h hid,fun i hi=>(by simp at hi; subst hi; rw [p9]; rfl),h _ rfl⟩
     obtain ⟨r1,r2,_⟩:=opx hr
     have r2:=r2 l rfl
     rw [hx] at r1
     rw [hlo] at r2
     obtain ⟨A,n,cap,e1,e2,e3,e4⟩:=r1.own_
     obtain ⟨css,q1,q2,q3⟩:=hok.rep id _ (p9 _ _ _)
     rw [e2] at q1
     have hn:n=css.length:=by
      obtain ⟨A',cap',hv,_,_⟩:=q1.head
      injection hv with _ a _
     have hd:=q1.drop (n:=a.toNat) (by omega)
     have hrun:(execOp ρ o).run P w=.ok (.value (.slice (if cap=a.toNat then A else A.map (·.add (a.toNat*te.size))) (n - a.toNat) (cap - a.toNat))) w:=by
      refine run ρ w _ ?_
      rw [e1]
      simp only [Option.map_none,Option.map_some,r2.int_.1]
      rw [bG4 ht (hT _ te hte) h0 (by omega)]
     have hblk:(Value.slice (if cap=a.toNat then A else A.map (·.add (a.toNat*te.size))) (n - a.toNat) (cap - a.toNat)).ownBlock=(c.hd id).ownBlock:=by
      rw [e2]
      cases A<;>by_cases hc:cap=a.toNat<;>simp [Value.ownBlock,hc,Addr.add]
      split<;>rfl
     have hp:=Post.append (d:=d) (w':=w) (hdv:=c.hd id) (ls:=ls.drop a.toNat) hok (fun b=>by rw [bR5]; rfl) (by rw [G9 _ _ hdne]; rfl) (World.grownBy.refl w _) (.inl hblk) hd (by simp [q2]) (fun i us cs hu hc=>by
      rw [List.getElem?_drop] at hu hc
      exact q3 _ us cs hu hc)
     rw [hrun]
     exact ⟨_,hp,.own (by simp [Ctx.setHd]) (by omega) (by omega)⟩
   ·exact h.elim
  ·rename_i s a b hx hlo hhi
   obtain ⟨hk,h0,h1,h2,h⟩:=h
   have ht:=(hT t ti hti).string_ hk
   cases lo with
   |none=>simp [Z5] at hlo
   |some l1 =>
    cases hi with
    |none=>simp [Z5] at hhi
    |some l2 =>
     simp only [Z5,Option.some.injEq] at hlo hhi
     refine .pure (fun c w ρ hr=>?_) h
     obtain ⟨r1,r2,r3⟩:=opx hr
     have r2:=r2 l1 rfl
     have r3:=r3 l2 rfl
     rw [hx] at r1
     rw [hlo] at r2
     rw [hhi] at r3
     refine ⟨.string (s.extract a.toNat b.toNat),run ρ w _ ?_,.fz (.str ?_)⟩
     ·rw [r1.str_.1]
      simp only [Option.map_some,r2.int_.1,r3.int_.1]
      have e1:(0:Int)≤b:=by omega
      have e2:a.toNat≤b.toNat:=by omega
      simp [Instr.sliceAt,run_underlying ht,Instr.slice,Instr.sliceBounds,Instr.sliceBound,asIntOf,h0,e1,h2]
      intro hlt
      omega
     ·have:=r1.str_.2
      rw [ByteArray.size_extract]
      omega
  ·exact h.elim
 ·exact h.elim
def cL0 (x y:AV) (K:Kt):Prop :=
 match x,y with
 |.int a,.int b=>K (.int (min a b)) [] [] []
 |_,_=>False
def cL4 (x y:AV) (K:Kt):Prop :=
 match x,y with
 |.int a,.int b=>K (.int (max a b)) [] [] []
 |_,_=>False
theorem c60 {x y:Operand} {ts:Array TypeId} (ho:o.op=.call { callee:=.builtin .min,args:=#[x,y],argTypes:=ts }) (h:cL0 (ev x) (ev y) K):U8 P o ev os K:=by
 unfold cL0 at h
 split at h
 ·rename_i a b hx hy
  refine .pure (fun c w ρ hr=>?_) h
  have r1:=hr x (by simp [ho,Op.operands,Go.Call.operands])
  have r2:=hr y (by simp [ho,Op.operands,Go.Call.operands])
  rw [hx] at r1
  rw [hy] at r2
  refine ⟨.int .i64 (min a b),?_,.fz (.int ?_)⟩
  ·have e:(if b < a then b else a)=min a b:=by split<;>omega
   simp [execOp,ho,resolve,invoke,builtin,Builtin.min_,Builtin.min2,r1.int_.1,r2.int_.1,e]
  ·have h1:=r1.int_.2
   have h2:=r2.int_.2
   unfold Z8 at *
   omega
 ·exact h.elim
theorem c77 {x y:Operand} {ts:Array TypeId} (ho:o.op=.call { callee:=.builtin .max,args:=#[x,y],argTypes:=ts }) (h:cL4 (ev x) (ev y) K):U8 P o ev os K:=by
 unfold cL4 at h
 split at h
 ·rename_i a b hx hy
  refine .pure (fun c w ρ hr=>?_) h
  have r1:=hr x (by simp [ho,Op.operands,Go.Call.operands])
  have r2:=hr y (by simp [ho,Op.operands,Go.Call.operands])
  rw [hx] at r1
  rw [hy] at r2
  refine ⟨.int .i64 (max a b),?_,.fz (.int ?_)⟩
  ·have e:(if a < b then b else a)=max a b:=by split<;>omega
   simp [execOp,ho,resolve,invoke,builtin,Builtin.max_,Builtin.max2,r1.int_.1,r2.int_.1,e]
  ·have h1:=r1.int_.2
   have h2:=r2.int_.2
   unfold Z8 at *
   omega
 ·exact h.elim
def bX2 (tab:Q6) (ti:TI):Bool:=Nat.beq ti.kind 2 && match lk tab ti.elem with
 |some te=>Nat.beq te.kind 5 && match te.ik with
  |.u8=>true
  |_=>false
 |none=>false
theorem bX2.und {P:Program} {tab:Q6} (hT:O3 P tab) {t:TypeId} {ti:TI} (hti:U4 P t ti) (h:bX2 tab ti=true):P.underlying t=some (.slice ti.elem)∧P.underlying ti.elem=some (.int .u8):=by
 unfold bX2 at h
 simp only [Bool.and_eq_true] at h
 obtain ⟨h1,h2⟩:=h
 split at h2
 ·rename_i te hte
  simp only [Bool.and_eq_true] at h2
  have:=(hT _ te hte).int_ (Nat.eq_of_beq_eq_true h2.1)
  have e8:te.ik=.u8:=by
   have:=h2.2
   split at this
   ·assumption
   ·cases this
  rw [e8] at this
  exact ⟨hti.slice_ (Nat.eq_of_beq_eq_true h1),this⟩
 ·cases h2
theorem b34 {P:Program} {c:Ctx} {w:World} {src dst e:TypeId} (hs:P.underlying src=some (.slice e)) (he:P.underlying e=some (.int .u8)) (hd:P.underlying dst=some .string) {v:Value} {sz:Nat} {l:List Int}
  (hr:Rd c w v (.sl sz (l.map fun n=>[AV.ik .u8 n]))):(convert src dst v).run P w=.ok (.string (strOfNums l)) w∧(strOfNums l).size≤maxLen:=by
 obtain ⟨A,k,us,b,o,rfl,h1,h2,h3,h4,h5,h6,h7⟩:=hr.sl_
 simp only [List.length_map] at *
 refine ⟨?_,by rw [strOfNums_size]; omega⟩
 rcases Nat.eq_zero_or_pos l.length with h0|hp
 ·have e0:l=[]:=List.eq_nil_of_length_eq_zero h0
  subst e0
  cases A with
  |none=>exact run_convert_bytes_nil (P:=P) w src e hs he _ _ dst hd
  |some a =>
   rw [run_convert_bytes_string (P:=P) w src dst e _ _ _ hs he hd,run_bytesToString (P:=P) w a _ k [] (by simp [loadCells,loadCellsFrom])]
   rfl
 ·obtain ⟨rfl,_⟩:=h3 hp
  refine run_convert_bytes_arg (P:=P) w src e hs he b o _ k l rfl (fun i hi=>?_) dst hd
  have hg:(l.map fun n=>[AV.ik .u8 n])[i]?=some [AV.ik .u8 l[i]]:=by simp [hi]
  have q4:=h4 i _ hg
  have q6:=h6 i _ hg
  have q5:=h5 i _ hg
  have:us i=[.int .u8 l[i]]:=by
   generalize us i=u at q6
   cases q6 with|cons h t=>cases t with|nil=>cases h with|ik=>rfl
  rw [this] at q4 q5
  have hs1:sz=1:=by simpa using q4.symm
  subst hs1
  have:=q5 0 _ rfl
  simpa [List.getD,hi] using this
theorem Post.bytes {c:Ctx} {w:World} (hphi:∀b,c.Φ b→b < w.heap.size) (e:TypeId) (s:ByteArray):Post c w { c with Φ:=fun b=>c.Φ b∨b=w.heap.size } (Lib.bytesWorld w e s) [] [] []:=by
 have hsz:=Lib.bytesWorld_size w e s
 refine ⟨rfl,rfl,rfl,by omega,fun b hb=>.inl hb,fun b hb=>hb.imp (fun h=>h) (fun h=>.inl (by omega)),fun b hb _=>Lib.bytesWorld_at_old w e s b hb,fun _ _=>⟨rfl,rfl⟩,⟨fun _ _ h=>(by cases h),fun _ _ _ h=>(by cases h),fun _ _ _ _ _ _ h=>(by cases h),fun b hb=>?_⟩,fun _ _ _ h=>(by cases h)⟩
 rcases hb with hb|rfl
 ·have:=hphi b hb; omega
 ·omega
theorem cT0 {c:Ctx} {w:World} (e:TypeId) (s:ByteArray) (hs:s.size≤maxLen) (hc:grownCap w s.size 0 e≤maxLen):Rd { c with Φ:=fun b=>c.Φ b∨b=w.heap.size } (Lib.bytesWorld w e s) (.slice (some ⟨w.heap.size,0,none⟩) s.size (grownCap w s.size 0 e)) (.sl 1 ((aI0 s).map fun n=>[AV.ik .u8 n])):=by
 have hl:((aI0 s).map fun n=>[AV.ik .u8 n]).length=s.size:=by
  simp only [aI0,List.length_map,Array.length_toList]
  rfl
 have at_:∀(i:Nat) (cs:List AV),((aI0 s).map fun n=>[AV.ik .u8 n])[i]?=some cs→i < s.size∧cs=[AV.ik .u8 ((s.data.toList.getD i 0).toNat:Int)]:=fun i cs h=>by
  have hi:=(List.getElem?_eq_some_iff.1 h).1
  rw [hl] at hi
  refine ⟨hi,?_⟩
  have hi2:i < s.data.toList.length:=by rw [Array.length_toList]; exact hi
  simp only [aI0,List.map_map,List.getElem?_map,List.getElem?_eq_getElem hi2,Option.map_some,Option.some.injEq] at h
  rw [←h,List.getD_eq_getElem?_getD,List.getElem?_eq_getElem hi2]
  rfl
 have key:=Rf.sl (Φ:=fun b=>c.Φ b∨b=w.heap.size) (w:=Lib.bytesWorld w e s) (A:=some ⟨w.heap.size,0,none⟩) (c:=grownCap w s.size 0 e) (sz:=1) (ls:=(aI0 s).map fun n=>[AV.ik .u8 n])
  (fun i=>[.int .u8 ((s.data.toList.getD i 0).toNat:Int)]) w.heap.size 0 (by rw [hl]; exact grownCap_ge w s.size 0 e) hc (fun _=>⟨rfl,.inr rfl⟩) (fun i cs h=>rfl) (fun i cs h j u hj=>by
   obtain ⟨hi,_⟩:=at_ i cs h
   match j,hj with
   |0,hj =>
    simp only [List.getElem?_cons_zero,Option.some.injEq] at hj
    subst hj
    simpa using Lib.bytesWorld_cell w e s i hi) (fun i cs h=>by
   obtain ⟨_,rfl⟩:=at_ i cs h
   exact .cons (.ik _ _) .nil) (fun i cs h u hu=>by
   simp only [List.mem_singleton] at hu
   subst hu
   rfl)
 rw [hl] at key
 exact .fz key
def cF8 (tab:Q6) (src dst:TypeId) (x:AV) (K:Kt):Prop :=
 match lk tab src,lk tab dst with
 |some tsr,some td=>match td.kind,td.ik,x with
  |5,.i64,.int n=>K (.int n) [] [] []
  |5,.i64,.ik _ n=>Z8 n∧K (.int n) [] [] []
  |5,.u64,.int n=>0≤n∧K (.ik .u64 n) [] [] []
  |4,_,.str s=>K (.str s) [] [] []
  |4,_,.sl _ ls=>match bX2 tab tsr with
   |true=>∃l:List Int,ls=l.map (fun n=>[AV.ik .u8 n])∧K (.str (strOfNums l)) [] [] []
   |false=>False
  |2,_,.str s=>match bX2 tab td with
   |true=>K (.sl 1 ((aI0 s).map fun n=>[AV.ik .u8 n])) [] [] []
   |false=>False
  |_,_,_=>False
 |_,_=>False
theorem cY4 (hT:O3 P tab) {src dst:TypeId} {x:Operand} (ho:o.op=.convert src dst x) (h:cF8 tab src dst (ev x) K):U8 P o ev os K:=by
 unfold cF8 at h
 split at h
 ·rename_i tsr td hs hd
  obtain ⟨ds,hds,_⟩:=(hT src _ hs).und
  split at h
  ·rename_i n hk hik hx
   have hu:=(hT dst _ hd).int_ hk
   rw [hik] at hu
   refine .pure (fun c w ρ hr=>?_) h
   have r1:=hr x (by simp [ho,Op.operands])
   rw [hx] at r1
   exact ⟨_,by simp [execOp,ho,convert,run_underlying hds,run_underlying hu,r1.int_.1,Conv.intToInt,IntWalk.i64_in _ r1.int_.2],.fz (.int r1.int_.2)⟩
  ·rename_i k n hk hik hx
   have hu:=(hT dst _ hd).int_ hk
   rw [hik] at hu
   refine .pure (fun c w ρ hr=>?_) h.2
   have r1:=hr x (by simp [ho,Op.operands])
   rw [hx] at r1
   exact ⟨_,by simp [execOp,ho,convert,run_underlying hds,run_underlying hu,r1.ik_,Conv.intToInt,IntWalk.i64_in _ h.1],.fz (.int h.1)⟩
  ·rename_i n hk hik hx
   have hu:=(hT dst _ hd).int_ hk
   rw [hik] at hu
   refine .pure (fun c w ρ hr=>?_) h.2
   have r1:=hr x (by simp [ho,Op.operands])
   rw [hx] at r1
   have h2:=r1.int_.2
   have hw:IntKind.u64.wrap n=n:=by
    unfold Z8 at h2
    have h0:=h.1
    simp [IntKind.wrap,IntKind.bits,IntKind.signed]
    omega
   exact ⟨_,by simp [execOp,ho,convert,run_underlying hds,run_underlying hu,r1.int_.1,Conv.intToInt,hw],.fz (.ik _ _)⟩
  ·rename_i s hk hx
   have hu:=(hT dst _ hd).string_ hk
   refine .pure (fun c w ρ hr=>?_) h
   have r1:=hr x (by simp [ho,Op.operands])
   rw [hx] at r1
   exact ⟨.string s,by simp [execOp,ho,convert,run_underlying hds,run_underlying hu,r1.str_.1],.fz (.str r1.str_.2)⟩
  ·rename_i sz ls hk hx
   have hu:=(hT dst _ hd).string_ hk
   split at h
   case h_2=>exact h.elim
   rename_i h8
   obtain ⟨l,rfl,h⟩:=h
   obtain ⟨u1,u2⟩:=bX2.und hT (hT src _ hs) h8
   refine .pure (fun c w ρ hr=>?_) h
   have r1:=hr x (by simp [ho,Op.operands])
   rw [hx] at r1
   obtain ⟨e1,e2⟩:=b34 (P:=P) u1 u2 hu r1
   exact ⟨_,by simp [execOp,ho,e1],.fz (.str e2)⟩
  ·rename_i s hk hx
   split at h
   case h_2=>exact h.elim
   rename_i h8
   obtain ⟨u1,u2⟩:=bX2.und hT (hT dst _ hd) h8
   refine fun _=>⟨_,[],[],[],fun c w ρ hok hr=>?_,fun _ _ h=>(by cases h),fun id hid=>(by cases hid),h⟩
   have r1:=hr x (by simp [ho,Op.operands])
   rw [hx] at r1
   have e1:=Lib.run_convert_string_bytes (P:=P) w src dst td.elem s hds u1 u2
   have hex:(execOp ρ o).run P w=.ok (.value (.slice (some ⟨w.heap.size,0,none⟩) s.size (grownCap w s.size 0 td.elem))) (Lib.bytesWorld w td.elem s):=by
    simp [execOp,ho,r1.str_.1,e1]
   rw [hex]
   exact ⟨_,Post.bytes hok.phi td.elem s,cT0 td.elem s r1.str_.2 (grownCap_le_maxLen w s.size 0 td.elem r1.str_.2)⟩
  ·exact h.elim
 ·exact h.elim
def callable (P:Program) (f:Nat):Bool :=
 match P.funcs[f]? with
 | some fn => fn.body.isSome && !(fn.name == "runtime.NumGoroutine")
 |none=>false
def Spec (P:Program) (f:Nat) (need:Os) (ins:List AV) (av:AV) (upd:Os) (news:List Nat):Prop :=
 callable P f=true∧(∀id∈news,(lk upd id).isSome=true)∧∀(c:Ctx) (w:World) (args:Array Value),P9 c w need→F6 c w args.toList ins →
  Calls P f args w fun e w'=>∃v c',e=.returned v∧Post c w c' w' need upd news∧Rd c' w' v av
def fzC (os:Os):List AV→List AV×Os
 |[]=>([],[])
 |.own id::l=>match lk os id with
  |some (.row sz ls e)=>(.sl sz ls::(fzC os l).1,(id,.row sz ls e)::(fzC os l).2)
  |_=>(.own id::(fzC os l).1,(fzC os l).2)
 |.nst id::l=>match lk os id with
  |some (.nest sz e isz ie z)=>(.sl sz (aF6 isz z)::(fzC os l).1,(id,.nest sz e isz ie z)::(fzC os l).2)
  |_=>(.nst id::(fzC os l).1,(fzC os l).2)
 |a::l=>(a::(fzC os l).1,(fzC os l).2)
def Y3 (os:Os):List AV→List AV×Os
 |[]=>([],[])
 |.own id::l=>match lk os id with
  |some (.row sz ls e)=>(.sl sz ls::(Y3 os l).1,(id,.row sz ls e)::(Y3 os l).2)
  |_=>(.own id::(Y3 os l).1,(Y3 os l).2)
 |.nst id::l=>match lk os id with
  |some (.nest sz e isz ie z)=>(.sl sz (aF6 isz z)::(Y3 os l).1,(id,.nest sz e isz ie z)::(Y3 os l).2)
  |_=>(.nst id::(Y3 os l).1,(Y3 os l).2)
 |.agg cs::l=>(.agg (fzC os cs).1::(Y3 os l).1,(fzC os cs).2++(Y3 os l).2)
 |a::l=>(a::(Y3 os l).1,(Y3 os l).2)
structure aS5 (os:Os) (as r:List AV) (g:Os):Prop where
 sub:∀id o,lk g id=some o→lk os id=some o
 ids:∀id o,lk g id=some o→o.ids=[]
 run:∀(c:Ctx) (w:World) (us:List Value),P9 c w g→F6 c w us as→F6 (c.fz g) w us r
theorem Rd.fzmono {c:Ctx} {w:World} {g g':Os} (h:∀id o,lk g id=some o→lk g' id=some o) {v:Value} {a:AV} (hr:Rd (c.fz g) w v a):Rd (c.fz g') w v a :=
 Rd.mono (c:=c.fz g) (c':=c.fz g') (fun _ _=>rfl) (bN6 (c:=c) h) (fun _ _=>⟨rfl,rfl⟩) hr
theorem F6.fzmono {c:Ctx} {w:World} {g g':Os} (h:∀id o,lk g id=some o→lk g' id=some o) {v:List Value} {a:List AV} (hr:F6 (c.fz g) w v a):F6 (c.fz g') w v a :=
 F6.mono (c:=c.fz g) (c':=c.fz g') (fun _ _=>rfl) (bN6 (c:=c) h) (fun _ _=>⟨rfl,rfl⟩) hr
theorem Rd.fz0 {c:Ctx} {w:World} (g:Os) {v:Value} {a:AV} (hr:Rd c w v a):Rd (c.fz g) w v a :=
 Rd.mono (c:=c) (c':=c.fz g) (fun _ _=>rfl) (fun _ h=>Or.inl h) (fun _ _=>⟨rfl,rfl⟩) hr
theorem bE5 {c:Ctx} {w:World} {g:Os} {id sz e:Nat} {ls:List (List AV)} {v:Value} (hok:P9 c w g) (hg:lk g id=some (.row sz ls e)) (hr:Rd c w v (.own id)):Rd (c.fz g) w v (.sl sz ls):=by
 obtain ⟨css,q1,q2,q3⟩:=hok.rep id _ hg
 obtain ⟨A,n,cap,e1,e2,_⟩:=hr.own_
 refine .fz ?_
 rw [e1,←e2]
 exact q1.rf q2 q3 (fun b hb=>.inl hb) fun b hb=>.inr ⟨id,_,hg,hb⟩
theorem aS5.cons' {id:Nat} {a b:AV} {o:Obj} {l r:List AV} {g:Os} (hid:lk os id=some o) (ho:o.ids=[]) (hrun:∀(c:Ctx) (w:World) (v:Value) (g:Os),P9 c w g→lk g id=some o→Rd c w v a→Rd (c.fz g) w v b) (H:aS5 os l r g):aS5 os (a::l) (b::r) ((id,o)::g):=by
 have hs:∀i x,lk ((id,o)::g) i=some x→lk os i=some x:=fun i x h=>by
  rw [y7] at h
  split at h
  ·rename_i e1; subst e1; cases h; exact hid
  ·exact H.sub i x h
 refine ⟨hs,fun i x h=>?_,fun c w us hok h=>?_⟩
 ·rw [y7] at h
  split at h
  ·cases h; exact ho
  ·exact H.ids i x h
 ·cases h with|cons h t =>
   have hsub:∀i x,lk g i=some x→lk ((id,o)::g) i=some x:=fun i x hi=>by
    rw [y7]
    split
    ·rename_i e1
     subst e1
     rw [←hid,H.sub _ _ hi]
    ·exact hi
   exact .cons (hrun c w _ _ hok (p9 _ _ _) h) ((H.run c w _ (hok.sub hsub) t).fzmono hsub)
theorem aS5.cons {id sz e:Nat} {ls:List (List AV)} {l r:List AV} {g:Os} (hid:lk os id=some (.row sz ls e)) (H:aS5 os l r g):aS5 os (.own id::l) (.sl sz ls::r) ((id,.row sz ls e)::g) :=
 .cons' hid rfl (fun c w v g hok hg h=>bE5 hok hg h) H
theorem O6.rf {Φ Φ':Nat→Prop} {w:World} {hdv:Value} {sz e:Nat} {ls:List (List AV)} (h:O6 Φ w hdv sz ls e) (hΦ:∀b,Φ b→Φ' b) (hb:∀b,hdv.ownBlock=some b→Φ' b):Rf Φ' w hdv (.sl sz ls):=by
 obtain ⟨css,q1,q2,q3⟩:=h
 exact q1.rf q2 q3 hΦ hb
theorem J4.unsnoc {Φ:Nat→Prop} {w:World}:∀{us:List Value} {as:List AV} {a:AV},J4 Φ w us (as++[a])→∃us' v,us=us'++[v]∧J4 Φ w us' as∧Rf Φ w v a
 |_,[],_,.cons h .nil=>⟨[],_,rfl,.nil,h⟩
 |_,_::as,a,.cons h t=>by
  obtain ⟨us',v,e1,h1,h2⟩:=J4.unsnoc (as:=as) (a:=a) t
  exact ⟨_::us',v,by rw [e1]; rfl,.cons h h1,h2⟩
theorem cO1 {c:Ctx} {w:World} {g:Os} {id sz e isz ie:Nat} {l:List (List AV×List (List AV))} {v:Value} (hok:P9 c w g) (hg:lk g id=some (.nest sz e isz ie l)) (hr:Rd c w v (.nst id)):Rd (c.fz g) w v (.sl sz (aF6 isz l)):=by
 obtain ⟨h,z,e0,e1,⟨css,q1,q2,q3⟩,r3,r4⟩:=hok.rep id _ hg
 obtain ⟨A,n,cap,vs,e2,e3,_⟩:=hr.nst_
 have hev:v=h.v:=by
  rw [e0] at e3
  have:h.v::z.map (·.1.v)=Value.slice A n cap::vs:=by simpa using e3
  rw [e2]
  exact (List.cons.inj this).1.symm
 have hin:∀x∈aJ1 (c.hd id),∀b,x.ownBlock=some b→fzΦ c g b:=fun x hx b hb=>.inr ⟨id,_,hg,x,hx,hb⟩
 rw [e0] at hin
 subst e1
 refine .fz ?_
 rw [hev]
 refine q1.rf (Φ:=fzΦ c g) (by simpa [D6,aF6] using q2) (fun i us cs hu hc=>?_) (fun _ h=>h) fun b hb=>hin h.v (by simp [aJ1]) b hb
 simp only [aF6,List.map_map,List.getElem?_map,Option.map_eq_some_iff] at hc
 obtain ⟨p,hp,rfl⟩:=hc
 have:=q3 i us (p.2.1++[.con p.1.v]) hu (by simp [D6,hp])
 obtain ⟨us',v',rfl,k1,k2⟩:=this.unsnoc
 have hv':v'=p.1.v:=by cases k2; rfl
 subst hv'
 have hpm:=List.mem_of_getElem? hp
 exact (J4.mono (fun _ _=>rfl) (fun b hb=>.inl hb) k1).append (.cons ((r3.1 (p.1,p.2.2) (List.mem_map.2 ⟨p,hpm,rfl⟩)).rf (fun b hb=>.inl hb) fun b hb=>hin p.1.v (by show _∈(h.v::z.map (·.1.v)).toArray.toList; exact List.mem_cons_of_mem _ (List.mem_map.2 ⟨p,hpm,rfl⟩)) b hb) .nil)
theorem aS5.skip {a:AV} {l r:List AV} {g:Os} (H:aS5 os l r g):aS5 os (a::l) (a::r) g :=
 ⟨H.sub,H.ids,fun c w us hok h=>by cases h with|cons h t=>exact .cons (h.fz0 g) (H.run c w _ hok t)⟩
theorem c36 : ∀as:List AV,aS5 os as (fzC os as).1 (fzC os as).2:=by
 intro as
 fun_induction fzC os as with
 |case1=>exact ⟨fun _ _ h=>(by cases h),fun _ _ h=>(by cases h),fun c w us _ h=>by cases h; exact .nil⟩
 |case2 id l sz ls e hid ih=>exact .cons hid ih
 |case3 id l hid ih=>exact .skip ih
 |case4 id l sz e isz ie z hid ih=>exact .cons' hid rfl (fun c w v g hok hg h=>cO1 hok hg h) ih
 |case5 id l hid ih=>exact .skip ih
 |case6 a l hne hne2 ih=>exact .skip ih
theorem b81 : ∀as:List AV,aS5 os as (Y3 os as).1 (Y3 os as).2:=by
 intro as
 fun_induction Y3 os as with
 |case1=>exact ⟨fun _ _ h=>(by cases h),fun _ _ h=>(by cases h),fun c w us _ h=>by cases h; exact .nil⟩
 |case2 id l sz ls e hid ih=>exact .cons hid ih
 |case3 id l hid ih=>exact .skip ih
 |case4 id l sz e isz ie z hid ih=>exact .cons' hid rfl (fun c w v g hok hg h=>cO1 hok hg h) ih
 |case5 id l hid ih=>exact .skip ih
 |case6 cs l ih =>
  have C:=c36 (os:=os) cs
  obtain ⟨s1,s2,s3⟩:=aW1 C.sub ih.sub
  refine ⟨s1,fun id o h=>?_,fun c w us hok h=>?_⟩
  ·rw [L9] at h
   cases hg:lk (fzC os cs).2 id with
   |some x=>rw [hg] at h; simp at h; subst h; exact C.ids id x hg
   |none=>rw [hg] at h; simp at h; exact ih.ids id o h
  ·cases h with|cons h t =>
    obtain ⟨vs,rfl,hv⟩:=h.agg_
    exact .cons (.agg ((C.run c w _ (hok.sub s3) hv).fzmono s3)) ((ih.run c w _ (hok.sub s2) t).fzmono s2)
 |case7 a l h1 h2 h3 ih=>exact .skip ih
def leB : AV→AV→Prop
 |.agg cs,.agg ds=>bD8 cs ds
 |a,b=>leC a b
def cL7 : List AV→List AV→Prop
 |[],[]=>True
 |a::as,b::bs=>leB a b∧cL7 as bs
 |_,_=>False
def leA : AV→AV→Prop
 |.agg cs,.agg ds=>bD8 cs ds
 |.tup cs,.tup ds=>cL7 cs ds
 |.nilp,.np _=>True
 |a,b=>leC a b
def aJ4 : List AV→List AV→Prop
 |[],[]=>True
 |a::as,b::bs=>leA a b∧aJ4 as bs
 |_,_=>False
theorem cE5 {c:Ctx} {w:World} {v:Value} {a b:AV} (h:leC a b) (hr:Rd c w v a):Rd c w v b:=by
 unfold leC at h
 split at h
 ·exact Rd.any_ v
 ·rename_i sz ls
  subst h
  rw [hr.nilsl_]
  exact .fz (.sl (ls:=[]) (fun _=>[]) 0 0 (Nat.le_refl _) (by simp [maxLen]) (fun h=>absurd h (by simp)) (fun i cs h=>by simp at h) (fun i cs h=>by simp at h) (fun i cs h=>by simp at h) (fun i cs h=>by simp at h))
 ·exact h▸hr
theorem bV9 {c:Ctx} {w:World}:∀{us:List Value} {as bs:List AV},bD8 as bs→F6 c w us as→F6 c w us bs
 |_,[],[],_,.nil=>.nil
 |_,_::_,_::_,h,.cons x t=>.cons (cE5 h.1 x) (bV9 h.2 t)
theorem c65 {c:Ctx} {w:World} {v:Value} {a b:AV} (h:leB a b) (hr:Rd c w v a):Rd c w v b:=by
 unfold leB at h
 split at h
 ·obtain ⟨us,rfl,hu⟩:=hr.agg_
  exact .agg (bV9 h hu)
 ·exact cE5 h hr
theorem cD5 {c:Ctx} {w:World}:∀{us:List Value} {xs bs:List AV},cL7 xs bs→F6 c w us xs→F6 c w us bs
 |_,[],[],_,.nil=>.nil
 |_,_::_,_::_,h,.cons x t=>.cons (c65 h.1 x) (cD5 h.2 t)
theorem cG8 {c:Ctx} {w:World} {v:Value} {a b:AV} (h:leA a b) (hr:Rd c w v a):Rd c w v b:=by
 unfold leA at h
 split at h
 ·obtain ⟨us,rfl,hu⟩:=hr.agg_
  exact .agg (bV9 h hu)
 ·obtain ⟨us,rfl,hu⟩:=hr.tup_
  exact .tup (cD5 h hu)
 ·rw [hr.nilp_]
  exact .npn
 ·exact cE5 h hr
theorem bE0 {c:Ctx} {w:World}:∀{us:List Value} {as bs:List AV},aJ4 as bs→F6 c w us as→F6 c w us bs
 |_,[],[],_,.nil=>.nil
 |_,_::_,_::_,h,.cons x t=>.cons (cG8 h.1 x) (bE0 h.2 t)
end
end Go.Proofs.YtibjcppjfkamhaaGreatDoor
namespace Go.Proofs.YtibjcppjfkamhaaGreatDoor
open Go.RowKit
set_option linter.unusedVariables false
def bU6 (all:Os):Os→Option (Nat×Nat×Value×Obj)
 |[]=>none
 |(k,.eqv j v)::r=>match lk all k,lk all j with
  |some (.eqv j2 v2),some (.row sz ls e)=>match Nat.beq j j2 with
   |true=>some (k,j,v2,.row sz ls e)
   |false=>bU6 all r
  |_,_=>bU6 all r
 |_::r=>bU6 all r
theorem cJ9 {all:Os}:∀{l:Os} {k j:Nat} {v:Value} {o:Obj},bU6 all l=some (k,j,v,o)→lk all k=some (.eqv j v)∧lk all j=some o∧∃sz ls e,o=.row sz ls e:=by
 intro l
 fun_induction bU6 all l with
 |case1=>intro k j v o h; cases h
 |case2 k j v r j2 v2 sz ls e h1 h2 hb =>
  intro k' j' v' o h
  cases h
  obtain rfl:=Nat.eq_of_beq_eq_true hb
  exact ⟨h2,h1,_,_,_,rfl⟩
 |case3 k j v r j2 v2 sz ls e h1 h2 hb ih=>exact ih
 |case4 k j v r hn ih=>exact ih
 |case5 p r hn ih=>exact ih
def cQ8 (os:Os) (K:Kt):Kt:=fun av rd nw up =>
 match av with
 |.con v=>match bU6 os os with
  |some (k,j,v',_)=>match nw,up with
   |[],[]=>v=v'∧K (.own j) (rd++[k,j]) [] []
   |_,_=>False
  |none=>K (.con v) rd nw up
 |a=>K a rd nw up
section
variable {P:Program} {tab:Q6} {et:aG9} {o:Oper} {ev:Ev} {os:Os} {K:Kt}
theorem Goes.mono {r:Result Next} {R S:Value→World→Prop} (h:Goes P r R) (hRS:∀v w,R v w→S v w):Goes P r S:=by
 unfold Goes at h ⊢
 split at h
 ·exact hRS _ _ h
 ·exact hRS _ _ h
 ·exact h.mono fun e w' ⟨v,h1,h2⟩=>⟨v,h1,hRS _ _ h2⟩
 ·exact h
theorem U8.res (h:U8 P o ev os (cQ8 os K)):U8 P o ev os K:=by
 intro hi
 obtain ⟨av,need,upd,news,htri,hneed,hnews,hK⟩:=h hi
 unfold cQ8 at hK
 split at hK
 ·rename_i v
  split at hK
  ·rename_i k j v' x hf
   split at hK
   case h_2=>exact hK.elim
   obtain ⟨rfl,hK⟩:=hK
   obtain ⟨f1,f2,sz,ls,e,rfl⟩:=cJ9 hf
   have hsub2:∀id ob,lk [(k,Obj.eqv j v),(j,.row sz ls e)] id=some ob→lk os id=some ob:=fun id ob hl=>by
    rw [y7] at hl
    split at hl
    ·rename_i e1; cases hl; rw [←e1]; exact f1
    ·exact aH7 hl f2
   obtain ⟨s1,s2,s3⟩:=aW1 hneed hsub2
   have hl1:lk (need++[(k,Obj.eqv j v),(j,.row sz ls e)]) k=some (.eqv j v):=by
    rw [L9]
    cases hq:lk need k with
    |none=>rw [p9]; rfl
    |some y=>have:=(hneed k y hq).symm.trans f1; simpa using this
   have hl2:lk (need++[(k,Obj.eqv j v),(j,.row sz ls e)]) j=some (.row sz ls e):=by
    rw [L9]
    cases hq:lk need j with
    |none =>
     rw [Option.none_or,y7]
     split
     ·rename_i e1
      subst e1
      rw [f1] at f2
      cases f2
     ·exact p9 _ _ _
    |some y=>have:=(hneed j y hq).symm.trans f2; simpa using this
   refine ⟨.own j,need++[(k,.eqv j v),(j,.row sz ls e)],[],[],fun c w ρ hok hr=>?_,s1,hnews,by simpa using hK⟩
   have hgo:=htri c w ρ (hok.sub s3) hr
   refine Goes.mono hgo fun u w' ⟨c',hp,hv⟩=>⟨c',hp.widen s3,?_⟩
   have e1:c.hd j=v:=hok.rep k _ hl1
   obtain ⟨css,q1,q2,q3⟩:=hok.rep j _ hl2
   obtain ⟨A,cap,g1,g2,g3⟩:=q1.head
   rw [hv.con_,←e1,g1]
   exact .own (((hp.ctx j (by simp)).2).trans g1) g2 g3
  ·exact ⟨_,need,_,_,htri,hneed,hnews,hK⟩
 ·exact ⟨_,need,_,_,htri,hneed,hnews,hK⟩
def bX3 (tab:Q6) (os:Os) (t:TypeId) (x y:AV) (K:Kt):Prop :=
 match x,y with
 |.ep id i sz off,.own z=>match lk os id,lk tab t with
  |some (.row sz' ls e),some ti=>match Nat.beq sz sz',Nat.beq 1 ti.size with
   |true,true=>i < ls.length∧(∀cs,ls[i]?=some cs→off < cs.length)∧K .any [id] [] [(id,.rowx sz' ls e i off z)]
   |_,_=>False
  |_,_=>False
 |_,_=>bM1 tab os t x y K
theorem cR4 {β:Type} {off:Nat} {a:β} {cs:List β} (h:off < cs.length):U6 off [a] cs=some (cs.set off a):=by
 obtain ⟨r,hr⟩:=aN3 off [a] cs (by simp; omega)
 rw [hr]
 congr 1
 apply List.ext_getElem?
 intro j
 rw [U7 hr j,List.getElem?_set]
 by_cases e:off=j
 ·subst e
  rw [if_pos (by simp),if_pos rfl,if_pos h]
  simp
 ·rw [if_neg (by simp; omega),if_neg e]
theorem cN0 (hT:O3 P tab) {t:TypeId} {x y:Operand} (ho:o.op=.store t x y) (h:bX3 tab os t (ev x) (ev y) K):U8 P o ev os K:=by
 unfold bX3 at h
 split at h
 ·rename_i id i sz off z hx hy
  split at h
  ·rename_i sz' ls e ti hid hti
   split at h
   ·rename_i hb1 hb2
    obtain rfl:=Nat.eq_of_beq_eq_true hb1
    have hsz:=Nat.eq_of_beq_eq_true hb2
    obtain ⟨h1,h2,h3⟩:=h
    have hcs:ls[i]?=some ls[i]:=List.getElem?_eq_getElem h1
    refine fun _=>⟨.any,[(id,.row sz ls e)],[(id,.rowx sz ls e i off z)],[],fun c w ρ hok hr=>?_,fun k ob hl=>aH7 hl hid,fun _ h=>(by cases h),h3⟩
    have ry:=hr y (by simp [ho,Op.operands])
    rw [hy] at ry
    obtain ⟨A,n,cap,e1,e2,e3,e4⟩:=ry.own_
    have hne:x≠y:=fun e5=>by rw [e5,hy] at hx; cases hx
    have hst:bM1 tab [(id,.row sz ls e)] t (.ep id i sz off) (.con (.slice A n cap)) fun av rd nw up=>av=.any∧rd=[id]∧nw=[]∧up=[(id,.row sz (aW4 ls i off (.con (.slice A n cap))) e)]:=by
     unfold bM1
     simp only [hti]
     have hc:(AV.con (.slice A n cap)).cells?=some [.con (.slice A n cap)]:=rfl
     simp only [hc,List.length_singleton,hb2,p9,AV.idss,AV.ids,List.append_nil,Nat.beq_refl]
     refine ⟨h1,fun cs hc=>?_⟩
     rw [hcs] at hc
     cases hc
     rw [cR4 (h2 _ hcs)]
     refine ⟨_,y9 _,?_⟩
     exact ⟨trivial,trivial,trivial,by unfold aW4; rw [hcs]⟩
    classical
    let ev':Ev:=fun u=>if u=y then .con (.slice A n cap) else ev u
    have evx:ev' x=.ep id i sz off:=by show (if x=y then _ else _)=_; rw [if_neg hne,hx]
    have evy:ev' y=.con (.slice A n cap):=if_pos rfl
    have hr':∀u∈o.op.operands.toList,Rd c w (ρ u) (ev' u):=fun u hu=>by
     show Rd c w (ρ u) (if u=y then _ else _)
     split
     ·rename_i e5; rw [e5,e1]; exact .fz (.con _)
     ·exact hr u hu
    obtain ⟨av,need,upd,news,htri,hneed,_,rfl,hrd,rfl,rfl⟩:=cC5 hT ho (ev:=ev') (by rw [evx,evy]; exact hst) ⟨c,w,ρ,hok,hr'⟩
    have hnd:∀k ob,lk need k=some ob→lk [(id,Obj.row sz ls e)] k=some ob:=hneed
    refine Goes.mono (htri c w ρ (hok.sub hnd) hr') fun v w' ⟨c',hp,_⟩=>⟨c',?_,Rd.any_ _⟩
    have hp:=hp.widen hnd
    have hkeys:∀k,(lk [(id,Obj.rowx sz ls e i off z)] k).isSome=(lk [(id,Obj.row sz (aW4 ls i off (.con (.slice A n cap))) e)] k).isSome:=fun k=>by rw [y7,y7]; split<;>rfl
    have htch:∀b,Touch c [(id,.row sz ls e)] [(id,.row sz (aW4 ls i off (.con (.slice A n cap))) e)] b↔Touch c [(id,.row sz ls e)] [(id,.rowx sz ls e i off z)] b:=fun b=>by
     unfold Touch
     simp only [hkeys]
    have hup:∀k ob,lk [(id,Obj.rowx sz ls e i off z)] k=some ob→k=id∧ob=.rowx sz ls e i off z:=fun k ob hl=>by
     rw [y7] at hl
     split at hl
     ·rename_i e5; cases hl; exact ⟨e5.symm,rfl⟩
     ·cases hl
    have hl0:=p9 id (Obj.row sz (aW4 ls i off (.con (.slice A n cap))) e) []
    refine ⟨hp.wos,hp.tape,hp.output,hp.size,hp.phi,fun b hb=>(hp.phiNew b hb).imp (fun h=>h) (.imp (fun h=>h) (htch b).1),fun b hb hn=>hp.keep b hb fun h=>hn ((htch b).1 h),hp.ctx,⟨fun k ob hl=>?_,fun k ob b hl hf=>?_,fun k k' ob ob' b hd hl hl'=>?_,hp.hok.phi⟩,fun k ob b hl hf=>?_⟩
    ·obtain ⟨rfl,rfl⟩:=hup k ob hl
     exact ⟨.slice A n cap,.own (((hp.ctx z (by simp)).2).trans e2) e3 e4,hp.hok.rep k _ hl0⟩
    ·obtain ⟨rfl,rfl⟩:=hup k ob hl
     exact hp.hok.lt k _ b hl0 hf
    ·obtain ⟨rfl,rfl⟩:=hup k ob hl
     obtain ⟨rfl,rfl⟩:=hup k' ob' hl'
     exact absurd rfl hd
    ·obtain ⟨rfl,rfl⟩:=hup k ob hl
     exact (hp.feet k _ b hl0 hf).imp (fun h=>h) (htch b).1
   ·exact h.elim
  ·exact h.elim
 ·exact cC5 hT ho h
end
end Go.Proofs.YtibjcppjfkamhaaGreatDoor
namespace Go.Proofs.YtibjcppjfkamhaaGreatDoor
open Go.RowKit
set_option linter.unusedVariables false
theorem aD8 {t0 t:Nat} {x y:Obj} (h:lk [(t0,x)] t=some y):t=t0∧y=x:=by
 rw [y7] at h
 split at h
 ·rename_i e; cases h; exact ⟨e.symm,rfl⟩
 ·cases h
def bU1 : AV→AV→Option Bool
 |.int a,.int b=>some (decide (a=b))
 |.str a,.str b=>some (decide (a=b))
 |_,_=>none
def bE9 : AV→List (AV×AV)→Nat→Option (Option (Nat×AV))
 |_,[],_=>some none
 |k,(k',v)::l,i=>match bU1 k k' with
  |some true=>some (some (i,v))
  |some false=>bE9 k l (i+1)
  |none=>none
def b51 (n:Nat):AV→Bool
 |.int _=>Nat.beq n 5
 |.str _=>Nat.beq n 4
 |_=>false
section
variable {P:Program} {tab:Q6} {o:Oper} {ev:Ev} {os:Os} {K:Kt}
theorem bQ9 {Φ:Nat→Prop} {w:World} {d:TypeDesc} {kv:Value} {k:AV} (hd:(∃n,k=.int n∧∃q,d=.int q)∨(∃s,k=.str s∧d=.string)) (hk:Rf Φ w kv k):∀{es:List MapEntry} {l:List (AV×AV)} (i:Nat) {r:Option (Nat×AV)},
  aI3 Φ w es l→bE9 k l i=some r→(r=none∧Instr.findNow d kv es i=some none)∨∃j v e,r=some (j,v)∧i≤j∧es[j - i]?=some e∧Instr.findNow d kv es i=some (some (j,e.val))∧Rf Φ w e.val v∧e.key=kv
 |_,_,i,r,.nil,h=>by
  simp only [bE9,Option.some.injEq] at h
  exact .inl ⟨h.symm,rfl⟩
 |_,_,i,r,.cons (e:=e) (k:=k') (v:=v') (es:=es) (l:=l) h1 h2 t,h=>by
  rw [bE9] at h
  have same:∀b,bU1 k k'=some b→Instr.sameNow d kv e.key=some b∧(b=true→e.key=kv):=by
   intro b hb
   rcases hd with ⟨n,rfl,q,rfl⟩|⟨s,rfl,rfl⟩
   ·cases k'<;>simp only [bU1] at hb<;>try cases hb
    rename_i m
    cases hk with|int hk =>
    have e1:e.key=.int .i64 m:=by
     generalize e.key=x at h1
     cases h1; rfl
    rw [e1]
    refine ⟨?_,fun hh=>by have:=of_decide_eq_true hh; rw [this]⟩
    simp only [Instr.sameNow,if_true]
    by_cases hnm:n=m<;>simp [hnm]
   ·cases k'<;>simp only [bU1] at hb<;>try cases hb
    rename_i m
    cases hk with|str hk =>
    have e1:e.key=.string m:=by
     generalize e.key=x at h1
     cases h1; rfl
    rw [e1]
    refine ⟨?_,fun hh=>by have:=of_decide_eq_true hh; rw [this]⟩
    simp only [Instr.sameNow]
    have hb:=MapKept.bytes_beq s m
    by_cases hnm:s=m
    ·rw [hb.2 hnm]; simp [hnm]
    ·cases hq:s == m
     ·simp [hnm]
     ·exact absurd (hb.1 hq) hnm
  cases hq:bU1 k k' with
  |none=>rw [hq] at h; cases h
  |some b =>
   obtain ⟨s1,s2⟩:=same b hq
   rw [hq] at h
   cases b with
   |true =>
    simp only [Option.some.injEq] at h
    exact .inr ⟨i,v',e,h.symm,Nat.le_refl _,by simp,by simp [Instr.findNow,s1],h2,s2 rfl⟩
   |false =>
    simp only at h
    rcases bQ9 hd hk (i+1) t h with ⟨a1,a2⟩|⟨j,v,e',a1,a2,a3,a4,a5,a6⟩
    ·exact .inl ⟨a1,by simp [Instr.findNow,s1,a2]⟩
    ·refine .inr ⟨j,v,e',a1,by omega,?_,by simp [Instr.findNow,s1,a4],a5,a6⟩
     rw [show j - i=(j - (i+1))+1 by omega,List.getElem?_cons_succ]
     exact a3
theorem cF5 {t:TypeId} {ti:TI} (hT:U4 P t ti) {k:AV} (h:b51 ti.kind k=true):∃d,P.underlying t=some d∧((∃n,k=.int n∧∃q,d=.int q)∨(∃s,k=.str s∧d=.string)):=by
 unfold b51 at h
 split at h
 ·exact ⟨_,hT.int_ (Nat.eq_of_beq_eq_true h),.inl ⟨_,rfl,_,rfl⟩⟩
 ·exact ⟨_,hT.string_ (Nat.eq_of_beq_eq_true h),.inr ⟨_,rfl,rfl⟩⟩
 ·cases h
theorem bC9 {w:World} {Φ:Nat→Prop} {t:TypeId} {d:TypeDesc} {k:AV} {kv:Value} (hu:P.underlying t=some d) (hd:(∃n,k=.int n∧∃q,d=.int q)∨(∃s,k=.str s∧d=.string)) (hk:Rf Φ w kv k) (b:Bool) (n:Nat) :
  (Instr.checkKey b (n+1) t kv).run P w=.ok () w:=by
 rcases hd with ⟨n,rfl,q,rfl⟩|⟨s,rfl,rfl⟩
 ·cases hk; simp [Instr.checkKey,run_underlying hu]
 ·cases hk; simp [Instr.checkKey,run_underlying hu]
theorem cM3 {c:Ctx} {w:World} {v:Value} {n:Nat} {k:AV} (h:Rd c w v k) (hk:b51 n k=true):Rf c.Φ w v k:=by
 cases k<;>simp only [b51] at hk<;>first|cases hk; done|exact Rd.rf (by simp [AV.ids]) h
def b85 (d:Nat) (K:Kt):Prop:=K (.mp d) [] [d] [(d,.mapo [])]
theorem Post.newMap {c:Ctx} {w:World} (hphi:∀b,c.Φ b→b < w.heap.size) (d:Nat):Post c w (c.setμ d w.heap.size) (w.alloc (.map #[] 0)) [] [(d,.mapo [])] [d]:=by
 have hsz:(w.alloc (.map #[] 0)).heap.size=w.heap.size+1:=by simp
 have hold:∀b,b < w.heap.size→(w.alloc (.map #[] 0)).heap[b]?=w.heap[b]?:=fun b hb=>alloc_old w _ hb
 refine ⟨rfl,rfl,rfl,by omega,fun _ h=>h,fun _ h=>.inl h,fun b hb _=>hold b hb,fun i hi=>⟨by have:i≠d:=(by simpa using hi); simp [Ctx.setμ,this],rfl⟩,⟨fun i o hl=>?_,fun i o b hl hf=>?_,fun i i' o o' b hne hl hl' hf=>?_,fun b hb=>by have:=hphi b hb; omega⟩,fun i o b hl hf=>?_⟩
 ·obtain ⟨rfl,rfl⟩:=aD8 hl
  exact ⟨#[],0,by simp only [Ctx.setμ,if_true]; exact bH7 w _,.nil,by simp,fun x hx=>(by cases hx),by simp⟩
 ·obtain ⟨e1,rfl⟩:=aD8 hl
  subst e1
  have hf:b=(c.setμ _ w.heap.size).μ _:=hf
  simp only [Ctx.setμ,if_true] at hf
  subst hf
  exact ⟨by omega,fun h=>by have:=hphi _ h; omega⟩
 ·obtain ⟨rfl,rfl⟩:=aD8 hl
  obtain ⟨e,_⟩:=aD8 hl'
  exact absurd e.symm hne
 ·obtain ⟨e1,rfl⟩:=aD8 hl
  subst e1
  have hf:b=(c.setμ _ w.heap.size).μ _:=hf
  simp only [Ctx.setμ,if_true] at hf
  exact .inl (by omega)
theorem cJ8 (d:Nat) {t:TypeId} (ho:o.op=.makeMap t none) (h:b85 d K):U8 P o ev os K:=by
 refine fun _=>⟨_,[],_,[d],fun c w ρ hok hr=>?_,fun _ _ h=>(by cases h),fun id hid=>(by simp at hid; subst hid; rw [p9]; rfl),h⟩
 have hrun:(execOp ρ o).run P w=.ok (.value (.map (some w.heap.size))) (w.alloc (.map #[] 0)):=by
  simp [execOp,ho,Instr.makeMap]
 rw [hrun]
 exact ⟨_,Post.newMap hok.phi d,.mp (by simp [Ctx.setμ])⟩
def bW1 (tab:Q6) (os:Os) (t:TypeId) (x k:AV) (K:Kt):Prop :=
 match lk tab t,x with
 |some ti,.mp id=>match lk tab ti.len,lk tab ti.elem,lk os id with
  |some tk,some te,some (.mapo l)=>ti.kind=8∧b51 tk.kind k=true∧te.kind=6∧te.zero=[.bool false]∧∃r,bE9 k l 0=some r∧∀q,q=(match r with|none=>.bool false|some p=>p.2)→K q [id] [] []
  |_,_,_=>False
 |_,_=>False
theorem cO3 (hT:O3 P tab) {t:TypeId} {x k:Operand} (ho:o.op=.lookup t x k false) (h:bW1 tab os t (ev x) (ev k) K):U8 P o ev os K:=by
 unfold bW1 at h
 split at h
 ·rename_i ti id hti hx
  split at h
  ·rename_i tk te l htk hte hid
   obtain ⟨h8,hkk,h6,hz,r,hr0,h⟩:=h
   replace h:=h _ rfl
   refine .read hid (fun c w ρ hrep hr=>?_) h
   have r1:=hr x (by simp [ho,Op.operands])
   have r2:=cM3 (hr k (by simp [ho,Op.operands])) hkk
   rw [hx] at r1
   obtain ⟨es,clock,g1,g2,g3⟩:=hrep
   obtain ⟨d,hu,hd⟩:=cF5 (hT _ tk htk) hkk
   have hm:=(hT t ti hti).map_ h8
   obtain ⟨z,z1,z2,z3⟩:=(hT _ te hte).run_zero w
   have hzv:z=.bool false:=by
    rw [hz] at z2
    cases z<;>simp [Value.cells,aF0,b23,TI.agg,h6] at z2 z3 ⊢<;>first|exact z2|skip
   rcases bQ9 hd r2 0 g2 hr0 with ⟨rfl,a2⟩|⟨j,v,e,rfl,a2,a3,a4,a5,a6⟩
   ·exact ⟨.bool false,by simp [execOp,ho,Instr.lookup,run_underlying hm,r1.mp_,MapKept.run_getObj_map g1,bC9 hu hd r2,MapKept.run_findKey hu a2,z1,hzv],.fz (.bool false)⟩
   ·exact ⟨e.val,by simp [execOp,ho,Instr.lookup,run_underlying hm,r1.mp_,MapKept.run_getObj_map g1,bC9 hu hd r2,MapKept.run_findKey hu a4],.fz a5⟩
  ·exact h.elim
 ·exact h.elim
def bR1 (k v:AV) (l:List (AV×AV)):Option (Nat×AV)→List (AV×AV)
 |none=>l++[(k,v)]
 |some p=>l.set p.1 (k,v)
def bI8 (tab:Q6) (os:Os) (t:TypeId) (x k v:AV) (K:Kt):Prop :=
 match lk tab t,x,v with
 |some ti,.mp id,.bool b=>match lk tab ti.len,lk os id with
  |some tk,some (.mapo l)=>ti.kind=8∧b51 tk.kind k=true∧∃r,bE9 k l 0=some r∧(bR1 k (.bool b) l r).length≤maxLen∧∀q,q=bR1 k (.bool b) l r→K .any [id] [] [(id,.mapo q)]
  |_,_=>False
 |_,_,_=>False
theorem aI3.append {Φ:Nat→Prop} {w:World}:∀{es es':List MapEntry} {l l':List (AV×AV)},aI3 Φ w es l→aI3 Φ w es' l'→aI3 Φ w (es++es') (l++l')
 |_,_,_,_,.nil,h=>h
 |_,_,_,_,.cons h1 h2 t,h=>.cons h1 h2 (aI3.append t h)
theorem aI3.set {Φ:Nat→Prop} {w:World} {e:MapEntry} {k v:AV} (hk:Rf Φ w e.key k) (hv:Rf Φ w e.val v):∀{es:List MapEntry} {l:List (AV×AV)} (i:Nat),aI3 Φ w es l→aI3 Φ w (es.set i e) (l.set i (k,v))
 |_,_,_,.nil=>by simpa using .nil
 |_,_,0,.cons h1 h2 t=>.cons hk hv t
 |_,_,i+1,.cons h1 h2 t=>.cons h1 h2 (aI3.set hk hv i t)
theorem Post.mapSet {c:Ctx} {w:World} {id:Nat} {l l':List (AV×AV)} {es':Array MapEntry} {clock':Nat} (h:P9 c w [(id,.mapo l)]) (hr:aI3 c.Φ w es'.toList l') (hl:l'.length≤maxLen) (hb2:cP0 es'.toList clock') :
  Post c w c { w with heap:=w.heap.setIfInBounds (c.μ id) (.map es' clock') } [(id,.mapo l)] [(id,.mapo l')] []:=by
 obtain ⟨hb,hphi⟩:=h.lt id _ (c.μ id) (p9 _ _ _) rfl
 have hne:∀b,b≠c.μ id→(w.heap.setIfInBounds (c.μ id) (.map es' clock'))[b]?=w.heap[b]?:=fun b hb=>by simp [Ne.symm hb]
 have hfr:∀b,c.Φ b→(w.heap.setIfInBounds (c.μ id) (.map es' clock'))[b]?=w.heap[b]?:=fun b hb=>hne b fun e=>hphi (e▸hb)
 have ht:Touch c [(id,.mapo l)] [(id,.mapo l')] (c.μ id):=⟨id,.mapo l,p9 _ _ _,by rw [p9]; rfl,rfl⟩
 refine ⟨rfl,rfl,rfl,by simp,fun _ h=>h,fun _ h=>.inl h,fun b _ hn=>hne b fun e=>hn (e▸ht),fun _ _=>⟨rfl,rfl⟩,⟨fun i o hl'=>?_,fun i o b hl' hf=>?_,fun i i' o o' b hdis hl hl' hf=>?_,fun b hb=>by simpa using h.phi b hb⟩,fun i o b hl' hf=>?_⟩
 ·obtain ⟨rfl,rfl⟩:=aD8 hl'
  exact ⟨es',clock',by simp [hb],hr.mono hfr (fun _ h=>h),hl,hb2⟩
 ·obtain ⟨rfl,rfl⟩:=aD8 hl'
  have hf:b=c.μ _:=hf
  subst hf
  exact ⟨by simpa using hb,hphi⟩
 ·obtain ⟨rfl,rfl⟩:=aD8 hl
  obtain ⟨e,_⟩:=aD8 hl'
  exact absurd e.symm hdis
 ·obtain ⟨rfl,rfl⟩:=aD8 hl'
  have hf:b=c.μ _:=hf
  subst hf
  exact .inr ht
theorem cC9 (hT:O3 P tab) {t:TypeId} {x k v:Operand} (ho:o.op=.mapUpdate t x k v) (h:bI8 tab os t (ev x) (ev k) (ev v) K):U8 P o ev os K:=by
 unfold bI8 at h
 split at h
 ·rename_i ti id b hti hx hv
  split at h
  ·rename_i tk l htk hid
   obtain ⟨h8,hkk,r,hr0,hlen,h⟩:=h
   replace h:=h _ rfl
   refine fun _=>⟨_,[(id,.mapo l)],_,[],fun c w ρ hok hr=>?_,fun i ob h=>aH7 h hid,fun _ h=>(by cases h),h⟩
   have r1:=hr x (by simp [ho,Op.operands])
   have r2:=cM3 (hr k (by simp [ho,Op.operands])) hkk
   have r3:=hr v (by simp [ho,Op.operands])
   rw [hx] at r1
   rw [hv] at r3
   have r3:Rf c.Φ w (ρ v) (.bool b):=Rd.rf (by simp [AV.ids]) r3
   have hvv:ρ v=.bool b:=by
    generalize ρ v=y at r3
    cases r3; rfl
   obtain ⟨es,clock,g1,g2,g3,gb,gn⟩:=hok.rep id _ (p9 _ _ _)
   obtain ⟨d,hu,hd⟩:=cF5 (hT _ tk htk) hkk
   have hm:=(hT t ti hti).map_ h8
   rcases bQ9 hd r2 0 g2 hr0 with ⟨rfl,a2⟩|⟨j,v',e,rfl,a2,a3,a4,a5,a6⟩
   ·have hrun:(execOp ρ o).run P w=.ok .skip { w with heap:=w.heap.setIfInBounds (c.μ id) (.map (es.push { key:=ρ k,val:=ρ v,born:=clock }) (clock+1)) }:=by
     simp [execOp,ho,Instr.mapUpdate,run_underlying hm,r1.mp_,MapKept.run_getObj_map g1,bC9 hu hd r2,MapKept.run_findKey hu a2,MapKept.run_setObj_map _ g1]
    rw [hrun]
    refine ⟨c,Post.mapSet hok (by rw [Array.toList_push]; exact g2.append (.cons r2 r3 .nil)) hlen ⟨fun x hx=>?_,?_⟩,.fz (.any _)⟩
    ·rw [Array.toList_push] at hx
     rcases List.mem_append.1 hx with hx|hx
     ·have:=gb x hx; omega
     ·obtain rfl:=List.mem_singleton.1 hx; exact Nat.lt_succ_self _
    ·rw [Array.toList_push,List.map_append,List.nodup_append]
     refine ⟨gn,by simp,fun y hy z hz=>?_⟩
     obtain ⟨x,hx,rfl⟩:=List.mem_map.1 hy
     have:=gb x hx
     simp at hz
     omega
   ·have hj:es[j]?=some e:=by simpa using a3
    have hkt:(Instr.keyThatStays (ρ k) (ρ k)).run P w=.ok (ρ k) w:=by
     rcases hd with ⟨n,e1,q,rfl⟩|⟨s,e1,rfl⟩<;>rw [e1] at r2<;>generalize ρ k=y at r2<;>cases r2
     ·exact MapKept.run_keyThatStays (d:=.int .i64) rfl
     ·exact MapKept.run_keyThatStays (d:=.string) trivial
    have hrun:(execOp ρ o).run P w=.ok .skip { w with heap:=w.heap.setIfInBounds (c.μ id) (.map (es.modify j fun e=>{ e with key:=ρ k,val:=ρ v }) clock) }:=by
     simp [execOp,ho,Instr.mapUpdate,run_underlying hm,r1.mp_,MapKept.run_getObj_map g1,bC9 hu hd r2,MapKept.run_findKey hu a4,hj,a6,hkt,MapKept.run_setObj_map _ g1]
    rw [hrun]
    have e2:(es.modify j fun e=>{ e with key:=ρ k,val:=ρ v }).toList=es.toList.set j { e with key:=ρ k,val:=ρ v }:=by
     rw [Array.toList_modify]
     apply List.ext_getElem?
     intro i
     rw [List.getElem?_modify,List.getElem?_set]
     have hjl:j < es.toList.length:=by have:=(Array.getElem?_eq_some_iff.1 hj).1; simpa using this
     by_cases hij:j=i
     ·subst hij
      have hj2:es.toList[j]?=some e:=by simpa using hj
      rw [if_pos rfl,if_pos hjl,hj2]
      simp
     ·simp [hij]
    have hj2:es.toList[j]?=some e:=by simpa using hj
    have e3:(es.toList.set j { e with key:=ρ k,val:=ρ v }).map (·.born)=es.toList.map (·.born):=by
     rw [List.map_set]
     have hjm:(es.toList.map (·.born))[j]?=some e.born:=by rw [List.getElem?_map,hj2]; rfl
     obtain ⟨hlt,he⟩:=List.getElem?_eq_some_iff.1 hjm
     show (es.toList.map (·.born)).set j e.born=_
     conv=>lhs; arg 3; rw [←he]
     exact List.set_getElem_self hlt
    refine ⟨c,Post.mapSet hok ?_ hlen ⟨fun x hx=>?_,?_⟩,.fz (.any _)⟩
    ·rw [e2]
     exact aI3.set r2 r3 j g2
    ·rw [e2] at hx
     have hx2:x.born∈es.toList.map (·.born):=by rw [←e3]; exact List.mem_map_of_mem hx
     obtain ⟨y,hy,hy2⟩:=List.mem_map.1 hx2
     rw [←hy2]
     exact gb y hy
    ·rw [e2,e3]
     exact gn
  ·exact h.elim
 ·exact h.elim
end
end Go.Proofs.YtibjcppjfkamhaaGreatDoor
