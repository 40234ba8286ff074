/- Reading and writing a few cells of one block; what an operation must do to be taken into the walk over readings (Tri). No program in sight, no conditions. -/
import Derived.Test.YtibjcppjfkamhaaGreatDoorAq
namespace Go.Proofs.YtibjcppjfkamhaaGreatDoor
open Go.RowKit
set_option linter.unusedVariables false
theorem aF4 (b o j:Nat):(⟨b,o,none⟩:Addr).add j=⟨b,o+j,none⟩:=by
 unfold Addr.add
 by_cases h:j=0<;>simp [h]
def getN {β:Type}:Nat→Nat→List β→Option (List β)
 |0,0,_=>some []
 |0,n+1,a::l=>match getN 0 n l with
  |some r=>some (a::r)
  |none=>none
 |o+1,n,_::l=>getN o n l
 |_,_,[]=>none
theorem bA7 {β:Type}:∀{o n:Nat} {l r:List β},getN o n l=some r→r=(l.drop o).take n∧o+n≤l.length:=by
 intro o n l
 fun_induction getN o n l with
 |case1 l=>intro r h; cases h; simp
 |case2 n a l r' hr ih =>
  intro r h
  cases h
  have:=ih hr
  exact ⟨by rw [this.1]; simp,by simp; omega⟩
 |case3 n a l hr ih=>intro r h; cases h
 |case4 o n a l ih =>
  intro r h
  have:=ih h
  exact ⟨by simp [this.1],by simp; omega⟩
 |case5=>intro r h; cases h
theorem cI2 {β:Type} {o n:Nat} {l r:List β} (h:getN o n l=some r) {j:Nat} (hj:j < n):r[j]?=l[o+j]?:=by
 rw [(bA7 h).1,List.getElem?_take,if_pos hj,List.getElem?_drop]
def U6 {β:Type}:Nat→List β→List β→Option (List β)
 |0,[],cs=>some cs
 |0,v::vs,_::cs=>match U6 0 vs cs with
  |some r=>some (v::r)
  |none=>none
 |o+1,vs,c::cs=>match U6 o vs cs with
  |some r=>some (c::r)
  |none=>none
 |_,_,[]=>none
theorem bW8 {c:Ctx} {w:World}:∀{o:Nat} {as cs rs:List AV},U6 o as cs=some rs→∀{vs us:List Value},F6 c w vs as→F6 c w us cs→∃r,U6 o vs us=some r∧F6 c w r rs:=by
 intro o as cs
 fun_induction U6 o as cs with
 |case1 cs=>intro rs h vs us h1 h2; cases h; cases h1; exact ⟨us,by simp [U6],h2⟩
 |case2 a as x cs r hr ih =>
  intro rs h vs us h1 h2
  cases h
  cases h1 with|cons a1 a2=>cases h2 with|cons b1 b2 =>
   obtain ⟨r',e,hr'⟩:=ih hr a2 b2
   exact ⟨_,by simp [U6,e],.cons a1 hr'⟩
 |case3 a as x cs hr ih=>intro rs h; cases h
 |case4 o as x cs r hr ih =>
  intro rs h vs us h1 h2
  cases h
  cases h2 with|cons b1 b2 =>
   obtain ⟨r',e,hr'⟩:=ih hr h1 b2
   exact ⟨_,by simp [U6,e],.cons b1 hr'⟩
 |case5 o as x cs hr ih=>intro rs h; cases h
 |case6=>intro rs h; cases h
theorem aN3 {β:Type}:∀(p:Nat) (vs l:List β),p+vs.length≤l.length→∃r,U6 p vs l=some r
 |0,[],l,_=>⟨l,by simp [U6]⟩
 |0,v::vs,[],h=>by simp at h
 |0,v::vs,x::l,h=>by
  obtain ⟨r,hr⟩:=aN3 0 vs l (by simp at h ⊢; omega)
  exact ⟨v::r,by simp [U6,hr]⟩
 |p+1,vs,[],h=>by simp at h
 |p+1,vs,x::l,h=>by
  obtain ⟨r,hr⟩:=aN3 p vs l (by simp at h ⊢; omega)
  exact ⟨x::r,by simp [U6,hr]⟩
theorem aB6 {β:Type}:∀{o:Nat} {as cs rs:List β},U6 o as cs=some rs→rs.length=cs.length∧o+as.length≤cs.length:=by
 intro o as cs
 fun_induction U6 o as cs with
 |case1=>intro rs h; cases h; simp
 |case2 a as x cs r hr ih=>intro rs h; cases h; have:=ih hr; simp; omega
 |case3=>intro rs h; cases h
 |case4 o as x cs r hr ih=>intro rs h; cases h; have:=ih hr; simp; omega
 |case5=>intro rs h; cases h
 |case6=>intro rs h; cases h
theorem bO6 {β:Type}:∀{o:Nat} {as cs rs:List β},U6 o as cs=some rs→∀x∈rs,x∈as∨x∈cs:=by
 intro o as cs
 fun_induction U6 o as cs with
 |case1=>intro rs h; cases h; simp
 |case2 a as x cs r hr ih=>intro rs h; cases h; have:=ih hr; simp; intro y hy; rcases this y hy with h|h<;>simp [h]
 |case3=>intro rs h; cases h
 |case4 o as x cs r hr ih=>intro rs h; cases h; have:=ih hr; simp; intro y hy; rcases this y hy with h|h<;>simp [h]
 |case5=>intro rs h; cases h
 |case6=>intro rs h; cases h
theorem U7 {β:Type}:∀{o:Nat} {as cs rs:List β},U6 o as cs=some rs→∀j,rs[j]?=if o≤j∧j < o+as.length then as[j - o]? else cs[j]?:=by
 intro o as cs
 fun_induction U6 o as cs with
 |case1=>intro rs h j; cases h; rw [if_neg (by simp)]
 |case2 a as x cs r hr ih =>
  intro rs h j
  cases h
  cases j with
  |zero=>simp
  |succ j =>
   have:=ih hr j
   simp only [Nat.zero_le,true_and,List.getElem?_cons_succ,List.length_cons,Nat.zero_add,Nat.add_lt_add_iff_right,Nat.sub_zero] at this ⊢
   exact this
 |case3=>intro rs h; cases h
 |case4 o as x cs r hr ih =>
  intro rs h j
  cases h
  cases j with
  |zero=>simp
  |succ j =>
   have:=ih hr j
   simp only [List.getElem?_cons_succ]
   rw [this]
   by_cases hc:o≤j∧j < o+as.length
   ·rw [if_pos hc,if_pos (by omega)]; congr 1; omega
   ·rw [if_neg hc,if_neg (by omega)]
 |case5=>intro rs h; cases h
 |case6=>intro rs h; cases h
section
variable {P:Program} (w:World)
theorem run_loadCellsFrom (b o:Nat):∀(us:List Value) (i:Nat) (acc:Array Value),(∀j u,us[j]?=some u→w.cell? ⟨b,o+(i+j),none⟩=some u)→(loadCellsFrom ⟨b,o,none⟩ i us.length acc).run P w=.ok (acc++us.toArray) w
 |[],i,acc,_=>by simp [loadCellsFrom]
 |u::us,i,acc,h=>by
  have h0:=h 0 u rfl
  have ih:=run_loadCellsFrom b o us (i+1) (acc.push u) fun j v hj=>by
   have:=h (j+1) v (by simpa using hj)
   rwa [show i+(j+1)=i+1+j by omega] at this
  simp only [Nat.add_zero] at h0
  simp only [List.length_cons,loadCellsFrom,Sem.run_bind,run_load,aF4,h0,Result.andThen_ok,ih]
  simp
theorem run_loadCells (b o:Nat) (us:List Value) (h:∀j u,us[j]?=some u→w.cell? ⟨b,o+j,none⟩=some u):(loadCells ⟨b,o,none⟩ us.length).run P w=.ok us.toArray w:=by
 unfold loadCells
 rw [run_loadCellsFrom w b o us 0 #[] (by simpa using h)]
 simp
theorem U4.run_load {t:TypeId} {ti:TI} (hT:U4 P t ti) (b o:Nat) (us:List Value) (hl:us.length=ti.size) (h1:ti.agg=true∨us.length=1) (h:∀j u,us[j]?=some u→w.cell? ⟨b,o+j,none⟩=some u) :
  (Instr.loadAt t (.pointer (some ⟨b,o,none⟩))).run P w=.ok (mkV ti.agg us) w:=by
 cases ha:ti.agg with
 |true =>
  have hr:=run_loadCells (P:=P) w b o us h
  rw [hl] at hr
  simp [Instr.loadAt,Instr.sureAddr,loadVar,hT.run_agg,ha,hT.run_size,hr,mkV]
 |false =>
  obtain ⟨u,rfl⟩:=List.length_eq_one_iff.1 (by simpa [ha] using h1)
  have hc:=h 0 u rfl
  simp only [Nat.add_zero] at hc
  simp [Instr.loadAt,Instr.sureAddr,loadVar,hT.run_agg,ha,hc,mkV]
end
theorem heap_setCell (w:World) (b o:Nat) (v:Value) (us:Array Value) (e:TypeId) (h:w.heap[b]?=some (.cells us e)) :
  (w.setCell ⟨b,o,none⟩ v).heap[b]?=some (.cells (us.setIfInBounds o v) e)∧(∀k,k≠b→(w.setCell ⟨b,o,none⟩ v).heap[k]?=w.heap[k]?)∧(w.setCell ⟨b,o,none⟩ v).heap.size=w.heap.size:=by
 unfold World.setCell
 refine ⟨?_,fun k hk=>?_,by simp⟩
 ·simp only [Array.getElem?_modify,h]
  simp
 ·simp only [Array.getElem?_modify]
  rw [if_neg (fun e=>hk e.symm)]
theorem aW2 {P:Program} (b o:Nat) (e:TypeId):∀(vs:List Value) (i:Nat) (us rs:List Value) (w:World),w.heap[b]?=some (.cells us.toArray e)→(∀v∈vs,v.oneCell'=true)→U6 (o+i) vs us=some rs →
  ∃w',(storeCells ⟨b,o,none⟩ vs i).run P w=.ok () w'∧w'.heap[b]?=some (.cells rs.toArray e)∧(∀k,k≠b→w'.heap[k]?=w.heap[k]?)∧w'.heap.size=w.heap.size∧w'.os=w.os∧w'.tape=w.tape∧w'.output=w.output
 |[],i,us,rs,w,h,_,hs=>by
  have e1:us=rs:=by
   apply List.ext_getElem?
   intro j
   rw [U7 hs j,if_neg (by simp only [List.length_nil]; omega)]
  subst e1
  exact ⟨w,rfl,h,fun _ _=>rfl,rfl,rfl,rfl,rfl⟩
 |v::vs,i,us,rs,w,h,h1,hs=>by
  obtain ⟨hlen,hle⟩:=aB6 hs
  simp only [List.length_cons] at hle
  have hc:∃u,w.cell? ⟨b,o+i,none⟩=some u:=by
   unfold World.cell?
   rw [h]
   exact ⟨us[o+i],by simp⟩
  obtain ⟨u,hc⟩:=hc
  have hf:w.frozen? ⟨b,o+i,none⟩=false:=by
   unfold World.frozen?
   rw [h]
   simp
  obtain ⟨s1,s2,s3⟩:=heap_setCell w b (o+i) v us.toArray e h
  have hs':U6 (o+(i+1)) vs (us.set (o+i) v)=some rs:=by
   obtain ⟨r,hr⟩:=aN3 (o+(i+1)) vs (us.set (o+i) v) (by rw [List.length_set]; omega)
   rw [hr]
   congr 1
   apply List.ext_getElem?
   intro j
   rw [U7 hr j,U7 hs j,List.getElem?_set]
   by_cases h0:j=o+i
   ·subst h0
    rw [if_neg (by omega),if_pos rfl,if_pos (by omega),if_pos (by simp)]
    simp
   ·by_cases hin:o+i≤j∧j < o+i+(vs.length+1)
    ·rw [if_pos (by omega),if_pos (by simpa using hin)]
     obtain ⟨k,rfl⟩:∃k,j=o+i+1+k:=⟨j - (o+i+1),by omega⟩
     rw [show o+i+1+k - (o+(i+1))=k by omega,show o+i+1+k - (o+i)=k+1 by omega]
     simp
    ·rw [if_neg (by omega),if_neg (fun e=>h0 e.symm),if_neg (by simpa using hin)]
  obtain ⟨w',r1,r2,r3,r4,r5,r6,r7⟩:=aW2 (P:=P) b o e vs (i+1) (us.set (o+i) v) rs (w.setCell ⟨b,o+i,none⟩ v) (by rw [s1]; simp) (fun x hx=>h1 x (by simp [hx])) hs'
  refine ⟨w',?_,r2,fun k hk=>(r3 k hk).trans (s2 k hk),r4.trans s3,r5,r6,r7⟩
  simp only [storeCells,Sem.run_bind,aF4,run_store P w ⟨b,o+i,none⟩ v .plain (h1 v (by simp)),hc,hf,Bool.false_eq_true,if_false,Result.andThen_ok,r1]
def Goes (P:Program) (r:Result Next) (R:Value→World→Prop):Prop :=
 match r with
 |.ok (.value v) w'=>R v w'
 |.ok .skip w'=>R undef w'
 |.ok (.enter f args) w'=>Calls P f args w' fun e w''=>∃v,e=.returned v∧R v w''
 |_=>False
theorem Goes.upon {P:Program} {o:Oper} {a:Act} {r:Result Next} {R:Value→World→Prop} {K:Act→World→Prop} {Q:Exit→Act→World→Prop} (h:Goes P r R) (hK:∀v w',R v w'→K (a.put o.dst v) w'):o.upon P a K Q r:=by
 unfold Goes at h
 split at h
 ·exact hK _ _ h
 ·exact hK _ _ h
 ·exact h.mono fun e w'' ⟨v,he,hr⟩=>by subst he; exact hK _ _ hr
 ·exact h.elim
abbrev Ev := Operand→AV
def Tri (P:Program) (o:Oper) (ev:Ev) (av:AV) (need upd:Os) (news:List Nat):Prop :=
 ∀(c:Ctx) (w:World) (ρ:Operand→Value),P9 c w need→(∀x∈o.op.operands.toList,Rd c w (ρ x) (ev x)) →
  Goes P ((execOp ρ o).run P w) fun v w'=>∃c',Post c w c' w' need upd news∧Rd c' w' v av
abbrev Kt := AV→List Nat→List Nat→Os→Prop
def dC2 (o:Oper) (ev:Ev) (os:Os):Prop:=∃(c:Ctx) (w:World) (ρ:Operand→Value),P9 c w os∧∀x∈o.op.operands.toList,Rd c w (ρ x) (ev x)
def U8 (P:Program) (o:Oper) (ev:Ev) (os:Os) (K:Kt):Prop :=
 dC2 o ev os→∃av need upd news,Tri P o ev av need upd news∧(∀id ob,lk need id=some ob→lk os id=some ob)∧(∀id∈news,(lk upd id).isSome=true)∧K av (need.map (·.1)) news upd
theorem U8.have {P:Program} {o:Oper} {ev:Ev} {os:Os} {K:Kt} {p:Prop} (hp:∀(c:Ctx) (w:World) (ρ:Operand→Value),P9 c w os→(∀x∈o.op.operands.toList,Rd c w (ρ x) (ev x))→p) (h:p→U8 P o ev os K):U8 P o ev os K :=
 fun hi=>h (hi.elim fun c ⟨w,ρ,h1,h2⟩=>hp c w ρ h1 h2) hi
def rng : List AV→Prop
 |[]=>True
 |.int n::l=>Z8 n∧rng l
 |.str s::l=>s.size≤maxLen∧rng l
 |.sl _ ls::l=>ls.length≤maxLen∧rng l
 |_::l=>rng l
theorem J4.rng {Φ:Nat→Prop} {w:World}:∀{us:List Value} {cs:List AV},J4 Φ w us cs→Go.Proofs.YtibjcppjfkamhaaGreatDoor.rng cs
 |_,_,.nil=>trivial
 |_,_,.cons (a:=a) h t=>by
  have ih:=J4.rng t
  cases h<;>first|exact ih|(simp only [Go.Proofs.YtibjcppjfkamhaaGreatDoor.rng]; refine ⟨?_,ih⟩; first|assumption|omega)
theorem Post.refl {c:Ctx} {w:World} {need:Os} (hphi:∀b,c.Φ b→b < w.heap.size):Post c w c w need [] [] :=
 ⟨rfl,rfl,rfl,Nat.le_refl _,fun _ h=>h,fun _ h=>.inl h,fun _ _ _=>rfl,fun _ _=>⟨rfl,rfl⟩,⟨fun _ _ h=>(by cases h),fun _ _ _ h=>(by cases h),fun _ _ _ _ _ _ h=>(by cases h),hphi⟩,fun _ _ _ h=>(by cases h)⟩
theorem U8.pure {P:Program} {o:Oper} {ev:Ev} {os:Os} {K:Kt} {av:AV} (h:∀(c:Ctx) (w:World) (ρ:Operand→Value),(∀x∈o.op.operands.toList,Rd c w (ρ x) (ev x))→∃v,(execOp ρ o).run P w=.ok (.value v) w∧Rd c w v av)
  (hK:K av [] [] []):U8 P o ev os K :=
 fun _=>⟨av,[],[],[],fun c w ρ hok hr=>by
  obtain ⟨v,h1,h2⟩:=h c w ρ hr
  rw [h1]
  exact ⟨c,Post.refl hok.phi,h2⟩,fun _ _ h=>(by cases h),fun _ h=>(by cases h),hK⟩
theorem aH7 {id i:Nat} {ob o:Obj} {os:Os} (h:lk [(id,ob)] i=some o) (hl:lk os id=some ob):lk os i=some o:=by
 rw [y7] at h
 split at h
 ·rename_i e
  subst e
  cases h
  exact hl
 ·cases h
theorem U8.read {P:Program} {o:Oper} {ev:Ev} {os:Os} {K:Kt} {av:AV} {id:Nat} {ob:Obj} (hl:lk os id=some ob)
  (h:∀(c:Ctx) (w:World) (ρ:Operand→Value),aH8 c w id ob→(∀x∈o.op.operands.toList,Rd c w (ρ x) (ev x))→∃v,(execOp ρ o).run P w=.ok (.value v) w∧Rd c w v av)
  (hK:K av [id] [] []):U8 P o ev os K :=
 fun _=>⟨av,[(id,ob)],[],[],fun c w ρ hok hr=>by
  obtain ⟨v,h1,h2⟩:=h c w ρ (hok.rep id ob (p9 _ _ _)) hr
  rw [h1]
  exact ⟨c,Post.refl hok.phi,h2⟩,fun i o h=>aH7 h hl,fun _ h=>(by cases h),hK⟩
end Go.Proofs.YtibjcppjfkamhaaGreatDoor
