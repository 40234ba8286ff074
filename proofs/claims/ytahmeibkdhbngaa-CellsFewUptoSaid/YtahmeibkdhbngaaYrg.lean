/- A loop over a map's keys, the map as it is. No program in sight. -/
import Derived.Test.YtahmeibkdhbngaaM
import Derived.Test.YtahmeibkdhbngaaN
import Derived.Maps.RangeRun
namespace Go.Proofs.Ytahmeibkdhbngaa
open Go.RowKit
open Go.ChangeMaps (setBlock)
set_option linter.unusedVariables false
section
variable {P:Program} {Γ:H7}
theorem aA1 {ops:Array Oper} {Q:Exit→Act→World→Prop} {rest:List Oper} {o:Oper} {a:Act} {w w':World} {v:Value} (hg:o.guard=none) (hrun:(execOp a.eval o).run P w=.ok (.value v) w') (h:wpList P ops Q rest (a.put o.dst v) w'):wpList P ops Q (o::rest) a w:=by
 refine wpList_plain hg fun K hK=>?_
 unfold Oper.wp
 rw [hrun]
 exact hK _ _ h
theorem I5.put {ts:Ts} {os:Os} {c:Ctx} {a:Act} {w:World} (h:I5 Γ ts os c a w) {t:Nat} {v:Value} {av:AV} (ht:t < Γ.n) (hv:Rd c w v av):I5 Γ ((t,av)::ts) os c (a.put (some t) v) w:=by
 refine ⟨⟨h.rel.defers,by simp [Act.put,h.rel.n],fun t' x hl=>?_,h.rel.hok,h.rel.inv⟩,h.same⟩
 have hn:=h.rel.n
 rw [j4] at hl
 by_cases e:t=t'
 ·rw [if_pos e] at hl
  cases hl
  subst e
  exact ⟨v,by simp [Act.put,hn,ht],hv⟩
 ·rw [if_neg e] at hl
  obtain ⟨u,h1,h2⟩:=h.rel.ts t' x hl
  exact ⟨u,by simp [Act.put,Array.getElem?_setIfInBounds_ne e,h1],h2⟩
theorem I5.eval {ts:Ts} {os:Os} {c:Ctx} {a:Act} {w:World} (h:I5 Γ ts os c a w) {t:Nat} {av:AV} (hl:lk ts t=some av):Rd c w (a.eval (.tmp t)) av:=by
 obtain ⟨u,h1,h2⟩:=h.rel.ts t av hl
 show Rd c w (a.tmps.getD t undef) av
 rw [Array.getD_eq_getD_getElem?,h1]
 exact h2
theorem I5.con {ts:Ts} {os:Os} {c:Ctx} {a:Act} {w:World} (h:I5 Γ ts os c a w) {t:Nat} {v:Value} (hl:lk ts t=some (.con v)):a.eval (.tmp t)=v:=by
 have:=h.eval hl
 generalize a.eval (.tmp t)=x at this
 cases this with|fz q=>cases q; rfl
theorem I5.int {ts:Ts} {os:Os} {c:Ctx} {a:Act} {w:World} (h:I5 Γ ts os c a w) {t:Nat} {n:Int} (hl:lk ts t=some (.int n)):a.eval (.tmp t)=.int .i64 n:=by
 have:=h.eval hl
 generalize a.eval (.tmp t)=x at this
 cases this with|fz q=>cases q; rfl
theorem I5.world {ts:Ts} {os:Os} {c:Ctx} {a:Act} {w w':World} (h:I5 Γ ts os c a w) (hs:w.heap.size≤w'.heap.size) (h1:w'.os=w.os) (h2:w'.tape=w.tape) (h3:w'.output=w.output)
  (hk:∀b,b < w.heap.size→c.Φ b∨(∃id o,lk os id=some o∧foot c id o b)∨¬Γ.own b→w'.heap[b]?=w.heap[b]?):I5 Γ ts os c a w':=by
 have hphi:=h.rel.hok.phi
 have hfr:∀b,c.Φ b→w'.heap[b]?=w.heap[b]?:=fun b hb=>hk b (hphi b hb) (.inl hb)
 refine ⟨⟨h.rel.defers,h.rel.n,fun t x hl=>?_,⟨fun id o hl=>?_,fun id o b hl hf=>?_,h.rel.hok.sep,fun b hb=>Nat.lt_of_lt_of_le (hphi b hb) hs⟩,⟨h1.trans h.rel.inv.wos,h2.trans h.rel.inv.tape,h3.trans h.rel.inv.output,Nat.le_trans h.rel.inv.size hs,h.rel.inv.phi,h.rel.inv.phiNew,fun b hb=>?_,h.rel.inv.feet⟩⟩,h.same⟩
 ·obtain ⟨u,q1,q2⟩:=h.rel.ts t x hl
  exact ⟨u,q1,q2.mono hfr (fun _ h=>h) (fun _ _=>⟨rfl,rfl⟩)⟩
 ·exact (h.rel.hok.rep id o hl).keep ⟨rfl,rfl⟩ hfr (fun _ h=>h) (fun b hf=>hk b (h.rel.hok.lt id o b hl hf).1 (.inr (.inl ⟨id,o,hl,hf⟩))) (fun _ _=>⟨rfl,rfl⟩)
 ·have:=h.rel.hok.lt id o b hl hf
  exact ⟨Nat.lt_of_lt_of_le this.1 hs,this.2⟩
 ·have hlt:b < Γ.w.heap.size:=Nat.lt_of_not_le fun q=>hb (.inl q)
  exact (hk b (Nat.lt_of_lt_of_le hlt h.rel.inv.size) (.inr (.inr hb))).trans (h.rel.inv.keep b hb)
def H7.now (Γ:H7) (c:Ctx) (w:World) (os:Os):H7:=⟨c,w,os,Γ.n⟩
theorem I5.now {ts:Ts} {os:Os} {c:Ctx} {a:Act} {w:World} (h:I5 Γ ts os c a w):I5 (Γ.now c w os) ts os c a w :=
 ⟨⟨h.rel.defers,h.rel.n,h.rel.ts,h.rel.hok,⟨rfl,rfl,rfl,Nat.le_refl _,fun _ h=>h,fun _ h=>.inl h,fun _ _=>rfl,fun id o b hl hf=>.inr ⟨id,o,hl,hf⟩⟩⟩,fun _ _=>⟨rfl,rfl⟩⟩
theorem I5.back {ts ts':Ts} {os os':Os} {c c':Ctx} {a a':Act} {w w':World} (h:I5 Γ ts os c a w) (h':I5 (Γ.now c w os) ts' os' c' a' w'):I5 Γ ts' os' c' a' w':=by
 have ho:∀b,(Γ.now c w os).own b→Γ.own b:=fun b hb=>by
  rcases hb with hb|⟨id,o,hl,hf⟩
  ·exact .inl (Nat.le_trans h.rel.inv.size hb)
  ·exact h.rel.inv.feet id o b hl hf
 refine ⟨⟨h'.rel.defers,h'.rel.n,h'.rel.ts,h'.rel.hok,⟨h'.rel.inv.wos.trans h.rel.inv.wos,h'.rel.inv.tape.trans h.rel.inv.tape,h'.rel.inv.output.trans h.rel.inv.output,Nat.le_trans h.rel.inv.size h'.rel.inv.size,
  fun b hb=>h'.rel.inv.phi b (h.rel.inv.phi b hb),fun b hb=>?_,fun b hb=>(h'.rel.inv.keep b fun q=>hb (ho b q)).trans (h.rel.inv.keep b hb),fun id o b hl hf=>ho b (h'.rel.inv.feet id o b hl hf)⟩⟩,
  fun id hid=>⟨(h'.same id hid).1.trans (h.same id hid).1,(h'.same id hid).2.trans (h.same id hid).2⟩⟩
 rcases h'.rel.inv.phiNew b hb with q|q
 ·exact h.rel.inv.phiNew b q
 ·exact .inr (ho b q)
structure Clean (c:Ctx) (w:World) (os:Os) (b:Nat):Prop where
 lt:b < w.heap.size
 phi:¬c.Φ b
 feet:∀id o,lk os id=some o→¬foot c id o b
theorem Clean.not_own {c:Ctx} {w:World} {os:Os} {b:Nat} (h:Clean c w os b):¬(Γ.now c w os).own b:=fun q=>by
 rcases q with q|⟨id,o,hl,hf⟩
 ·exact absurd h.lt (Nat.not_lt.2 q)
 ·exact h.feet id o hl hf
theorem Clean.after {ts':Ts} {os os':Os} {c c':Ctx} {a':Act} {w w':World} {b:Nat} (h:Clean c w os b) (h':I5 (Γ.now c w os) ts' os' c' a' w'):Clean c' w' os' b∧w'.heap[b]?=w.heap[b]?:=by
 have hno:¬(Γ.now c w os).own b:=h.not_own
 refine ⟨⟨Nat.lt_of_lt_of_le h.lt h'.rel.inv.size,fun q=>?_,fun id o hl hf=>hno (h'.rel.inv.feet id o b hl hf)⟩,h'.rel.inv.keep b hno⟩
 rcases h'.rel.inv.phiNew b q with q|q
 ·exact h.phi q
 ·exact hno q
theorem I5.sub {ts ts2:Ts} {os os2:Os} {c:Ctx} {a:Act} {w:World} (hT:aF3 ts2 ts) (hso:∀id o,lk os2 id=some o→lk os id=some o) (h:I5 Γ ts os c a w):I5 Γ ts2 os2 c a w:=by
 obtain ⟨⟨h1,h2,h3,h4,h5⟩,h6⟩:=h
 exact ⟨⟨h1,h2,fun t x hl=>h3 t x (aC8 hT t x hl),h4.sub hso,⟨h5.wos,h5.tape,h5.output,h5.size,h5.phi,h5.phiNew,h5.keep,fun id o b hl hf=>h5.feet _ _ b (hso id o hl) hf⟩⟩,h6⟩
theorem I5.addMap {ts S:Ts} {So:Os} {c:Ctx} {a:Act} {w:World} {m b:Nat} {l:List (AV×AV)} {es:Array MapEntry} {clock:Nat} (h:I5 Γ ts So c a w) (h8:lk ts 8=some (.con (.map (some b)))) (hS:aF3 S ts) (hm:m < top)
  (hfS:∀t x,lk S t=some x→m ∉ x.ids) (hfO:∀id o,lk So id=some o→id≠m∧m ∉ o.ids) (hb:Clean c w So b) (hown:Γ.own b) (hh:w.heap[b]?=some (.map es clock)) (he:J3 c.Φ w es.toList l) (hl:l.length≤maxLen) (hbn:a09 es.toList clock) :
  I5 Γ ((8,.mp m)::S) ((m,.mapo l)::So) (c.setμ m b) a w:=by
 have hc:∀i,i≠m→(c.setμ m b).μ i=c.μ i∧(c.setμ m b).hd i=c.hd i:=fun i hi=>by simp [Ctx.setμ,hi]
 have hcm:(c.setμ m b).μ m=b:=by simp [Ctx.setμ]
 have way:∀id o,lk ((m,Obj.mapo l)::So) id=some o→(id=m∧o=.mapo l)∨lk So id=some o:=fun id o hl=>by
  rw [j4] at hl
  by_cases e:m=id
  ·rw [if_pos e] at hl; cases hl; exact .inl ⟨e.symm,rfl⟩
  ·rw [if_neg e] at hl; exact .inr hl
 have hft:∀id o x,lk So id=some o→(foot (c.setμ m b) id o x↔foot c id o x):=fun id o x hl=>aA0 (hc id (hfO id o hl).1) fun y hy=>hc y fun e=>(hfO id o hl).2 (e▸hy)
 refine ⟨⟨h.rel.defers,h.rel.n,fun t x hl=>?_,⟨fun id o hl=>?_,fun id o x hl hf=>?_,fun id id' o o' x hne hl hl' hf hf'=>?_,h.rel.hok.phi⟩,⟨h.rel.inv.wos,h.rel.inv.tape,h.rel.inv.output,h.rel.inv.size,h.rel.inv.phi,h.rel.inv.phiNew,h.rel.inv.keep,fun id o x hl hf=>?_⟩⟩,fun id hid=>?_⟩
 ·rw [j4] at hl
  by_cases e:8=t
  ·rw [if_pos e] at hl; cases hl; subst e
   obtain ⟨u,q1,q2⟩:=h.rel.ts 8 _ h8
   have hu:u=.map (some b):=by cases q2 with|fz q=>cases q; rfl
   rw [hu] at q1
   exact ⟨_,q1,.mp hcm⟩
  ·rw [if_neg e] at hl
   obtain ⟨u,q1,q2⟩:=h.rel.ts t x (aC8 hS t x hl)
   have hi':∀i∈x.ids,(c.setμ m b).μ i=c.μ i∧(c.setμ m b).hd i=c.hd i:=fun i hi=>hc i fun e=>hfS t x hl (e▸hi)
   have q3:Rd (c.setμ m b) w u x:=Rd.mono (c:=c) (c':=c.setμ m b) (w':=w) (fun _ _=>rfl) (fun _ h=>h) hi' q2
   exact ⟨u,q1,q3⟩
 ·rcases way id o hl with ⟨rfl,rfl⟩|hl
  ·exact ⟨es,clock,by rw [hcm]; exact hh,he,‹_›,hbn⟩
  ·exact (h.rel.hok.rep id o hl).keep (hc id (hfO id o hl).1) (fun _ _=>rfl) (fun _ h=>h) (fun _ _=>rfl) fun y hy=>hc y fun e=>(hfO id o hl).2 (e▸hy)
 ·rcases way id o hl with ⟨rfl,rfl⟩|hl
  ·have hf:x=(c.setμ _ b).μ _:=hf
   rw [hcm] at hf; subst hf
   exact ⟨hb.lt,hb.phi⟩
  ·exact h.rel.hok.lt id o x hl ((hft id o x hl).1 hf)
 ·rcases way id o hl with ⟨e1,e2⟩|k1<;>rcases way id' o' hl' with ⟨e3,e4⟩|k2
  ·exact hne (e1.trans e3.symm)
  ·subst e2
   have hf:x=(c.setμ m b).μ id:=hf
   rw [e1,hcm] at hf
   exact hb.feet id' o' k2 (hf▸(hft id' o' x k2).1 hf')
  ·subst e4
   have hf':x=(c.setμ m b).μ id':=hf'
   rw [e3,hcm] at hf'
   exact hb.feet id o k1 (hf'▸(hft id o x k1).1 hf)
  ·exact h.rel.hok.sep id id' o o' x hne k1 k2 ((hft id o x k1).1 hf) ((hft id' o' x k2).1 hf')
 ·rcases way id o hl with ⟨rfl,rfl⟩|hl
  ·have hf:x=(c.setμ _ b).μ _:=hf
   rw [hcm] at hf; subst hf
   exact hown
  ·exact h.rel.inv.feet id o x hl ((hft id o x hl).1 hf)
 ·have hne:id≠m:=fun e=>absurd hm (Nat.not_lt.2 (e▸hid))
  exact ⟨(hc id hne).1.trans (h.same id hid).1,(hc id hne).2.trans (h.same id hid).2⟩
theorem J3.in_ {Φ:Nat→Prop} {w:World}:∀{es:List MapEntry} {l:List (AV×AV)},J3 Φ w es l→∀e∈es,∃p∈l,Rf Φ w e.key p.1
 |_,_,.nil,e,he=>by cases he
 |_,_,.cons h1 h2 t,e,he=>by
  rcases List.mem_cons.1 he with rfl|he
  ·exact ⟨_,List.mem_cons_self,h1⟩
  ·obtain ⟨p,hp,q⟩:=J3.in_ t e he
   exact ⟨p,List.mem_cons_of_mem _ hp,q⟩
def aL9 (es:Array MapEntry) (r:Nat) (w:World):Nat:=match w.heap[r]? with
 |some (.mapIter _ _ seen _)=>(leftOf es seen).size
 |_=>0
structure RO (o:Oper) (op:Op) (d:Nat):Prop where
 op:o.op=op
 dst:o.dst=some d
 guard:o.guard=none
def QE (Γ:H7) (St:Ts) (So:Os):Qt:=fun e ts os=>match e with
 |.normal=>I8 Γ ts os (JQ (fun _:Unit=>St) (fun _=>So) fun _=>True)
 |_=>False
def QS (P:Program) (Γ:H7) (c:Code) (Q:Qt):Qt:=fun e ts os=>match e with
 |.normal=>j3 P Γ c ts os Q
 |_=>False
theorem j3.rangeFew (hn:Γ.n=63) {A1 A3 A7 A16 A17 A18:AV} {m:Nat} {So:Os} {l:List (AV×AV)} {Q:Qt} {i12 i13 i14 i15 i16 b2 b3:Nat} {o1 o2 o3 o4 o5 o6 o7 o8 o9 oa ob:Oper} {tt kt et:TypeId} {c1 c2:Code}
  (ht:P.underlying tt=some (.map kt et))
  (h1:RO o1 (.move (.tmp 8)) 41) (h2:RO o2 (.range tt (.tmp 41)) 42) (h3:RO o3 (.next (.tmp 42) false) 43) (h4:RO o4 (.extract (.tmp 43) 0) 44) (h5:RO o5 (.entry (.tmp 42)) 45) (h6:RO o6 (.extract (.tmp 45) 0) 46)
  (h7:RO o7 (.assign (.tmp 46)) 11) (h8:RO o8 (.assign (.const (.int .i64 (-1)))) 12) (h9:RO o9 (.move (.tmp 8)) 47) (ha:RO oa (.call { callee:=.builtin .len,args:=#[.tmp 47],argTypes:=#[tt] }) 48) (hob:RO ob (.binOp .leq 3 (.tmp 48) (.const (.int .i64 3)) 3) 49)
  (hm:m < top) (hfS:∀t x,lk [(1,A1),(3,A3),(7,A7),(16,A16),(17,A17),(18,A18)] t=some x→m ∉ x.ids) (hfO:∀id o,lk So id=some o→id≠m∧m ∉ o.ids)
  (hbody:∀Γ':H7,Γ'.n=63→∀p∈l,∀(vm vi:Value) (n:Nat),n=l.length→n≤maxLen →
   j3 P Γ' c1 [(49,.bool (decide ((n:Int)≤3))),(12,.int (-1)),(11,p.1),(42,.con vi),(8,.con vm),(1,A1),(3,A3),(7,A7),(16,A16),(17,A17),(18,A18)] So (QS P Γ' c2 (QE Γ' [(42,.con vi),(8,.con vm),(1,A1),(3,A3),(7,A7),(16,A16),(17,A17),(18,A18)] So)))
  (hQ:Q .normal [(8,.mp m),(1,A1),(3,A3),(7,A7),(16,A16),(17,A17),(18,A18)] ((m,.mapo l)::So)) :
  j3 P Γ (.seq (.region i12 #[o1,o2] false) (.block b2 (.loop (.seq (.region i13 #[o3,o4] false) (.seq (.cond (.tmp 44) .skip (.exit b2)) (.block b3 (.seq (.region i14 #[o5,o6,o7] false) (.seq (.region i15 #[o8] false) (.seq (.seq (.region i16 #[o9,oa,ob] false) c1) c2)))))))))
   [(8,.mp m),(1,A1),(3,A3),(7,A7),(16,A16),(17,A17),(18,A18)] ((m,.mapo l)::So) Q:=by
 refine ⟨fun a w ⟨c,hF⟩=>?_⟩
 have e8:=(hF.eval (t:=8) rfl).mp_
 obtain ⟨es,clock,g1,g2,g3,gb⟩:=hF.rel.hok.rep m _ (d9 _ _ _)
 obtain ⟨hmb,hmphi⟩:=hF.rel.hok.lt m _ (c.μ m) (d9 _ _ _) rfl
 have hown:Γ.own (c.μ m):=hF.rel.inv.feet m _ (c.μ m) (d9 _ _ _) rfl
 have hso:∀id o,lk So id=some o→lk ((m,Obj.mapo l)::So) id=some o:=fun id o hl=>by rw [y5 _ _ (Ne.symm (hfO id o hl).1)]; exact hl
 have hcb:Clean c w So (c.μ m):=⟨hmb,hmphi,fun id o hl hf=>hF.rel.hok.sep id m o _ (c.μ m) (hfO id o hl).1 (hso id o hl) (d9 _ _ _) hf rfl⟩
 obtain ⟨b,hb⟩:∃b,b=c.μ m:=⟨_,rfl⟩
 rw [←hb] at e8 g1 hmb hmphi hown hcb
 obtain ⟨r,hr⟩:∃r,r=w.heap.size:=⟨_,rfl⟩
 have hF0:I5 Γ [(1,A1),(3,A3),(7,A7),(16,A16),(17,A17),(18,A18)] So c a w:=hF.sub (by repeat (first|exact trivial|exact rfl|(refine And.intro ?_ ?_))) hso
 have hF8:I5 Γ [(8,.con (.map (some b))),(1,A1),(3,A3),(7,A7),(16,A16),(17,A17),(18,A18)] So c a w:=by
  refine ⟨⟨hF0.rel.defers,hF0.rel.n,fun t x hl=>?_,hF0.rel.hok,hF0.rel.inv⟩,hF0.same⟩
  rw [j4] at hl
  by_cases e:8=t
  ·rw [if_pos e] at hl; cases hl; subst e
   obtain ⟨u,q1,q2⟩:=hF.rel.ts 8 _ rfl
   have hu:=q2.mp_
   rw [←hb] at hu
   exact ⟨u,q1,by rw [hu]; exact .fz (.con _)⟩
  ·rw [if_neg e] at hl; exact hF0.rel.ts t x hl
 refine wp_seq (wp_region_list ?_)
 show wpList P _ _ [o1,o2] a w
 refine aA1 h1.guard (v:=.map (some b)) (w':=w) (by simp [execOp,h1.op,e8]) ?_
 rw [h1.dst]
 have hF1:=hF8.put (t:=41) (v:=.map (some b)) (av:=.con (.map (some b))) (by omega) (.fz (.con _))
 have e41:(a.put (some 41) (.map (some b))).eval (.tmp 41)=.map (some b):=hF1.con rfl
 refine aA1 h2.guard (v:=.pointer (some ⟨r,0,none⟩)) (w':=w.alloc (.mapIter (some b) clock #[] clock)) (by
  have:=run_range_map (P:=P) w tt kt et b es clock ht g1
  simp [execOp,h2.op,e41,this,hr]) ?_
 rw [h2.dst]
 let a2:=(a.put (some 41) (.map (some b))).put (some 42) (.pointer (some ⟨r,0,none⟩))
 let St:Ts:=[(42,.con (.pointer (some ⟨r,0,none⟩))),(8,.con (.map (some b))),(1,A1),(3,A3),(7,A7),(16,A16),(17,A17),(18,A18)]
 let I:Act→World→Prop:=fun a' w'=>∃c' seen last,I5 Γ St So c' a' w'∧w'.heap[b]?=some (.map es clock)∧w'.heap[r]?=some (.mapIter (some b) clock seen last)∧clock≤last∧Clean c' w' So b∧Clean c' w' So r∧J3 c'.Φ w' es.toList l
 have hI0:I a2 (w.alloc (.mapIter (some b) clock #[] clock)):=by
  have hold:∀x,x < w.heap.size→(w.alloc (.mapIter (some b) clock #[] clock)).heap[x]?=w.heap[x]?:=fun x hx=>alloc_old w _ hx
  have hsz:(w.alloc (.mapIter (some b) clock #[] clock)).heap.size=w.heap.size+1:=by simp
  refine ⟨c,#[],clock,?_,(hold b hmb).trans g1,by rw [hr]; exact aG4 w _,Nat.le_refl _,⟨by omega,hcb.phi,hcb.feet⟩,⟨by omega,fun q=>?_,fun id o hl hf=>?_⟩,g2.mono (fun x hx=>hold x (hF.rel.hok.phi x hx)) (fun _ h=>h)⟩
  ·have hF2:=((hF1.world (w':=w.alloc (.mapIter (some b) clock #[] clock)) (by omega) rfl rfl rfl fun x hx _=>hold x hx).put (t:=42) (v:=.pointer (some ⟨r,0,none⟩)) (av:=.con (.pointer (some ⟨r,0,none⟩))) (by omega) (.fz (.con _)))
   exact hF2.sub (by repeat (first|exact trivial|exact rfl|(refine And.intro ?_ ?_))) (fun _ _ h=>h)
  ·have:=hF.rel.hok.phi r q; omega
  ·have:=(hF0.rel.hok.lt id o r hl hf).1; omega
 show (Code.block b2 _).wp P _ a2 _
 refine wp_block (wp_loop I (fun _ w=>aL9 es r w) hI0 ?_)
 rintro a w' ⟨c',seen,last,hR,hbk,hrk,hle,hcb',hcr,hEn⟩
 have e42:a.eval (.tmp 42)=.pointer (some ⟨r,0,none⟩):=hR.con rfl
 have hmu:aL9 es r w'=(leftOf es seen).size:=by unfold aL9; rw [hrk]
 refine wp_seq (wp_region_list ?_)
 show wpList P _ _ [o3,o4] a w'
 rcases run_next_at (P:=P) w' o3.type r b clock last seen es clock hrk hbk (fun x hx=>gb.1 x hx) hle with ⟨hz,hrun⟩|⟨e,he,w1,hw1,hrun⟩
 ·refine aA1 h3.guard (v:=.tuple #[.bool false]) (w':=w') (by simp [execOp,h3.op,e42,hrun]) ?_
  rw [h3.dst]
  have q1:=hR.put (t:=43) (v:=.tuple #[.bool false]) (av:=.con (.tuple #[.bool false])) (by omega) (.fz (.con _))
  have e43:(a.put (some 43) (.tuple #[.bool false])).eval (.tmp 43)=.tuple #[.bool false]:=q1.con rfl
  refine aA1 h4.guard (v:=.bool false) (w':=w') (by simp [execOp,h4.op,e43,Instr.extract]) ?_
  rw [h4.dst]
  have q2:=q1.put (t:=44) (v:=.bool false) (av:=.con (.bool false)) (by omega) (.fz (.con _))
  have e44:((a.put (some 43) (.tuple #[.bool false])).put (some 44) (.bool false)).eval (.tmp 44)=.bool false:=q2.con rfl
  refine wp_seq (wp_cond_false e44 (wp_exit ?_))
  simp only [Exit.then,Exit.inBlock,if_true]
  refine ⟨.normal,_,_,trivial,hQ,⟨_,q2.addMap (b:=b) (es:=es) (clock:=clock) rfl (by repeat (first|exact trivial|exact rfl|(refine And.intro ?_ ?_))) hm hfS hfO hcb' hown hbk hEn g3 gb⟩⟩
 ·have hbr:b≠r:=by omega
  have hrown:Γ.own r:=.inl (by rw [hr]; exact hF.rel.inv.size)
  have hw1':w1.heap=w'.heap∧w1.os=w'.os∧w1.tape=w'.tape∧w1.output=w'.output:=by rcases hw1 with rfl|rfl<;>exact ⟨rfl,rfl,rfl,rfl⟩
  obtain ⟨k1,k2,k3,k4⟩:=hw1'
  have hme:=mem_left he
  obtain ⟨w2,hw2⟩:∃w2,w2=setBlock w1 r (.mapIter (some b) clock (seen.push e.born) clock):=⟨_,rfl⟩
  have hsz:w2.heap.size=w'.heap.size:=by rw [hw2]; simp [setBlock,k1]
  have hoth:∀x,x≠r→w2.heap[x]?=w'.heap[x]?:=fun x hx=>by rw [hw2]; simp [setBlock,k1,Array.getElem?_setIfInBounds_ne (Ne.symm hx)]
  have hrr:w2.heap[r]?=some (.mapIter (some b) clock (seen.push e.born) clock):=by
   rw [hw2]; simp [setBlock,k1,hcr.lt]
  have hbb:w2.heap[b]?=some (.map es clock):=(hoth b hbr).trans hbk
  have q0:I5 Γ St So c' a w2:=hR.world (Nat.le_of_eq hsz.symm) (by rw [hw2]; exact k2) (by rw [hw2]; exact k3) (by rw [hw2]; exact k4) fun x hx hor=>hoth x fun ex=>by
   subst ex
   rcases hor with q|⟨id,o,hl,hf⟩|q
   ·exact hcr.phi q
   ·exact hcr.feet id o hl hf
   ·exact q hrown
  have hcb2:Clean c' w2 So b:=⟨by rw [hsz]; exact hcb'.lt,hcb'.phi,hcb'.feet⟩
  have hcr2:Clean c' w2 So r:=⟨by rw [hsz]; exact hcr.lt,hcr.phi,hcr.feet⟩
  have hEn2:J3 c'.Φ w2 es.toList l:=hEn.mono (fun x hx=>hoth x fun ex=>hcr.phi (ex▸hx)) (fun _ h=>h)
  obtain ⟨p,hp,hpk⟩:=hEn2.in_ e hme.1
  rw [←hw2] at hrun
  refine aA1 h3.guard (v:=.tuple #[.bool true,e.key,e.val]) (w':=w2) (by simp [execOp,h3.op,e42,hrun]) ?_
  rw [h3.dst]
  have q1:=q0.put (t:=43) (v:=.tuple #[.bool true,e.key,e.val]) (av:=.con (.tuple #[.bool true,e.key,e.val])) (by omega) (.fz (.con _))
  refine aA1 h4.guard (v:=.bool true) (w':=w2) (by rw [execOp,h4.op]; simp only [q1.con (t:=43) rfl]; rfl) ?_
  rw [h4.dst]
  have q2:=q1.put (t:=44) (v:=.bool true) (av:=.con (.bool true)) (by omega) (.fz (.con _))
  refine wp_seq (wp_cond_true (q2.con rfl) (wp_skip ?_))
  simp only [Exit.then]
  refine wp_block (wp_seq (wp_region_list ?_))
  show wpList P _ _ [o5,o6,o7] _ w2
  have hen:=run_entry_at (P:=P) w2 r b clock seen es clock e hrr hbb hme.1 gb.2
  refine aA1 h5.guard (v:=.tuple #[e.key,e.val]) (w':=w2) (by simp [execOp,h5.op,q2.con (t:=42) rfl,hen]) ?_
  rw [h5.dst]
  have q3:=q2.put (t:=45) (v:=.tuple #[e.key,e.val]) (av:=.con (.tuple #[e.key,e.val])) (by omega) (.fz (.con _))
  refine aA1 h6.guard (v:=e.key) (w':=w2) (by rw [execOp,h6.op]; simp only [q3.con (t:=45) rfl]; rfl) ?_
  rw [h6.dst]
  have q4:=q3.put (t:=46) (v:=e.key) (av:=.con e.key) (by omega) (.fz (.con _))
  refine aA1 h7.guard (v:=e.key) (w':=w2) (by simp [execOp,h7.op,q4.con (t:=46) rfl]) ?_
  rw [h7.dst]
  have q5:=q4.put (t:=11) (v:=e.key) (av:=p.1) (by omega) (.fz hpk)
  show ((Code.region i15 #[o8] false).seq _).wp P _ _ w2
  refine wp_seq (wp_region_list ?_)
  show wpList P _ _ [o8] _ w2
  refine aA1 h8.guard (v:=.int .i64 (-1)) (w':=w2) (by simp [execOp,h8.op,Act.eval]) ?_
  rw [h8.dst]
  have q6:=q5.put (t:=12) (v:=.int .i64 (-1)) (av:=.int (-1)) (by omega) (.fz (.int (by unfold P8; omega)))
  show (((Code.region i16 #[o9,oa,ob] false).seq c1).seq c2).wp P _ _ w2
  refine wp_seq (wp_seq (wp_region_list ?_))
  show wpList P _ _ [o9,oa,ob] _ w2
  refine aA1 h9.guard (v:=.map (some b)) (w':=w2) (by simp [execOp,h9.op,q6.con (t:=8) rfl]) ?_
  rw [h9.dst]
  have q7:=q6.put (t:=47) (v:=.map (some b)) (av:=.con (.map (some b))) (by omega) (.fz (.con _))
  have hlen:es.size=l.length:=by rw [←g2.length]; simp
  refine aA1 ha.guard (v:=.int .i64 (l.length:Int)) (w':=w2) (by
   simp [execOp,ha.op,resolve,invoke,builtin,Builtin.len_,run_underlying ht,q7.con (t:=47) rfl,MapKept.run_getObj_map hbb,goInt,hlen]) ?_
  rw [ha.dst]
  have q8:=q7.put (t:=48) (v:=.int .i64 (l.length:Int)) (av:=.int (l.length:Int)) (by omega) (.fz (.int (Z9 g3)))
  have ec:∀(x:Act) (v:Value),x.eval (.const v)=v:=fun _ _=>rfl
  refine aA1 hob.guard (v:=.bool (decide ((l.length:Int)≤3))) (w':=w2) (by simp [execOp,hob.op,q8.int (t:=48) rfl,ec,eqGuard,binOp,Op.intCmp]) ?_
  rw [hob.dst]
  have q9:=(q8.put (t:=49) (v:=.bool (decide ((l.length:Int)≤3))) (av:=.bool (decide ((l.length:Int)≤3))) (by omega) (.fz (.bool _))).sub (ts2:=[(49,.bool (decide ((l.length:Int)≤3))),(12,.int (-1)),(11,p.1),(42,.con (.pointer (some ⟨r,0,none⟩))),(8,.con (.map (some b))),(1,A1),(3,A3),(7,A7),(16,A16),(17,A17),(18,A18)]) (os2:=So) (by repeat (first|exact trivial|exact rfl|(refine And.intro ?_ ?_))) (fun _ _ h=>h)
  have hrunB:=(hbody (Γ.now c' w2 So) hn p hp _ _ l.length rfl g3).run _ _ ⟨c',q9.now⟩
  show c1.wp P _ _ w2
  refine wp_mono hrunB fun e1 a1 z1 ⟨ex1,ts1,os1,m1,m2,m3⟩=>?_
  cases ex1 with
  |exit id=>exact m2.elim
  |ret=>exact m2.elim
  |normal =>
   cases e1<;>simp only [exM] at m1
   simp only [Exit.then]
   refine wp_mono (j3.run m2 a1 z1 m3) fun e2 a3 z2 ⟨ex2,ts2,os2,m4,m5,m6⟩=>?_
   cases ex2 with
   |exit id=>exact m5.elim
   |ret=>exact m5.elim
   |normal =>
    cases e2<;>simp only [exM] at m4
    obtain ⟨ts3,os3,⟨_,rl,_,hs⟩,hr3⟩:=I8.run m5 a3 z2 m6
    obtain ⟨c3,hF3⟩:=hs.rel (Γ:=Γ.now c' w2 So) (by show (List.all _ fun p:Nat×AV=>Nat.blt p.1 Γ.n)=true; rw [hn]; rfl) hr3
    obtain ⟨d1,d2⟩:=hcb2.after hF3
    obtain ⟨d3,d4⟩:=hcr2.after hF3
    have hr2:z2.heap[r]?=some (.mapIter (some b) clock (seen.push e.born) clock):=d4.trans hrr
    simp only [Exit.inBlock,Exit.then]
    refine ⟨⟨c3,seen.push e.born,clock,q0.back hF3,d2.trans hbb,hr2,Nat.le_refl _,d1,d3,hEn2.mono (fun x hx=>?_) hF3.rel.inv.phi⟩,?_⟩
    ·refine hF3.rel.inv.keep x fun q=>?_
     rcases q with q|⟨id,o,hl,hf⟩
     ·exact absurd (q0.rel.hok.phi x hx) (Nat.not_lt.2 q)
     ·exact (q0.rel.hok.lt id o x hl hf).2 hx
    ·have e5:aL9 es r z2=(leftOf es (seen.push e.born)).size:=by unfold aL9; rw [hr2]
     rw [hmu,e5]
     exact left_shrinks es seen e he
end
end Go.Proofs.Ytahmeibkdhbngaa
