import Derived.Test.YtibjcppjfkamhaaGreatDoorAg
/- THE WALK OVER READINGS: a region that draws its order, the second half. No program in sight. -/
namespace Go.Proofs.YtibjcppjfkamhaaGreatDoor
open Go.RowKit
set_option linter.unusedVariables false
section
variable {P:Program} {Γ:Fun} {ops:List Oper} {R:Nat→OpR} {ts0:Ts} {os0:Os}
theorem cN3 {o:Oper} {i:Nat}:waits o i=true↔∃e∈o.after,Region.binds .any e=true∧e.on=i:=by
 unfold waits
 rw [List.any_eq_true]
 constructor
 ·rintro ⟨e,he,hb⟩
  simp only [Bool.and_eq_true] at hb
  exact ⟨e,by simpa using he,hb.1,Nat.eq_of_beq_eq_true hb.2⟩
 ·rintro ⟨e,he,hb,rfl⟩
  exact ⟨e,by simpa using he,by simp [hb]⟩
theorem bR4 (hd:aK0 ops=true) {σ:List Nat} (hσ:aL2 ops σ) {k:Nat} {o:Oper} (ho:ops[k]?=some o) (hk:k ∉ σ) (hw:∀i,waits o i=true→i∈σ) {b:Bool} (h:aE4 ops o (K7 ops R ts0 (down k)) b):aE4 ops o (K7 ops R ts0 σ) b:=by
 have hsame:∀t∈readsOf ops o,lk (K7 ops R ts0 σ) t=lk (K7 ops R ts0 (down k)) t:=fun t ht=>b80 hd hσ ho hk hw ht
 unfold aE4 at h ⊢
 split at h
 ·exact h
 ·rename_i j want hn
  rcases h with ⟨h1,h2⟩|⟨x,h1,h2⟩
  ·refine .inl ⟨?_,h2⟩
   unfold bL2 at h1 ⊢
   cases hj:ops[j]? with
   |none=>rw [hj] at h1; cases h1
   |some y =>
    rw [hj] at h1
    simp only at h1 ⊢
    cases hdst:y.dst with
    |none=>rw [hdst] at h1; cases h1
    |some d =>
     rw [hdst] at h1
     simp only at h1 ⊢
     rw [hsame d (by unfold readsOf; rw [hn]; simp [hj,hdst])]
     exact h1
  refine .inr ⟨x,?_,h2⟩
  unfold bL4 at h1 ⊢
  cases hj:ops[j]? with
  |none=>rw [hj] at h1; cases h1
  |some y =>
   rw [hj] at h1
   simp only at h1 ⊢
   cases hdst:y.dst with
   |none=>rw [hdst] at h1; cases h1
   |some d =>
    rw [hdst] at h1
    simp only at h1 ⊢
    rw [hsame d (by unfold readsOf; rw [hn]; simp [hj,hdst])]
    exact h1
theorem cR8 (hd:aK0 ops=true) (hL:Lex P Γ ops R ts0 os0 ops.length) {σ:List Nat} (hσ:aL2 ops σ) {k:Nat} {o:Oper} (ho:ops[k]?=some o) (hk:k ∉ σ) (hw:∀i,waits o i=true→i∈σ) {a:Act} {w:World}
  (hr:G5 Γ (K7 ops R ts0 σ) (Q0 R os0 σ) a w) {K:Act→World→Prop} {Q:Exit→Act→World→Prop} (hK:∀a' w',G5 Γ (K7 ops R ts0 (k::σ)) (Q0 R os0 (k::σ)) a' w'→K a' w'):wpOp P ops.toArray Q k K a w:=by
 have hkl:k < ops.length:=(List.getElem?_eq_some_iff.1 ho).1
 have hdst:=hL.dst k o hkl ho
 obtain ⟨c,hrel⟩:=hr
 have hts:=hrel.rel.ts
 unfold wpOp
 have ho':ops.toArray[k]?=some o:=by simpa using ho
 simp only [ho']
 have ets:∀v,G5 Γ (aI8 o.dst (R k).av (K7 ops R ts0 σ)) ((R k).upd++Q0 R os0 σ) (a.put o.dst v) w→True:=fun _ _=>trivial
 have tsc:K7 ops R ts0 (k::σ)=aI8 o.dst (R k).av (K7 ops R ts0 σ):=by
  rw [K7,ho]
  cases hdd:o.dst<;>simp [aI8,hdd]
 rcases hL.did k o hkl ho with D|S
 ·rw [(bR4 hd hσ ho hk hw D.guard).run hts,if_pos rfl]
  left
  have hev:∀x∈o.op.operands.toList,Rd c w (a.eval x) (evO (K7 ops R ts0 (down k)) x):=fun x hx=>by
   have e:evO (K7 ops R ts0 (down k)) x=evO (K7 ops R ts0 σ) x:=by
    cases x with
    |tmp t =>
     unfold evO
     simp only
     rw [b80 hd hσ ho hk hw (by unfold readsOf; rw [List.mem_append]; left; rw [List.mem_filterMap]; exact ⟨.tmp t,hx,rfl⟩)]
    |_=>rfl
   rw [e]
   exact bL9 hts x
  have hneed0:∃need',Tri P o (evO (K7 ops R ts0 (down k))) (R k).av need' (R k).upd (R k).news∧∀id ob,lk need' id=some ob→lk (Q0 R os0 σ) id=some ob:=by
   by_cases hall:∀j∈σ,k < j→Rw (R k) (R j)
   ·refine ⟨(R k).need,D.tri,fun id ob h=>?_⟩
    rw [cQ2 (n:=0) hL hσ ho hk hw (aH5 (by rw [h]; rfl)) hall]
    exact D.need id ob h
   ·simp only [Classical.not_forall] at hall
    obtain ⟨m,hm,hkm,hN⟩:=hall
    have hml:=hσ.lt m hm
    have hmo:ops[m]?=some ops[m]:=List.getElem?_eq_getElem hml
    have hS:bQ1 P ops R ts0 os0 k m:=by
     cases hwt:aB1 ops ops[m] k with
     |true =>
      obtain ⟨pre,post,he⟩:=List.append_of_mem hm
      have:=hσ.wait2 he hmo hwt
      exact absurd (by rw [he]; simp [this]) hk
     |false=>exact (hL.comm k m _ hkm hml hmo hwt).2.resolve_left hN
    obtain ⟨o',need',ho2,ht,hn,hsub⟩:=hS.tri
    rw [ho] at ho2
    cases ho2
    refine ⟨need',by rw [hS.upd,hS.news]; exact ht,fun id ob h=>?_⟩
    rw [cS1 hL hσ ho hk hw hm hkm hS hN (hsub _ (aH5 (by rw [h]; rfl)))]
    exact hn id ob h
  obtain ⟨need',tri',hneed⟩:=hneed0
  have later:∀j∈σ,¬j < k→∀x∈(R k).news,x ∉ mentions (R j):=fun j hj hjk x hx=>by
   have hne:j≠k:=fun e=>hk (e▸hj)
   have hjl:=hσ.lt j hj
   have hjo:ops[j]?=some ops[j]:=List.getElem?_eq_getElem hjl
   cases hwt:aB1 ops ops[j] k with
   |true =>
    obtain ⟨pre,post,he⟩:=List.append_of_mem hj
    have:=hσ.wait2 he hjo hwt
    exact absurd (by rw [he]; simp [this]) hk
   |false=>exact (hL.comm k j _ (by omega) hjl hjo hwt).1.nm x hx
  have memd:∀j,j < k→∀p:Nat×AV,True:=fun _ _ _=>trivial
  have tsmem:∀j,j < k→(∃d,(ops[j]?).bind (·.dst)=some d∧(d,(R j).av)∈K7 ops R ts0 (down k))∨(ops[j]?).bind (·.dst)=none:=by
   have:∀n j,j < n→(∃d,(ops[j]?).bind (·.dst)=some d∧(d,(R j).av)∈K7 ops R ts0 (down n))∨(ops[j]?).bind (·.dst)=none:=by
    intro n
    induction n with
    |zero=>intro j h; omega
    |succ n ih =>
     intro j h
     rcases Nat.lt_or_eq_of_le (Nat.le_of_lt_succ h) with h|h
     ·rcases ih j h with ⟨d,h1,h2⟩|h1
      ·refine .inl ⟨d,h1,?_⟩
       simp only [down,K7]
       split
       ·exact List.mem_cons_of_mem _ h2
       ·exact h2
      ·exact .inr h1
     ·subst h
      cases hdd:(ops[j]?).bind (·.dst) with
      |none=>exact .inr rfl
      |some d=>refine .inl ⟨d,rfl,?_⟩; simp only [down,K7,hdd]; simp
   exact fun j h=>this k j h
  have tsinit:∀p∈ts0,p∈K7 ops R ts0 (down k):=by
   have:∀n,∀p∈ts0,p∈K7 ops R ts0 (down n):=by
    intro n
    induction n with
    |zero=>exact fun p h=>h
    |succ n ih =>
     intro p h
     simp only [down,K7]
     split
     ·exact List.mem_cons_of_mem _ (ih p h)
     ·exact ih p h
   exact this k
  have osmem:∀j,j < k→∀p∈(R j).upd,p∈Q0 R os0 (down k):=by
   have:∀n j,j < n→∀p∈(R j).upd,p∈Q0 R os0 (down n):=by
    intro n
    induction n with
    |zero=>intro j h; omega
    |succ n ih =>
     intro j h p hp
     simp only [down,Q0]
     rcases Nat.lt_or_eq_of_le (Nat.le_of_lt_succ h) with h|h
     ·exact List.mem_append_right _ (ih j h p hp)
     ·subst h; exact List.mem_append_left _ hp
   exact fun j h=>this k j h
  have osinit:∀p∈os0,p∈Q0 R os0 (down k):=by
   have:∀n,∀p∈os0,p∈Q0 R os0 (down n):=by
    intro n
    induction n with
    |zero=>exact fun p h=>h
    |succ n ih=>intro p h; simp only [down,Q0]; exact List.mem_append_right _ (ih p h)
   exact this k
  have fts:∀t x,lk (K7 ops R ts0 σ) t=some x→∀id∈(R k).news,id ∉ x.ids:=by
   intro t x hl id hid
   have key:∀p∈K7 ops R ts0 (down k),id ∉ p.2.ids:=fun p hp=>by
    have hf:=D.fts
    unfold K9 at hf
    split at hf
    ·rename_i e; rw [e] at hid; cases hid
    ·exact aL9 (List.all_eq_true.1 hf p hp) id hid
   rw [bG1] at hl
   cases hf:σ.find? (wrT ops t) with
   |none=>rw [hf] at hl; exact key _ (tsinit _ (aA5 hl))
   |some j =>
    rw [hf] at hl
    simp only [Option.some.injEq] at hl
    subst hl
    have hj:=List.mem_of_find?_eq_some hf
    by_cases hjk:j < k
    ·rcases tsmem j hjk with ⟨d,_,hm⟩|hnn
     ·exact key _ hm
     ·have:=List.find?_some hf
      unfold wrT at this
      rw [hnn] at this
      simp at this
    ·intro hm
     exact later j hj hjk id hid (by unfold mentions; simp [hm])
  have fos:(∀id ob,lk (Q0 R os0 σ) id=some ob→lk (R k).upd id=none→∀x∈(R k).news,x ∉ ob.ids)∧∀x∈(R k).news,x < top:=by
   refine ⟨fun id ob hl hu x hx hm=>?_,(aM1 D.fos).2⟩
   have key:∀p∈Q0 R os0 (down k),p.1=id→x ∉ p.2.ids:=fun p hp he=>by
    have hf:=D.fos
    unfold L8 at hf
    split at hf
    ·rename_i e; rw [e] at hx; cases hx
    ·simp only [Bool.and_eq_true] at hf
     have:=List.all_eq_true.1 hf.2 p hp
     rw [he,hu] at this
     simp only [Option.isSome_none,Bool.false_or] at this
     exact aL9 this x hx
   rw [bA8] at hl
   cases hf:σ.find? (wrO R id) with
   |none=>rw [hf] at hl; exact key _ (osinit _ (aA5 hl)) rfl hm
   |some j =>
    rw [hf] at hl
    simp only at hl
    have hj:=List.mem_of_find?_eq_some hf
    by_cases hjk:j < k
    ·exact key _ (osmem j hjk _ (aA5 hl)) rfl hm
    ·refine later j hj hjk x hx ?_
     unfold mentions
     rw [List.mem_append]
     right
     rw [List.mem_flatMap]
     exact ⟨_,aA5 hl,hm⟩
  have hgo:=tri' c w a.eval (hrel.rel.hok.sub hneed) hev
  unfold Oper.wp
  refine hgo.upon fun v w' ⟨c',hp,hv⟩=>hK _ _ ⟨c',?_,?_⟩
  ·have hn:=hrel.rel.n
   refine ⟨by rw [put_defers]; exact hrel.rel.defers,by rw [bF7]; exact hn,?_,?_,?_⟩
   ·rw [tsc]
    exact hts.put (hrel.rel.hok.sub hneed) hp fts hv (by rw [hn]; exact hdst)
   ·exact hrel.rel.hok.frame hneed hp D.news fos.1
   ·exact hrel.rel.inv.post hrel.rel.hok hneed hp D.news fos.1
  ·intro id hid
   have hno:id ∉ (R k).news:=fun hm=>by have:=fos.2 id hm; omega
   have h1:=hp.ctx id hno
   have h2:=hrel.same id hid
   exact ⟨h1.1.trans h2.1,h1.2.trans h2.2⟩
 ·rw [(bR4 hd hσ ho hk hw S.guard).run hts,if_neg (by simp)]
  have hs:=bF5 (o:=o) ⟨c,hrel⟩ hdst
  refine hK _ _ ?_
  rw [tsc,Q0,S.eq]
  exact hs
theorem cF6 (hd:aK0 ops=true) (hL:Lex P Γ ops R ts0 os0 ops.length) {Q:Exit→Act→World→Prop} (hQ:∀a w,G5 Γ (K7 ops R ts0 (down ops.length)) (Q0 R os0 (down ops.length)) a w→Q .normal a w) :
  ∀(fuel:Nat) (listed:Array Bool) (σ:List Nat) (a:Act) (w:World),aL2 ops σ→(∀i,i < ops.length→(listed.getD i true=true↔i∈σ))→listed.size=ops.length→σ.length+fuel=ops.length →
   G5 Γ (K7 ops R ts0 σ) (Q0 R os0 σ) a w→wpAny P .any ops.toArray Q fuel listed a w:=by
 have least:∀(listed:Array Bool) (σ:List Nat),aL2 ops σ→(∀i,i < ops.length→(listed.getD i true=true↔i∈σ))→listed.size=ops.length→Region.ready .any ops.toArray listed=[]→∀i,i < ops.length→i∈σ:=by
  intro listed σ hσ hl hs hr i
  induction i using Nat.strongRecOn with
  |_ i ih =>
   intro hi
   cases hb:listed.getD i true with
   |true=>exact (hl i hi).1 hb
   |false =>
    exfalso
    have hm:i∈Region.ready .any ops.toArray listed:=by
     rw [mem_ready]
     refine ⟨hb,ops[i],by simp [hi],fun e he hbind=>?_⟩
     have h1:=hd
     unfold aK0 at h1
     simp only [Bool.and_eq_true] at h1
     have h2:=List.all_eq_true.1 h1.1.1 (ops[i],i) (by rw [List.mem_zipIdx_iff_getElem?]; exact List.getElem?_eq_getElem hi)
     simp only [List.all_eq_true] at h2
     have h3:=h2 e (by simpa using he)
     rw [hbind] at h3
     simp only [Bool.not_true,Bool.false_or] at h3
     have hlt:e.on < i:=Nat.le_of_ble_eq_true h3
     have h4:=(hl e.on (by omega)).2 (ih e.on hlt (by omega))
     have hsz:e.on < listed.size:=by omega
     simp only [Array.getD_eq_getD_getElem?,Array.getElem?_eq_getElem hsz,Option.getD_some] at h4 ⊢
     exact h4
    rw [hr] at hm
    cases hm
 have fin:∀(σ:List Nat) (a:Act) (w:World),aL2 ops σ→(∀i,i < ops.length→i∈σ)→G5 Γ (K7 ops R ts0 σ) (Q0 R os0 σ) a w→Q .normal a w:=fun σ a w hσ hall hr=>by
  obtain ⟨e1,e2⟩:=cR7 hd hL hσ hall
  exact hQ a w (hr.congr (fun t=>(e1 t).symm) fun id=>(e2 id).symm)
 intro fuel
 induction fuel with
 |zero =>
  intro listed σ a w hσ hl hs hlen hr
  have hall:∀i,i < ops.length→i∈σ:=fun i hi=>Classical.byContradiction fun hn=>by
   have:=cE7 ops.length (i::σ) (List.nodup_cons.2 ⟨hn,hσ.nodup⟩) fun j hj=>by
    rcases List.mem_cons.1 hj with rfl|hj
    ·exact hi
    ·exact hσ.lt j hj
   simp at this
   omega
  refine ⟨?_,fin σ a w hσ hall hr⟩
  apply List.eq_nil_iff_forall_not_mem.2
  intro i hi
  rw [mem_ready] at hi
  obtain ⟨h0,o,ho,_⟩:=hi
  have hil:i < ops.length:=by
   have:=(Array.getElem?_eq_some_iff.1 ho).1
   simpa using this
  have:=(hl i hil).2 (hall i hil)
  rw [h0] at this
  cases this
 |succ fuel ih =>
  intro listed σ a w hσ hl hs hlen hr
  refine ⟨fun hre=>fin σ a w hσ (least listed σ hσ hl hs hre) hr,fun i hi=>?_⟩
  rw [mem_ready] at hi
  obtain ⟨h0,o,ho,hedges⟩:=hi
  have hil:i < ops.length:=by
   have:=(Array.getElem?_eq_some_iff.1 ho).1
   simpa using this
  have ho':ops[i]?=some o:=by simpa using ho
  have hiσ:i ∉ σ:=fun h=>by
   have:=(hl i hil).2 h
   rw [h0] at this
   cases this
  have hw:∀j,waits o j=true→j∈σ:=fun j hj=>by
   obtain ⟨e,he,hb,rfl⟩:=cN3.1 hj
   have h1:=hedges e he hb
   have hsz:e.on < listed.size:=Classical.byContradiction fun hge=>by
    simp only [Array.getD_eq_getD_getElem?,Array.getElem?_eq_none (Nat.le_of_not_lt hge),Option.getD_none] at h1
    cases h1
   have h2:listed.getD e.on true=true:=by
    simp only [Array.getD_eq_getD_getElem?,Array.getElem?_eq_getElem hsz,Option.getD_some] at h1 ⊢
    exact h1
   exact (hl e.on (by omega)).1 h2
  refine cR8 hd hL hσ ho' hiσ hw hr fun a' w' hr'=>ih _ (i::σ) a' w' (hσ.cons ho' hiσ hw) (fun j hj=>?_) (by simpa using hs) (by simp; omega) hr'
  by_cases hij:i=j
  ·subst hij
   have:i < listed.size:=by omega
   simp [this]
  ·rw [getD_set_ne true hij]
   rw [hl j hj,List.mem_cons]
   exact ⟨.inr,fun h=>h.resolve_left fun e=>hij e.symm⟩
end
end Go.Proofs.YtibjcppjfkamhaaGreatDoor
namespace Go.Proofs.YtibjcppjfkamhaaGreatDoor
open Go.RowKit
set_option linter.unusedVariables false
def dis (a b:List Nat):Bool:=a.all fun x=>!(b.elem x)
theorem aO2 {a b:List Nat} (h:dis a b=true):∀x∈a,x ∉ b:=fun x hx hb=>by
 have:=List.all_eq_true.1 h x hx
 simp at this
 exact this hb
structure a08 where
 k:Nat
 need:List Nat
 writes:List Nat
 news:List Nat
def cB6 (ops:List Oper) (o:Oper) (log:List a08) (rd:List Nat) (up:Os) (av:AV):Bool :=
 log.all fun r=>(dis r.writes rd && dis r.writes (keys up) && dis (keys up) r.need && dis r.news (av.ids++up.flatMap fun p=>p.2.ids)) || aB1 ops o r.k
def bG3 (k:Nat) (rd nw:List Nat) (up:Os) (log:List a08):List a08 :=
 match rd,up with
 |[],[]=>log
 |_,_=>⟨k,rd,keys up,nw⟩::log
def vcD (P:Program) (tab:Q6) (et:aG9) (n:Nat) (ops:List Oper):Nat→List Oper→Ts→Os→List a08→(Ts→Os→Prop)→Prop
 |_,[],ts,os,_,K=>K ts os
 |k,o::rest,ts,os,log,K=>match o.dst with
  |some d=>match Nat.blt d n with
   |true=>aX7 ops o ts
    (aU0 P tab et d o.op (evO ts) os fun av rd nw up=>match K9 nw ts && L8 nw up os && cB6 ops o log rd up av with
     |true=>force av fun av=>bM5 up os fun os=>vcD P tab et n ops (k+1) rest ((d,av)::ts) os (bG3 k rd nw up log) K
     |false=>False)
    (vcD P tab et n ops (k+1) rest ((d,.tup [])::ts) os log K)
   |false=>False
  |none=>aX7 ops o ts
   (aU0 P tab et 0 o.op (evO ts) os fun av rd nw up=>match K9 nw ts && L8 nw up os && cB6 ops o log rd up av with
    |true=>bM5 up os fun os=>vcD P tab et n ops (k+1) rest ts os (bG3 k rd nw up log) K
    |false=>False)
   (vcD P tab et n ops (k+1) rest ts os log K)
section
variable {P:Program} {tab:Q6} {et:aG9} {Γ:Fun} {ops:List Oper} {ts0:Ts} {os0:Os}
theorem bI5 {o:Oper} {ts:Ts} {X Y:Prop} (h:aX7 ops o ts X Y):(aE4 ops o ts true∧X)∨(aE4 ops o ts false∧Y):=by
 unfold aX7 at h
 unfold aE4
 cases hg:o.guard with
 |none=>rw [hg] at h; exact .inl ⟨rfl,h⟩
 |some p =>
  obtain ⟨j,want⟩:=p
  rw [hg] at h
  cases want with
  |true =>
   simp only at h ⊢
   split at h
   ·rename_i hu
    exact .inr ⟨.inl (by simp [hu]),h⟩
   split at h
   ·rename_i b hb
    cases b
    ·exact .inr ⟨.inr ⟨false,hb,rfl⟩,h⟩
    ·exact .inl ⟨.inr ⟨true,hb,rfl⟩,h⟩
   ·exact h.elim
  |false =>
   simp only at h ⊢
   split at h
   ·rename_i hu
    exact .inr ⟨.inl (by simp [hu]),h⟩
   split at h
   ·rename_i b hb
    cases b
    ·exact .inl ⟨.inr ⟨false,hb,rfl⟩,h⟩
    ·exact .inr ⟨.inr ⟨true,hb,rfl⟩,h⟩
   ·exact h.elim
def M5 (R:Nat→OpR) (k:Nat) (r:OpR):Nat→OpR:=fun i=>if i=k then r else R i
theorem aR3 (R:Nat→OpR) (k:Nat) (r:OpR):∀n,n≤k→K7 ops (M5 R k r) ts0 (down n)=K7 ops R ts0 (down n)
 |0,_=>rfl
 |n+1,h=>by
  have e:M5 R k r n=R n:=by unfold M5; rw [if_neg (by omega)]
  simp only [down,K7,aR3 R k r n (by omega),e]
theorem a81 (R:Nat→OpR) (k:Nat) (r:OpR):∀n,n≤k→Q0 (M5 R k r) os0 (down n)=Q0 R os0 (down n)
 |0,_=>rfl
 |n+1,h=>by
  have e:M5 R k r n=R n:=by unfold M5; rw [if_neg (by omega)]
  simp only [down,Q0,a81 R k r n (by omega),e]
def bH5 (R:Nat→OpR) (k:Nat) (log:List a08):Prop:=∀i,i < k→((R i).need=[]∧(R i).upd=[]∧(R i).news=[])∨∃r∈log,r.k=i∧r.need=keys (R i).need∧r.writes=keys (R i).upd∧r.news=(R i).news
theorem Comm.trivial_left {a b:OpR} (h:a.need=[]∧a.upd=[]∧a.news=[]):Comm a b:=by
 obtain ⟨h1,h2,h3⟩:=h
 refine ⟨fun id hi=>?_,fun id hi=>?_,fun id hi=>?_⟩
 ·rw [h2] at hi; cases hi
 ·rw [h2] at hi; cases hi
 ·rw [h3] at hi; cases hi
theorem Rw.trivial_left {a b:OpR} (h:a.need=[]):Rw a b:=fun id _ hi=>by rw [h] at hi; cases hi
theorem bQ1.set {P:Program} {R:Nat→OpR} {i k j:Nat} {r:OpR} (hik:i < k) (hkj:k < j) (h:bQ1 P ops R ts0 os0 i k):bQ1 P ops (M5 R j r) ts0 os0 i k:=by
 have eo:∀i,i≠j→M5 R j r i=R i:=fun i h=>by unfold M5; rw [if_neg h]
 obtain ⟨h1,h2,h3,o,need',h4,h5,h6,h7⟩:=h
 refine ⟨by rw [eo i (by omega)]; exact h1,by rw [eo i (by omega)]; exact h2,fun m hm hmk=>by rw [eo m (by omega),eo i (by omega)]; exact h3 m hm hmk,o,need',h4,?_,?_,by rw [eo i (by omega)]; exact h7⟩
 ·rw [aR3 R j r i (by omega),eo i (by omega)]
  exact h5
 ·rw [a81 R j r (k+1) (by omega)]
  exact h6
theorem Lex.step {R:Nat→OpR} {k:Nat} {o:Oper} {r:OpR} (hL:Lex P Γ ops R ts0 os0 k) (ho:ops[k]?=some o)
  (hd:cU5 P Γ ops o (K7 ops R ts0 (down k)) (Q0 R os0 (down k)) r∨cM4 ops o (K7 ops R ts0 (down k)) r) (hdst:aR7 Γ.n o.dst=true) (hc:∀i,i < k→aB1 ops o i=false→Comm (R i) r∧(Rw (R i) r∨bQ1 P ops (M5 R k r) ts0 os0 i k)):Lex P Γ ops (M5 R k r) ts0 os0 (k+1):=by
 have eo:∀i,i≠k→M5 R k r i=R i:=fun i h=>by unfold M5; rw [if_neg h]
 have ek:M5 R k r k=r:=by unfold M5; rw [if_pos rfl]
 refine ⟨fun j x hj hx=>?_,fun j x hj hx=>?_,fun i j x hij hj hx hw=>?_⟩
 ·rw [aR3 R k r j (by omega),a81 R k r j (by omega)]
  by_cases h:j=k
  ·subst h
   rw [ho] at hx
   cases hx
   rw [ek]
   exact hd
  ·rw [eo j h]
   exact hL.did j x (by omega) hx
 ·by_cases h:j=k
  ·subst h
   rw [ho] at hx
   cases hx
   exact hdst
  ·exact hL.dst j x (by omega) hx
 ·rw [eo i (by omega)]
  by_cases h:j=k
  ·subst h
   rw [ho] at hx
   cases hx
   rw [ek]
   exact hc i hij hw
  ·rw [eo j h]
   obtain ⟨h1,h2⟩:=hL.comm i j x hij (by omega) hx hw
   exact ⟨h1,h2.imp (fun h=>h) fun h=>h.set hij (by omega)⟩
theorem cS8 {os:Os} (h:os.map (·.1)=[]):os=[]:=by simpa using h
theorem cK6 {R:Nat→OpR} {k:Nat} {log:List a08} {o:Oper} {r:OpR} (hlog:bH5 R k log) (hc:cB6 ops o log (r.need.map (·.1)) r.upd r.av=true):∀i,i < k→aB1 ops o i=false→Comm (R i) r∧Rw (R i) r:=by
 intro i hi hw
 rcases hlog i hi with h|⟨x,hx,rfl,h2,h3,h4⟩
 ·exact ⟨.trivial_left h,.trivial_left h.1⟩
 ·have:=List.all_eq_true.1 hc x hx
  rw [hw,Bool.or_false] at this
  simp only [Bool.and_eq_true] at this
  obtain ⟨⟨⟨c1,c2⟩,c3⟩,c4⟩:=this
  rw [h3] at c1 c2
  rw [h2] at c3
  rw [h4] at c4
  exact ⟨⟨aO2 c1,aO2 c2,aO2 c4⟩,aO2 c3⟩
theorem b89 {R:Nat→OpR} {k:Nat} {log:List a08} {r:OpR} (hlog:bH5 R k log) (hn:∀id∈r.news,(lk r.upd id).isSome=true):bH5 (M5 R k r) (k+1) (bG3 k (r.need.map (·.1)) r.news r.upd log):=by
 intro i hi
 have eo:∀i,i≠k→M5 R k r i=R i:=fun i h=>by unfold M5; rw [if_neg h]
 have ek:M5 R k r k=r:=by unfold M5; rw [if_pos rfl]
 have grow:∀x∈log,x∈bG3 k (r.need.map (·.1)) r.news r.upd log:=fun x hx=>by
  unfold bG3
  split
  ·exact hx
  ·exact List.mem_cons_of_mem _ hx
 by_cases h:i=k
 ·subst h
  rw [ek]
  unfold bG3
  split
  ·rename_i h1 h2
   have hn0:r.news=[]:=List.eq_nil_iff_forall_not_mem.2 fun id hid=>by
    have:=hn id hid
    rw [h2] at this
    cases this
   exact .inl ⟨cS8 h1,h2,hn0⟩
  ·exact .inr ⟨_,List.mem_cons_self,rfl,rfl,rfl,rfl⟩
 ·rw [eo i h]
  exact (hlog i (by omega)).imp (fun h=>h) fun ⟨x,hx,e⟩=>⟨x,grow x hx,e⟩
theorem b58 (hT:O3 P tab) (hE:aF3 P et):∀(l:List Oper) (k:Nat) (R:Nat→OpR) (log:List a08) (K:Ts→Os→Prop),vcD P tab et Γ.n ops k l (K7 ops R ts0 (down k)) (Q0 R os0 (down k)) log K→Lex P Γ ops R ts0 os0 k→bH5 R k log→(∀j,l[j]?=ops[k+j]?)→k+l.length=ops.length →
  (∃a w,G5 Γ (K7 ops R ts0 (down k)) (Q0 R os0 (down k)) a w)→∃R',Lex P Γ ops R' ts0 os0 ops.length∧K (K7 ops R' ts0 (down ops.length)) (Q0 R' os0 (down ops.length))
 |[],k,R,log,K,h,hL,hlog,hl,hlen,hi=>by
  simp at hlen
  subst hlen
  exact ⟨R,hL,h⟩
 |o::l,k,R,log,K,h,hL,hlog,hl,hlen,hi=>by
  have ho:ops[k]?=some o:=by simpa using (hl 0).symm
  have hl':∀j,l[j]?=ops[k+1+j]?:=fun j=>by
   have:=hl (j+1)
   simpa [Nat.add_assoc,Nat.add_comm 1 j] using this
  have hlen':k+1+l.length=ops.length:=by simp at hlen; omega
  obtain ⟨a,w,hrel⟩:=hi
  have did:∀(d:Nat) (dst:aR7 Γ.n o.dst=true) (K0:Kt),aE4 ops o (K7 ops R ts0 (down k)) true→aU0 P tab et d o.op (evO (K7 ops R ts0 (down k))) (Q0 R os0 (down k)) K0 →
    (∀av rd nw up,K0 av rd nw up→K9 nw (K7 ops R ts0 (down k))=true∧L8 nw up (Q0 R os0 (down k))=true∧cB6 ops o log rd up av=true∧vcD P tab et Γ.n ops (k+1) l (aI8 o.dst av (K7 ops R ts0 (down k))) (up++Q0 R os0 (down k)) (bG3 k rd nw up log) K) →
    ∃R',Lex P Γ ops R' ts0 os0 ops.length∧K (K7 ops R' ts0 (down ops.length)) (Q0 R' os0 (down ops.length)):=by
   intro d dst K0 hg hst hK0
   obtain ⟨c,hrc⟩:=hrel
   have hev:∀x∈o.op.operands.toList,Rd c w (a.eval x) (evO (K7 ops R ts0 (down k)) x):=fun x _=>bL9 hrc.rel.ts x
   obtain ⟨av,need,upd,news,htri,hneed,hnews,hKK⟩:=step_ok hT hE d hst ⟨c,w,a.eval,hrc.rel.hok,hev⟩
   obtain ⟨f1,f2,f3,hnext⟩:=hK0 _ _ _ _ hKK
   let r:OpR:=⟨av,need,upd,news⟩
   have hL':=hL.step (r:=r) ho (.inl ⟨hg,htri,hneed,hnews,f1,f2⟩) dst (fun i hi hw=>(cK6 (r:=r) hlog f3 i hi hw).imp (fun h=>h) .inl)
   have hlog':=b89 (r:=r) (R:=R) hlog hnews
   have ek:M5 R k r k=r:=by unfold M5; rw [if_pos rfl]
   have ets:K7 ops (M5 R k r) ts0 (down (k+1))=aI8 o.dst av (K7 ops R ts0 (down k)):=by
    simp only [down,K7,aR3 R k r k (Nat.le_refl _),ho,ek]
    cases hdd:o.dst<;>simp [aI8,hdd,r]
   have eos:Q0 (M5 R k r) os0 (down (k+1))=upd++Q0 R os0 (down k):=by
    simp only [down,Q0,a81 R k r k (Nat.le_refl _),ek]
    rfl
   have hgo:=htri c w a.eval (hrc.rel.hok.sub hneed) hev
   obtain ⟨v,w',c',hp,hv⟩:=hgo.inst
   obtain ⟨g1,g2⟩:=aM1 f2
   have hrel':G5 Γ (aI8 o.dst av (K7 ops R ts0 (down k))) (upd++Q0 R os0 (down k)) (a.put o.dst v) w':=by
    refine ⟨c',⟨by rw [put_defers]; exact hrc.rel.defers,by rw [bF7]; exact hrc.rel.n,hrc.rel.ts.put (hrc.rel.hok.sub hneed) hp (aU9 f1) hv (by rw [hrc.rel.n]; exact dst),hrc.rel.hok.frame hneed hp hnews g1,hrc.rel.inv.post hrc.rel.hok hneed hp hnews g1⟩,fun id hid=>?_⟩
    have hno:id ∉ news:=fun hm=>by have:=g2 id hm; omega
    have h1:=hp.ctx id hno
    have h2:=hrc.same id hid
    exact ⟨h1.1.trans h2.1,h1.2.trans h2.2⟩
   exact b58 hT hE l (k+1) (M5 R k r) _ K (by rw [ets,eos]; exact hnext) hL' hlog' hl' hlen' ⟨_,_,by rw [ets,eos]; exact hrel'⟩
  have skip:aR7 Γ.n o.dst=true→aE4 ops o (K7 ops R ts0 (down k)) false→vcD P tab et Γ.n ops (k+1) l (aI8 o.dst (.tup []) (K7 ops R ts0 (down k))) (Q0 R os0 (down k)) log K →
    ∃R',Lex P Γ ops R' ts0 os0 ops.length∧K (K7 ops R' ts0 (down ops.length)) (Q0 R' os0 (down ops.length)):=by
   intro dst hg hnext
   let r:OpR:=⟨.tup [],[],[],[]⟩
   have hL':=hL.step (r:=r) ho (.inr ⟨hg,rfl⟩) dst (fun i hi hw=>⟨⟨fun id _ h=>(by cases h),fun id _ h=>(by cases h),fun id _ h=>(by cases h)⟩,.inl fun id h=>(by cases h)⟩)
   have hlog':bH5 (M5 R k r) (k+1) log:=fun i hi=>by
    by_cases h:i=k
    ·subst h
     have ek:M5 R i r i=r:=by unfold M5; rw [if_pos rfl]
     rw [ek]
     exact .inl ⟨rfl,rfl,rfl⟩
    ·have eo:M5 R k r i=R i:=by unfold M5; rw [if_neg h]
     rw [eo]
     exact hlog i (by omega)
   have ek:M5 R k r k=r:=by unfold M5; rw [if_pos rfl]
   have ets:K7 ops (M5 R k r) ts0 (down (k+1))=aI8 o.dst (.tup []) (K7 ops R ts0 (down k)):=by
    simp only [down,K7,aR3 R k r k (Nat.le_refl _),ho,ek]
    cases hdd:o.dst<;>simp [aI8,hdd,r]
   have eos:Q0 (M5 R k r) os0 (down (k+1))=Q0 R os0 (down k):=by
    simp only [down,Q0,a81 R k r k (Nat.le_refl _),ek]
    rfl
   exact b58 hT hE l (k+1) (M5 R k r) log K (by rw [ets,eos]; exact hnext) hL' hlog' hl' hlen' ⟨_,_,by rw [ets,eos]; exact bF5 (o:=o) hrel dst⟩
  unfold vcD at h
  split at h
  ·rename_i d hd
   split at h
   ·rename_i hdl
    have hdst:aR7 Γ.n o.dst=true:=by rw [hd]; exact hdl
    rcases bI5 h with ⟨hg,h⟩|⟨hg,h⟩
    ·refine did d hdst _ hg h fun av rd nw up hk=>?_
     split at hk
     ·rename_i hb
      simp only [Bool.and_eq_true] at hb
      rw [force_eq,a92] at hk
      exact ⟨hb.1.1,hb.1.2,hb.2,by rw [hd]; exact hk⟩
     ·exact hk.elim
    ·exact skip hdst hg (by rw [hd]; exact h)
   ·exact h.elim
  ·rename_i hd
   have hdst:aR7 Γ.n o.dst=true:=by rw [hd]; rfl
   rcases bI5 h with ⟨hg,h⟩|⟨hg,h⟩
   ·refine did 0 hdst _ hg h fun av rd nw up hk=>?_
    split at hk
    ·rename_i hb
     simp only [Bool.and_eq_true] at hb
     rw [a92] at hk
     exact ⟨hb.1.1,hb.1.2,hb.2,by rw [hd]; exact hk⟩
    ·exact hk.elim
   ·exact skip hdst hg (by rw [hd]; exact h)
theorem G5.drew {ts:Ts} {os:Os} {a:Act} {w:World} (h:G5 Γ ts os a w):G5 Γ ts os a { w with drawn:=w.drawn+1 }:=by
 obtain ⟨c,⟨h1,h2,h3,h4,h5⟩,h6⟩:=h
 refine ⟨c,⟨h1,h2,fun t x hl=>?_,⟨fun id o hl=>?_,h4.lt,h4.sep,h4.phi⟩,⟨h5.wos,h5.tape,h5.output,h5.size,h5.phi,h5.phiNew,h5.keep,h5.feet⟩⟩,h6⟩
 ·obtain ⟨v,q1,q2⟩:=h3 t x hl
  exact ⟨v,q1,Rd.mono (c:=c) (c':=c) (w:=w) (w':={ w with drawn:=w.drawn+1 }) (fun _ _=>rfl) (fun _ h=>h) (fun _ _=>⟨rfl,rfl⟩) q2⟩
 ·exact (h4.rep id o hl).keep (c':=c) ⟨rfl,rfl⟩ (fun _ _=>rfl) (fun _ h=>h) (fun _ _=>rfl) fun _ _=>⟨rfl,rfl⟩
theorem j5.draw (hT:O3 P tab) (hE:aF3 P et) {n:Nat} (hn:Γ.n=n) (hm:P.follows .mixedOrders=true) {id:Nat} {l:Array Oper} (hd:aK0 l.toList=true) {ts:Ts} {os:Os} {Q:Qt} (h:aX2 ts fun ts=>vcD P tab et n l.toList 0 l.toList ts os [] (Q .normal)):j5 P Γ (.region id l true) ts os Q:=by
 subst hn
 rw [bA3] at h
 refine ⟨fun a w hr=>wp_region_any hm ?_⟩
 have hr':=hr.drew
 obtain ⟨R,hL,hK⟩:=b58 (ops:=l.toList) (ts0:=ts) (os0:=os) hT hE l.toList 0 (fun _=>default) [] _ h ⟨fun k o hk=>absurd hk (by omega),fun k o hk=>absurd hk (by omega),fun i k o _ hk=>absurd hk (by omega)⟩ (fun i hi=>absurd hi (by omega)) (fun j=>by rw [Nat.zero_add]) (by omega) ⟨_,_,hr'⟩
 have:=cF6 (Q:=fun e a' w'=>∃ex ts' os',exM e ex∧Q ex ts' os'∧G5 Γ ts' os' a' w') hd hL (fun a' w' hr2=>⟨.normal,_,_,trivial,hK,hr2⟩) l.toList.length (Array.replicate l.size false) [] a _ (bQ4 hd 0 (Nat.zero_le _)) (fun i hi=>by
  have:i < l.size:=by simpa using hi
  simp [this]) (by simp) (by simp) hr'
 simpa using this
structure Sv where
 o:Oper
 ts:Ts
 av:AV
 rd:List Nat
def cB4 (ops:List Oper) (o:Oper) (k ks ms:Nat) (log:List a08) (rd:List Nat) (up:Os) (av:AV):Bool :=
 log.all fun r=>(dis r.writes rd && dis r.writes (keys up) && (dis (keys up) r.need || (Nat.beq r.k ks && Nat.beq k ms)) && dis r.news (av.ids++up.flatMap fun p=>p.2.ids)) || aB1 ops o r.k
def cI7 (ts ts':Ts):List Operand→Prop
 |[]=>True
 |x::l=>evO ts' x=evO ts x∧cI7 ts ts' l
theorem b08 {ts ts':Ts}:∀{l:List Operand},cI7 ts ts' l→∀x∈l,evO ts' x=evO ts x
 |[],_,x,h=>(by cases h)
 |y::l,h,x,hx=>by
  rcases List.mem_cons.1 hx with rfl|hx
  ·exact h.1
  ·exact b08 h.2 x hx
def dD4 (ks:Nat) (rd:List Nat) (log:List a08):Bool:=log.all fun r=>!(Nat.blt ks r.k) || dis r.writes rd
def cB5 (P:Program) (tab:Q6) (et:aG9) (k ks ms:Nat) (sv:Option Sv) (log:List a08) (ts:Ts) (os:Os) (K:Prop):Prop :=
 match Nat.beq k ms with
 |true=>match sv with
  |some s=>(dD4 ks s.rd log=true∧cI7 s.ts ts s.o.op.operands.toList∧aU0 P tab et 0 s.o.op (evO s.ts) os fun av rd nw up=>av=s.av∧nw=[]∧up=[]∧(rd.all fun x=>s.rd.elem x)=true)∧K
  |none=>False
 |false=>K
def bU5 (k ks:Nat) (o:Oper) (ts:Ts) (av:AV) (rd nw:List Nat) (up:Os) (sv:Option Sv):Option Sv :=
 match Nat.beq k ks with
 |true=>match nw,up with
  |[],[]=>some ⟨o,ts,av,rd⟩
  |_,_=>sv
 |false=>sv
def vcE (P:Program) (tab:Q6) (et:aG9) (n:Nat) (ops:List Oper) (ks ms:Nat):Nat→List Oper→Ts→Os→List a08→Option Sv→(Ts→Os→Prop)→Prop
 |_,[],ts,os,_,_,K=>K ts os
 |k,o::rest,ts,os,log,sv,K=>match o.dst with
  |some d=>match Nat.blt d n with
   |true=>aX7 ops o ts
    (aU0 P tab et d o.op (evO ts) os fun av rd nw up=>match K9 nw ts && L8 nw up os && cB4 ops o k ks ms log rd up av with
     |true=>force av fun av=>bM5 up os fun os=>cB5 P tab et k ks ms sv log ((d,av)::ts) os (vcE P tab et n ops ks ms (k+1) rest ((d,av)::ts) os (bG3 k rd nw up log) (bU5 k ks o ts av rd nw up sv) K)
     |false=>False)
    (vcE P tab et n ops ks ms (k+1) rest ((d,.tup [])::ts) os log sv K)
   |false=>False
  |none=>aX7 ops o ts
   (aU0 P tab et 0 o.op (evO ts) os fun av rd nw up=>match K9 nw ts && L8 nw up os && cB4 ops o k ks ms log rd up av with
    |true=>bM5 up os fun os=>cB5 P tab et k ks ms sv log ts os (vcE P tab et n ops ks ms (k+1) rest ts os (bG3 k rd nw up log) (bU5 k ks o ts av rd nw up sv) K)
    |false=>False)
   (vcE P tab et n ops ks ms (k+1) rest ts os log sv K)
section
variable {P:Program} {tab:Q6} {et:aG9} {Γ:Fun} {ops:List Oper} {ts0:Ts} {os0:Os}
def bS2 (ops:List Oper) (R:Nat→OpR) (ts0:Ts) (ks k:Nat) (sv:Option Sv):Prop:=∀s,sv=some s→ks < k∧ops[ks]?=some s.o∧s.ts=K7 ops R ts0 (down ks)∧(R ks).av=s.av∧keys (R ks).need=s.rd∧(R ks).upd=[]∧(R ks).news=[]
theorem bS2.step {R:Nat→OpR} {ks k:Nat} {sv:Option Sv} {r:OpR} (h:bS2 ops R ts0 ks k sv):bS2 ops (M5 R k r) ts0 ks (k+1) sv:=fun s hs=>by
 obtain ⟨h1,h2,h3,h4⟩:=h s hs
 have e:M5 R k r ks=R ks:=by unfold M5; rw [if_neg (by omega)]
 exact ⟨by omega,h2,by rw [aR3 R k r ks (by omega)]; exact h3,by rw [e]; exact h4⟩
theorem bS2.save {R:Nat→OpR} {ks k:Nat} {sv:Option Sv} {o:Oper} {r:OpR} (h:bS2 ops R ts0 ks k sv) (ho:ops[k]?=some o):bS2 ops (M5 R k r) ts0 ks (k+1) (bU5 k ks o (K7 ops R ts0 (down k)) r.av (r.need.map (·.1)) r.news r.upd sv):=by
 unfold bU5
 split
 ·rename_i hk
  have:=Nat.eq_of_beq_eq_true hk
  subst this
  split
  ·rename_i h1 h2
   intro s hs
   cases hs
   have e:M5 R k r k=r:=by unfold M5; rw [if_pos rfl]
   exact ⟨by omega,ho,(aR3 R k r k (Nat.le_refl _)).symm,by rw [e],by rw [e]; rfl,by rw [e]; exact h2,by rw [e]; exact h1⟩
  ·exact h.step
 ·exact h.step
theorem cK0 {R:Nat→OpR} {k ks ms:Nat} {log:List a08} {o:Oper} {r:OpR} (hlog:bH5 R k log) (hc:cB4 ops o k ks ms log (r.need.map (·.1)) r.upd r.av=true):∀i,i < k→aB1 ops o i=false→Comm (R i) r∧(Rw (R i) r∨(i=ks∧k=ms)):=by
 intro i hi hw
 rcases hlog i hi with h|⟨x,hx,rfl,h2,h3,h4⟩
 ·exact ⟨.trivial_left h,.inl (.trivial_left h.1)⟩
 ·have:=List.all_eq_true.1 hc x hx
  rw [hw,Bool.or_false] at this
  simp only [Bool.and_eq_true,Bool.or_eq_true] at this
  obtain ⟨⟨⟨c1,c2⟩,c3⟩,c4⟩:=this
  rw [h3] at c1 c2
  rw [h2] at c3
  rw [h4] at c4
  refine ⟨⟨aO2 c1,aO2 c2,aO2 c4⟩,c3.imp (fun h=>aO2 h) fun h=>⟨Nat.eq_of_beq_eq_true h.1,Nat.eq_of_beq_eq_true h.2⟩⟩
theorem b65 (hT:O3 P tab) (hE:aF3 P et) (ks ms:Nat):∀(l:List Oper) (k:Nat) (R:Nat→OpR) (log:List a08) (sv:Option Sv) (K:Ts→Os→Prop),bS2 ops R ts0 ks k sv→vcE P tab et Γ.n ops ks ms k l (K7 ops R ts0 (down k)) (Q0 R os0 (down k)) log sv K→Lex P Γ ops R ts0 os0 k→bH5 R k log→(∀j,l[j]?=ops[k+j]?)→k+l.length=ops.length →
  (∃a w,G5 Γ (K7 ops R ts0 (down k)) (Q0 R os0 (down k)) a w)→∃R',Lex P Γ ops R' ts0 os0 ops.length∧K (K7 ops R' ts0 (down ops.length)) (Q0 R' os0 (down ops.length))
 |[],k,R,log,sv,K,hsv,h,hL,hlog,hl,hlen,hi=>by
  simp at hlen
  subst hlen
  exact ⟨R,hL,h⟩
 |o::l,k,R,log,sv,K,hsv,h,hL,hlog,hl,hlen,hi=>by
  have ho:ops[k]?=some o:=by simpa using (hl 0).symm
  have hl':∀j,l[j]?=ops[k+1+j]?:=fun j=>by
   have:=hl (j+1)
   simpa [Nat.add_assoc,Nat.add_comm 1 j] using this
  have hlen':k+1+l.length=ops.length:=by simp at hlen; omega
  obtain ⟨a,w,hrel⟩:=hi
  have did:∀(d:Nat) (dst:aR7 Γ.n o.dst=true) (K0:Kt),aE4 ops o (K7 ops R ts0 (down k)) true→aU0 P tab et d o.op (evO (K7 ops R ts0 (down k))) (Q0 R os0 (down k)) K0 →
    (∀av rd nw up,K0 av rd nw up→K9 nw (K7 ops R ts0 (down k))=true∧L8 nw up (Q0 R os0 (down k))=true∧cB4 ops o k ks ms log rd up av=true∧cB5 P tab et k ks ms sv log (aI8 o.dst av (K7 ops R ts0 (down k))) (up++Q0 R os0 (down k)) (vcE P tab et Γ.n ops ks ms (k+1) l (aI8 o.dst av (K7 ops R ts0 (down k))) (up++Q0 R os0 (down k)) (bG3 k rd nw up log) (bU5 k ks o (K7 ops R ts0 (down k)) av rd nw up sv) K)) →
    ∃R',Lex P Γ ops R' ts0 os0 ops.length∧K (K7 ops R' ts0 (down ops.length)) (Q0 R' os0 (down ops.length)):=by
   intro d dst K0 hg hst hK0
   obtain ⟨c,hrc⟩:=hrel
   have hev:∀x∈o.op.operands.toList,Rd c w (a.eval x) (evO (K7 ops R ts0 (down k)) x):=fun x _=>bL9 hrc.rel.ts x
   obtain ⟨av,need,upd,news,htri,hneed,hnews,hKK⟩:=step_ok hT hE d hst ⟨c,w,a.eval,hrc.rel.hok,hev⟩
   obtain ⟨f1,f2,f3,hnext⟩:=hK0 _ _ _ _ hKK
   let r:OpR:=⟨av,need,upd,news⟩
   have hlog':=b89 (r:=r) (R:=R) hlog hnews
   have ek:M5 R k r k=r:=by unfold M5; rw [if_pos rfl]
   have ets:K7 ops (M5 R k r) ts0 (down (k+1))=aI8 o.dst av (K7 ops R ts0 (down k)):=by
    simp only [down,K7,aR3 R k r k (Nat.le_refl _),ho,ek]
    cases hdd:o.dst<;>simp [aI8,hdd,r]
   have eos:Q0 (M5 R k r) os0 (down (k+1))=upd++Q0 R os0 (down k):=by
    simp only [down,Q0,a81 R k r k (Nat.le_refl _),ek]
    rfl
   have hgo:=htri c w a.eval (hrc.rel.hok.sub hneed) hev
   obtain ⟨v,w',c',hp,hv⟩:=hgo.inst
   obtain ⟨g1,g2⟩:=aM1 f2
   have hrel':G5 Γ (aI8 o.dst av (K7 ops R ts0 (down k))) (upd++Q0 R os0 (down k)) (a.put o.dst v) w':=by
    refine ⟨c',⟨by rw [put_defers]; exact hrc.rel.defers,by rw [bF7]; exact hrc.rel.n,hrc.rel.ts.put (hrc.rel.hok.sub hneed) hp (aU9 f1) hv (by rw [hrc.rel.n]; exact dst),hrc.rel.hok.frame hneed hp hnews g1,hrc.rel.inv.post hrc.rel.hok hneed hp hnews g1⟩,fun id hid=>?_⟩
    have hno:id ∉ news:=fun hm=>by have:=g2 id hm; omega
    have h1:=hp.ctx id hno
    have h2:=hrc.same id hid
    exact ⟨h1.1.trans h2.1,h1.2.trans h2.2⟩
   have hst2:(k=ms→bQ1 P ops (M5 R k r) ts0 os0 ks k)∧vcE P tab et Γ.n ops ks ms (k+1) l (aI8 o.dst av (K7 ops R ts0 (down k))) (upd++Q0 R os0 (down k)) (bG3 k (need.map (·.1)) news upd log) (bU5 k ks o (K7 ops R ts0 (down k)) av (need.map (·.1)) news upd sv) K:=by
    unfold cB5 at hnext
    split at hnext
    ·rename_i hkm
     split at hnext
     ·rename_i s
      obtain ⟨⟨q1,q2,q3⟩,q4⟩:=hnext
      refine ⟨fun _=>?_,q4⟩
      obtain ⟨s1,s2,s3,s4,s5,s6,s7⟩:=hsv s rfl
      have ess:M5 R k r ks=R ks:=by unfold M5; rw [if_neg (by omega)]
      obtain ⟨c2,hrc2⟩:=hrel'
      have hev2:∀x∈s.o.op.operands.toList,Rd c2 w' ((a.put o.dst v).eval x) (evO s.ts x):=fun x hx=>by
       rw [←b08 q2 x hx]
       exact bL9 hrc2.rel.ts x
      obtain ⟨av2,need2,upd2,news2,t1,t2,t3,t4,t5,t6,t7⟩:=step_ok hT hE 0 q3 ⟨c2,w',(a.put o.dst v).eval,hrc2.rel.hok,hev2⟩
      subst t4
      rw [t5,t6] at t1
      refine ⟨by rw [ess]; exact s6,by rw [ess]; exact s7,fun j hj hjk id hid=>?_,s.o,need2,s2,?_,?_,fun id hid=>?_⟩
      ·have ej:M5 R k r j=R j:=by unfold M5; rw [if_neg (by omega)]
       rw [ej] at hid
       rw [ess,s5]
       rcases hlog j hjk with h|⟨x,hx,rfl,_,h3,_⟩
       ·rw [h.2.1] at hid; cases hid
       ·have:=List.all_eq_true.1 q1 x hx
        have hb:Nat.blt ks x.k=true:=Nat.ble_eq_true_of_le hj
        rw [hb,Bool.not_true,Bool.false_or] at this
        rw [h3] at this
        exact aO2 this id hid
      ·rw [aR3 R k r ks (by omega),ess,←s3,s4]
       exact t1
      ·rw [eos]
       exact t2
      ·rw [ess,s5]
       have:=List.all_eq_true.1 t7 id hid
       simpa using this
     ·exact hnext.elim
    ·rename_i hkm
     exact ⟨fun e=>by subst e; simp at hkm,hnext⟩
   have hL':=hL.step (r:=r) ho (.inl ⟨hg,htri,hneed,hnews,f1,f2⟩) dst (fun i hi hw=>(cK0 (r:=r) hlog f3 i hi hw).imp (fun h=>h) fun h=>h.imp (fun h=>h) fun ⟨e1,e2⟩=>by subst e1; exact hst2.1 e2)
   exact b65 hT hE ks ms l (k+1) (M5 R k r) _ _ K (bS2.save (r:=r) hsv ho) (by rw [ets,eos]; exact hst2.2) hL' hlog' hl' hlen' ⟨_,_,by rw [ets,eos]; exact hrel'⟩
  have skip:aR7 Γ.n o.dst=true→aE4 ops o (K7 ops R ts0 (down k)) false→vcE P tab et Γ.n ops ks ms (k+1) l (aI8 o.dst (.tup []) (K7 ops R ts0 (down k))) (Q0 R os0 (down k)) log sv K →
    ∃R',Lex P Γ ops R' ts0 os0 ops.length∧K (K7 ops R' ts0 (down ops.length)) (Q0 R' os0 (down ops.length)):=by
   intro dst hg hnext
   let r:OpR:=⟨.tup [],[],[],[]⟩
   have hL':=hL.step (r:=r) ho (.inr ⟨hg,rfl⟩) dst (fun i hi hw=>⟨⟨fun id _ h=>(by cases h),fun id _ h=>(by cases h),fun id _ h=>(by cases h)⟩,.inl fun id h=>(by cases h)⟩)
   have hlog':bH5 (M5 R k r) (k+1) log:=fun i hi=>by
    by_cases h:i=k
    ·subst h
     have ek:M5 R i r i=r:=by unfold M5; rw [if_pos rfl]
     rw [ek]
     exact .inl ⟨rfl,rfl,rfl⟩
    ·have eo:M5 R k r i=R i:=by unfold M5; rw [if_neg h]
     rw [eo]
     exact hlog i (by omega)
   have ek:M5 R k r k=r:=by unfold M5; rw [if_pos rfl]
   have ets:K7 ops (M5 R k r) ts0 (down (k+1))=aI8 o.dst (.tup []) (K7 ops R ts0 (down k)):=by
    simp only [down,K7,aR3 R k r k (Nat.le_refl _),ho,ek]
    cases hdd:o.dst<;>simp [aI8,hdd,r]
   have eos:Q0 (M5 R k r) os0 (down (k+1))=Q0 R os0 (down k):=by
    simp only [down,Q0,a81 R k r k (Nat.le_refl _),ek]
    rfl
   exact b65 hT hE ks ms l (k+1) (M5 R k r) log sv K hsv.step (by rw [ets,eos]; exact hnext) hL' hlog' hl' hlen' ⟨_,_,by rw [ets,eos]; exact bF5 (o:=o) hrel dst⟩
  unfold vcE at h
  split at h
  ·rename_i d hd
   split at h
   ·rename_i hdl
    have hdst:aR7 Γ.n o.dst=true:=by rw [hd]; exact hdl
    rcases bI5 h with ⟨hg,h⟩|⟨hg,h⟩
    ·refine did d hdst _ hg h fun av rd nw up hk=>?_
     split at hk
     ·rename_i hb
      simp only [Bool.and_eq_true] at hb
      rw [force_eq,a92] at hk
      exact ⟨hb.1.1,hb.1.2,hb.2,by rw [hd]; exact hk⟩
     ·exact hk.elim
    ·exact skip hdst hg (by rw [hd]; exact h)
   ·exact h.elim
  ·rename_i hd
   have hdst:aR7 Γ.n o.dst=true:=by rw [hd]; rfl
   rcases bI5 h with ⟨hg,h⟩|⟨hg,h⟩
   ·refine did 0 hdst _ hg h fun av rd nw up hk=>?_
    split at hk
    ·rename_i hb
     simp only [Bool.and_eq_true] at hb
     rw [a92] at hk
     exact ⟨hb.1.1,hb.1.2,hb.2,by rw [hd]; exact hk⟩
    ·exact hk.elim
   ·exact skip hdst hg (by rw [hd]; exact h)
theorem j5.draw2 (hT:O3 P tab) (hE:aF3 P et) {n:Nat} (hn:Γ.n=n) (hm:P.follows .mixedOrders=true) {id:Nat} {l:Array Oper} (hd:aK0 l.toList=true) {ts:Ts} {os:Os} {Q:Qt} (ks ms:Nat) (h:aX2 ts fun ts=>vcE P tab et n l.toList ks ms 0 l.toList ts os [] none (Q .normal)):j5 P Γ (.region id l true) ts os Q:=by
 subst hn
 rw [bA3] at h
 refine ⟨fun a w hr=>wp_region_any hm ?_⟩
 have hr':=hr.drew
 obtain ⟨R,hL,hK⟩:=b65 (ops:=l.toList) (ts0:=ts) (os0:=os) hT hE ks ms l.toList 0 (fun _=>default) [] none _ (fun s hs=>by cases hs) h ⟨fun k o hk=>absurd hk (by omega),fun k o hk=>absurd hk (by omega),fun i k o _ hk=>absurd hk (by omega)⟩ (fun i hi=>absurd hi (by omega)) (fun j=>by rw [Nat.zero_add]) (by omega) ⟨_,_,hr'⟩
 have:=cF6 (Q:=fun e a' w'=>∃ex ts' os',exM e ex∧Q ex ts' os'∧G5 Γ ts' os' a' w') hd hL (fun a' w' hr2=>⟨.normal,_,_,trivial,hK,hr2⟩) l.toList.length (Array.replicate l.size false) [] a _ (bQ4 hd 0 (Nat.zero_le _)) (fun i hi=>by
  have:i < l.size:=by simpa using hi
  simp [this]) (by simp) (by simp) hr'
 simpa using this
end
end
end Go.Proofs.YtibjcppjfkamhaaGreatDoor
namespace Go.Proofs.YtibjcppjfkamhaaGreatDoor
open Go.RowKit
set_option linter.unusedVariables false
section
variable {P:Program} {tab:Q6} {et:aG9} {Γ:Fun}
structure OOk (P:Program) (Γ:Fun) (ops l:List Oper) (ts:Ts) (os:Os) (Q:Qt):Prop where
 run:∀a w,G5 Γ ts os a w→wpList P ops.toArray (fun e a' w'=>∃ex ts' os',exM e ex∧Q ex ts' os'∧G5 Γ ts' os' a' w') l a w
theorem j5.ops {id:Nat} {l:Array Oper} {ts:Ts} {os:Os} {Q:Qt} (h:OOk P Γ l.toList l.toList ts os Q):j5 P Γ (.region id l false) ts os Q :=
 ⟨fun a w hr=>wp_region_list (by simpa using h.run a w hr)⟩
theorem OOk.chunk (hT:O3 P tab) (hE:aF3 P et) {n:Nat} (hn:Γ.n=n) (k:Nat) {ops l:List Oper} {ts:Ts} {os:Os} {Q:Qt}
  (h:aX2 ts fun ts=>a97 P tab et n ops (l.take k) ts os fun ts os=>OOk P Γ ops (l.drop k) ts os Q):OOk P Γ ops l ts os Q:=by
 subst hn
 refine ⟨fun a w hr=>?_⟩
 have:=aZ1 hT hE (l2:=l.drop k) (l.take k) ts os _ a w ((bA3 ts _).1 h) hr fun ts' os' a' w' hk hr'=>hk.run a' w' hr'
 rwa [List.take_append_drop] at this
theorem OOk.done {ops:List Oper} {ts:Ts} {os:Os} {Q:Qt} (h:Q .normal ts os):OOk P Γ ops [] ts os Q:=⟨fun a w hr=>⟨.normal,ts,os,trivial,h,hr⟩⟩
theorem j5.seq {x y:Code} {ts:Ts} {os:Os} {Q:Qt} (h:j5 P Γ x ts os fun e ts' os'=>match e with
  |.normal=>j5 P Γ y ts' os' Q
  |.exit id=>Q (.exit id) ts' os'
  |.ret=>Q .ret ts' os'):j5 P Γ (.seq x y) ts os Q:=by
 refine ⟨fun a w hr=>wp_seq (wp_mono (h.run a w hr) fun e a' w' ⟨ex,ts',os',h1,h2,h3⟩=>?_)⟩
 cases e<;>cases ex<;>simp only [exM] at h1<;>first|exact h1.elim|skip
 ·exact h2.run a' w' h3
 ·subst h1; exact ⟨.exit _,ts',os',rfl,h2,h3⟩
 ·exact ⟨.ret,ts',os',trivial,h2,h3⟩
theorem j5.cut {ι:Type} (St:ι→Ts) (So:ι→Os) {x y:Code} {ts:Ts} {os:Os} {Q:Qt} (h:j5 P Γ x ts os fun e ts' os'=>match e with
  |.normal=>∃i rl,bB2 ts' os' (St i) (So i) rl
  |.exit id=>Q (.exit id) ts' os'
  |.ret=>Q .ret ts' os') (hn:∀i,((St i).all fun p=>Nat.blt p.1 Γ.n)=true) (h2:∀i,j5 P Γ y (St i) (So i) Q):j5 P Γ (.seq x y) ts os Q:=by
 refine j5.seq ⟨fun a w hr=>wp_mono (h.run a w hr) fun e a' w' ⟨ex,ts',os',h1,h2',h3⟩=>⟨ex,ts',os',h1,?_,h3⟩⟩
 cases ex with
 |normal =>
  obtain ⟨i,rl,hs⟩:=h2'
  exact j5.sub rl hs (hn i) (h2 i)
 |exit id=>exact h2'
 |ret=>exact h2'
def Gh (Γ:Fun) (ts:Ts) (os:Os) {ι:Type} (T:ι→Ts) (O:ι→Os):Prop:=∀a w,G5 Γ ts os a w→∃x,G5 Γ (T x) (O x) a w
theorem j5.gh {ι:Type} {c:Code} {ts:Ts} {os:Os} {T:ι→Ts} {O:ι→Os} {Q:Qt} (g:Gh Γ ts os T O) (h:∀x,j5 P Γ c (T x) (O x) Q):j5 P Γ c ts os Q :=
 ⟨fun a w hr=>let ⟨x,hx⟩:=g a w hr; (h x).run a w hx⟩
theorem OOk.gh {ι:Type} {ops l:List Oper} {ts:Ts} {os:Os} {T:ι→Ts} {O:ι→Os} {Q:Qt} (g:Gh Γ ts os T O) (h:∀x,OOk P Γ ops l (T x) (O x) Q):OOk P Γ ops l ts os Q :=
 ⟨fun a w hr=>let ⟨x,hx⟩:=g a w hr; (h x).run a w hx⟩
structure y5 (Γ:Fun) (ts:Ts) (os:Os) (Q:Qt):Prop where
 run:∀a w,G5 Γ ts os a w→∃ts' os',Q .normal ts' os'∧G5 Γ ts' os' a w
theorem y5.done {ts:Ts} {os:Os} {Q:Qt} (h:Q .normal ts os):y5 Γ ts os Q:=⟨fun a w hr=>⟨ts,os,h,hr⟩⟩
theorem y5.gh {ι:Type} {ts:Ts} {os:Os} {T:ι→Ts} {O:ι→Os} {Q:Qt} (g:Gh Γ ts os T O) (h:∀x,y5 Γ (T x) (O x) Q):y5 Γ ts os Q :=
 ⟨fun a w hr=>let ⟨x,hx⟩:=g a w hr; (h x).run a w hx⟩
theorem j5.snoc {c:Code} {ts:Ts} {os:Os} {Q:Qt} (h:j5 P Γ c ts os fun e ts' os'=>match e with
  |.normal=>y5 Γ ts' os' Q
  |.exit id=>Q (.exit id) ts' os'
  |.ret=>Q .ret ts' os'):j5 P Γ c ts os Q:=by
 refine ⟨fun a w hr=>wp_mono (h.run a w hr) fun e a' w' ⟨ex,ts',os',h1,h2,h3⟩=>?_⟩
 cases e<;>cases ex<;>simp only [exM] at h1<;>first|exact h1.elim|skip
 ·obtain ⟨ts2,os2,q1,q2⟩:=h2.run a' w' h3
  exact ⟨.normal,ts2,os2,trivial,q1,q2⟩
 ·subst h1; exact ⟨.exit _,ts',os',rfl,h2,h3⟩
 ·exact ⟨.ret,ts',os',trivial,h2,h3⟩
theorem Gh.of {ι:Type} {ts:Ts} {os need:Os} {ex:ι→Ts} {upd:ι→Os} {news:List Nat} (hneed:a96 need os) (hf1:K9 news ts=true) (hf2:∀x,L8 news (upd x) os=true) (hnews:∀x,(news.all fun i=>(lk (upd x) i).isSome)=true)
  (hp:∀c w,P9 c w need→(∃a,aZ5 c w ts a)→∃x c',Post c w c' w need (upd x) news∧∀t y,lk (ex x) t=some y→∃z,lk ts t=some z∧∀v,Rd c w v z→Rd c' w v y):Gh Γ ts os (fun x=>ex x++ts) (fun x=>upd x++os):=by
 rintro a w ⟨c,⟨h1,h2,h3,h4,h5⟩,h6⟩
 have hn:=bA5 hneed
 obtain ⟨x,c',hpost,hex⟩:=hp c w (h4.sub hn) ⟨a,h3⟩
 have hnw:∀id∈news,(lk (upd x) id).isSome=true:=fun id h=>by simpa using List.all_eq_true.1 (hnews x) id h
 obtain ⟨g1,g2⟩:=aM1 (hf2 x)
 refine ⟨x,c',⟨h1,h2,fun t y hl=>?_,h4.frame hn hpost hnw g1,h5.post h4 hn hpost hnw g1⟩,fun id hid=>?_⟩
 ·rw [L9] at hl
  cases he:lk (ex x) t with
  |some y' =>
   rw [he] at hl
   simp at hl
   subst hl
   obtain ⟨z,hz,hzv⟩:=hex t y' he
   obtain ⟨v,q1,q2⟩:=h3 t z hz
   exact ⟨v,q1,hzv v q2⟩
  |none =>
   rw [he] at hl
   simp at hl
   obtain ⟨v,q1,q2⟩:=h3 t y hl
   exact ⟨v,q1,q2.post hpost (h4.sub hn) (aU9 hf1 t y hl)⟩
 ·have hno:id ∉ news:=fun hm=>by have:=g2 id hm; omega
  have q1:=hpost.ctx id hno
  have q2:=h6 id hid
  exact ⟨q1.1.trans q2.1,q1.2.trans q2.2⟩
theorem Post.same {c c':Ctx} {w:World} {need upd:Os} {news:List Nat} (h:P9 c w need) (hΦ:c'.Φ=c.Φ) (hctx:∀id,id ∉ news→c'.μ id=c.μ id∧c'.hd id=c.hd id) (rep:∀id o,lk upd id=some o→aH8 c' w id o)
  (feet:∀id o b,lk upd id=some o→foot c' id o b→Touch c need upd b) (sep:∀id id' o o' b,id≠id'→lk upd id=some o→lk upd id'=some o'→foot c' id o b→¬foot c' id' o' b):Post c w c' w need upd news:=by
 refine ⟨rfl,rfl,rfl,Nat.le_refl _,fun b hb=>by rw [hΦ]; exact hb,fun b hb=>.inl (by rw [hΦ] at hb; exact hb),fun _ _ _=>rfl,hctx,⟨rep,fun id o b hl hf=>?_,sep,by rw [hΦ]; exact h.phi⟩,fun id o b hl hf=>.inr (feet id o b hl hf)⟩
 obtain ⟨i,o',h1,_,h3⟩:=feet id o b hl hf
 rw [hΦ]
 exact h.lt i o' b h1 h3
theorem lk1 {β:Type} {a i:Nat} {x o:β} (h:lk [(a,x)] i=some o):i=a∧o=x:=by
 rw [y7] at h
 split at h
 ·rename_i e; cases h; exact ⟨e.symm,rfl⟩
 ·cases h
theorem lk2 {β:Type} {a b i:Nat} {x y o:β} (h:lk [(a,x),(b,y)] i=some o):(i=a∧o=x)∨(i≠a∧i=b∧o=y):=by
 rw [y7] at h
 split at h
 ·rename_i e; cases h; exact .inl ⟨e.symm,rfl⟩
 ·rename_i e; exact .inr ⟨fun h=>e h.symm,lk1 h⟩
theorem lk3 {β:Type} {a b c i:Nat} {x y z o:β} (h:lk [(a,x),(b,y),(c,z)] i=some o):(i=a∧o=x)∨(i≠a∧i=b∧o=y)∨(i≠a∧i≠b∧i=c∧o=z):=by
 rw [y7] at h
 split at h
 ·rename_i e; cases h; exact .inl ⟨e.symm,rfl⟩
 ·rename_i e
  rcases lk2 h with h|⟨h1,h2,h3⟩
  ·exact .inr (.inl ⟨fun h=>e h.symm,h⟩)
  ·exact .inr (.inr ⟨fun h=>e h.symm,h1,h2,h3⟩)
theorem J2 {i j:Nat} (h:Nat.beq i j=false):i≠j:=fun e=>by rw [e] at h; simp at h
theorem O6.hdr {Φ:Nat→Prop} {w:World} {v:Value} {sz e:Nat} {ls:List (List AV)} (h:O6 Φ w v sz ls e):∃h:Hd,v=h.v∧h.n=ls.length∧h.n≤h.c∧h.c≤maxLen:=by
 obtain ⟨css,q1,q2,q3⟩:=h
 obtain ⟨A,cap,e1,e2,e3⟩:=q1.head
 exact ⟨⟨A,css.length,cap⟩,e1,q2,e2,e3⟩
theorem Y7.cons {Φ:Nat→Prop} {w:World} {sz e:Nat} {p:Hd×List (List AV)} {l:List (Hd×List (List AV))}:Y7 Φ w sz (p::l) e↔O6 Φ w p.1.v sz p.2 e∧Y7 Φ w sz l e∧∀q∈l,∀b,p.1.v.ownBlock=some b→q.1.v.ownBlock=some b→False:=by
 constructor
 ·rintro ⟨h1,h2⟩
  obtain ⟨h3,h4⟩:=List.pairwise_cons.1 h2
  exact ⟨h1 p (by simp),⟨fun q hq=>h1 q (by simp [hq]),h4⟩,h3⟩
 ·rintro ⟨h1,h2,h3⟩
  exact ⟨fun q hq=>by rcases List.mem_cons.1 hq with rfl|hq; exact h1; exact h2.1 q hq,List.pairwise_cons.2 ⟨h3,h2.2⟩⟩
theorem Y7.perm {Φ:Nat→Prop} {w:World} {sz e:Nat} {l l':List (Hd×List (List AV))} (h:Y7 Φ w sz l e) (hp:l.Perm l'):Y7 Φ w sz l' e :=
 ⟨fun p hm=>h.1 p (hp.mem_iff.2 hm),(hp.pairwise_iff fun h b h1 h2=>h b h2 h1).1 h.2⟩
theorem Gh.pins0 {ts:Ts} {os:Os} (k sz e:Nat) (hf1:K9 [k] ts=true) (hf2:L8 [k] [(k,.pins sz [] e)] os=true):Gh Γ ts os (fun _:Unit=>ts) (fun _=>(k,.pins sz [] e)::os) :=
 Gh.of (need:=[]) (upd:=fun _=>[(k,.pins sz [] e)]) (ex:=fun _=>[]) (news:=[k]) trivial hf1 (fun _=>hf2) (fun _=>by simp [p9]) fun c w hok _=>⟨(),c,Post.same hok rfl (fun _ _=>⟨rfl,rfl⟩)
  (fun id o h=>by obtain ⟨rfl,rfl⟩:=lk1 h; exact ⟨fun _ h=>(by cases h),.nil⟩) (fun id o b h hf=>by obtain ⟨rfl,rfl⟩:=lk1 h; obtain ⟨p,h,_⟩:=hf; cases h)
  (fun id id' o o' b hne h1 h2=>by obtain ⟨rfl,rfl⟩:=lk1 h1; obtain ⟨rfl,rfl⟩:=lk1 h2; exact absurd rfl hne),fun t y h=>by cases h⟩
theorem Gh.pinB {ts:Ts} {os:Os} (b0 off j k:Nat) {sz e e2:Nat} {cs:List AV} {ls:List (List AV)} {l:List (Hd×List (List AV))} (hb:lk os b0=some (.box cs e2)) (hat:cs[off]?=some (.own j)) (hj:lk os j=some (.row sz ls e)) (hk:lk os k=some (.pins sz l e))
  (hne:Nat.beq j k=false) (hne2:Nat.beq b0 j=false) (hne3:Nat.beq b0 k=false) :
  Gh Γ ts os (fun h:Hd=>ts) (fun h=>(b0,.box (cs.set off (.con h.v)) e2)::(k,.pins sz (l++[(h,ls)]) e)::(j,.gone)::os):=by
 have hne:=J2 hne
 have hne2:=J2 hne2
 have hne3:=J2 hne3
 refine Gh.of (need:=[(j,.row sz ls e),(k,.pins sz l e),(b0,.box cs e2)]) (upd:=fun h=>[(b0,.box (cs.set off (.con h.v)) e2),(k,.pins sz (l++[(h,ls)]) e),(j,.gone)]) (ex:=fun h=>[]) (news:=[]) ⟨hj,hk,hb,trivial⟩ rfl (fun _=>rfl) (fun _=>rfl) fun c w hok _=>?_
 have lj:lk [(j,Obj.row sz ls e),(k,.pins sz l e),(b0,.box cs e2)] j=some (.row sz ls e):=p9 _ _ _
 have lkk:lk [(j,Obj.row sz ls e),(k,.pins sz l e),(b0,.box cs e2)] k=some (.pins sz l e):=by rw [G9 _ _ hne,p9]
 have lb:lk [(j,Obj.row sz ls e),(k,.pins sz l e),(b0,.box cs e2)] b0=some (.box cs e2):=by rw [G9 _ _ (Ne.symm hne2),G9 _ _ (Ne.symm hne3),p9]
 have rj:O6 c.Φ w (c.hd j) sz ls e:=hok.rep j _ lj
 have rk:Y7 c.Φ w sz l e:=hok.rep k _ lkk
 obtain ⟨us,u1,u2⟩:=hok.rep b0 _ lb
 obtain ⟨h,e1,-⟩:=rj.hdr
 refine ⟨h,c,Post.same hok rfl (fun _ _=>⟨rfl,rfl⟩) (fun id o hl=>?_) (fun id o b hl hf=>?_) (fun id id' o o' b hdis hl hl' hf hf'=>?_),fun t' y hy=>(by cases hy)⟩
 ·rcases lk3 hl with ⟨rfl,rfl⟩|⟨_,rfl,rfl⟩|⟨_,_,rfl,rfl⟩
  ·refine ⟨us,u1,?_⟩
   obtain ⟨v,v1,v2⟩:=u2.get hat
   obtain ⟨A,n,cap,e2,e3,-⟩:=v2.own_
   have:=u2.set off (v:=v) (a:=.con h.v) (by rw [e2,←e3,e1]; exact .fz (.con _))
   rwa [show us.set off v=us by
    apply List.ext_getElem?
    intro i
    rw [List.getElem?_set]
    split
    ·rename_i e4
     subst e4
     split
     ·exact v1.symm
     ·rw [List.getElem?_eq_none (by omega)]
    ·rfl] at this
  ·refine Y7.perm (l:=(h,ls)::l) (Y7.cons.2 ⟨e1▸rj,rk,fun q hq b h1 h2=>?_⟩) (List.perm_append_comm (l₁:=[(h,ls)]))
   exact hok.sep j id _ _ b hne lj lkk (show (c.hd j).ownBlock=some b by rw [e1]; exact h1) ⟨q,hq,h2⟩
  ·trivial
 ·rcases lk3 hl with ⟨rfl,rfl⟩|⟨_,rfl,rfl⟩|⟨_,_,rfl,rfl⟩
  ·exact ⟨id,_,lb,by rw [p9]; rfl,hf⟩
  ·obtain ⟨p,hp,hb⟩:=hf
   rcases List.mem_append.1 hp with hp|hp
   ·exact ⟨id,_,lkk,by rw [hl]; rfl,⟨p,hp,hb⟩⟩
   ·obtain rfl:=List.mem_singleton.1 hp
    exact ⟨j,_,lj,by rw [G9 _ _ hne2,G9 _ _ (Ne.symm hne),p9]; rfl,by show (c.hd j).ownBlock=_; rw [e1]; exact hb⟩
  ·exact hf.elim
 ·-- pins and the box
  have apart:∀b,(∃p∈l++[(h,ls)],p.1.v.ownBlock=some b)→b≠c.μ b0:=by
   rintro b ⟨p,hp,hb⟩ rfl
   rcases List.mem_append.1 hp with hp|hp
   ·exact hok.sep k b0 _ _ _ (Ne.symm hne3) lkk lb ⟨p,hp,hb⟩ rfl
   ·obtain rfl:=List.mem_singleton.1 hp
    exact hok.sep j b0 _ _ _ (Ne.symm hne2) lj lb (show (c.hd j).ownBlock=_ by rw [e1]; exact hb) rfl
  rcases lk3 hl with ⟨rfl,rfl⟩|⟨_,rfl,rfl⟩|⟨_,_,rfl,rfl⟩<;>rcases lk3 hl' with ⟨rfl,rfl⟩|⟨_,rfl,rfl⟩|⟨_,_,rfl,rfl⟩<;>first|exact hdis rfl|exact hf.elim|exact hf'.elim|exact apart b hf hf'|exact apart b hf' hf
theorem Gh.unpin {ts:Ts} {os:Os} (k j j':Nat) {sz e:Nat} {h:Hd} {ls:List (List AV)} {l l':List (Hd×List (List AV))} (hk:lk os k=some (.pins sz l e)) (hperm:l.Perm ((h,ls)::l'))
  (hn1:Nat.beq j j'=false) (hn2:Nat.beq j k=false) (hn3:Nat.beq j' k=false) (hf1:K9 [j,j'] ts=true) (hf2:L8 [j,j'] [(j,.row sz ls e),(j',.eqv j h.v),(k,.pins sz l' e)] os=true) :
  Gh Γ ts os (fun _:Unit=>ts) (fun _=>(j,.row sz ls e)::(j',.eqv j h.v)::(k,.pins sz l' e)::os):=by
 have hn1:=J2 hn1
 have hn2:=J2 hn2
 have hn3:=J2 hn3
 refine Gh.of (need:=[(k,.pins sz l e)]) (upd:=fun _=>[(j,.row sz ls e),(j',.eqv j h.v),(k,.pins sz l' e)]) (ex:=fun _=>[]) (news:=[j,j']) ⟨hk,trivial⟩ hf1 (fun _=>hf2) (fun _=>by simp [y7,hn1]) fun c w hok _=>?_
 have rk:Y7 c.Φ w sz l e:=hok.rep k _ (p9 _ _ _)
 obtain ⟨r1,r2,r3⟩:=Y7.cons.1 (rk.perm hperm)
 have e1:(c.setHd j h.v).hd j=h.v:=by simp [Ctx.setHd]
 have tk:∀b,(∃p∈l,p.1.v.ownBlock=some b)→Touch c [(k,.pins sz l e)] [(j,.row sz ls e),(j',.eqv j h.v),(k,.pins sz l' e)] b:=fun b hb=>⟨k,_,p9 _ _ _,by rw [G9 _ _ hn2,G9 _ _ hn3,p9]; rfl,hb⟩
 refine ⟨(),c.setHd j h.v,Post.same hok rfl (fun id hid=>⟨rfl,by simp [Ctx.setHd,show id≠j by rintro rfl; simp at hid]⟩) (fun id o hl=>?_) (fun id o b hl hf=>?_) (fun id id' o o' b hdis hl hl' hf hf'=>?_),fun t' y hy=>(by cases hy)⟩
 ·rcases lk3 hl with ⟨rfl,rfl⟩|⟨_,rfl,rfl⟩|⟨_,_,rfl,rfl⟩
  ·show O6 _ w ((c.setHd id h.v).hd id) sz ls e
   rw [e1]
   exact r1
  ·exact e1
  ·exact r2
 ·rcases lk3 hl with ⟨rfl,rfl⟩|⟨_,rfl,rfl⟩|⟨_,_,rfl,rfl⟩
  ·exact tk b ⟨(h,ls),hperm.mem_iff.2 (by simp),by have:((c.setHd id h.v).hd id).ownBlock=some b:=hf; rwa [e1] at this⟩
  ·exact hf.elim
  ·obtain ⟨p,hp,hb⟩:=hf
   exact tk b ⟨p,hperm.mem_iff.2 (by simp [hp]),hb⟩
 ·have apart:∀b,((c.setHd j h.v).hd j).ownBlock=some b→(∃p∈l',p.1.v.ownBlock=some b)→False:=fun b h1 ⟨p,hp,hb⟩=>r3 p hp b (by rwa [e1] at h1) hb
  rcases lk3 hl with ⟨rfl,rfl⟩|⟨_,rfl,rfl⟩|⟨_,_,rfl,rfl⟩<;>rcases lk3 hl' with ⟨rfl,rfl⟩|⟨_,rfl,rfl⟩|⟨_,_,rfl,rfl⟩<;>first|exact hdis rfl|exact hf.elim|exact hf'.elim|exact apart b hf hf'|exact apart b hf' hf
theorem Gh.repin {ts:Ts} {os:Os} (j j' k:Nat) {sz e:Nat} {h:Hd} {ls:List (List AV)} {l l':List (Hd×List (List AV))} (hj:lk os j=some (.row sz ls e)) (hj':lk os j'=some (.eqv j h.v)) (hk:lk os k=some (.pins sz l e)) (hperm:l'.Perm ((h,ls)::l))
  (hn1:Nat.beq j j'=false) (hn2:Nat.beq j k=false) (hn3:Nat.beq j' k=false) :
  Gh Γ ts os (fun _:Unit=>ts) (fun _=>(k,.pins sz l' e)::(j,.gone)::(j',.gone)::os):=by
 have hn1:=J2 hn1
 have hn2:=J2 hn2
 have hn3:=J2 hn3
 refine Gh.of (need:=[(j,.row sz ls e),(j',.eqv j h.v),(k,.pins sz l e)]) (upd:=fun _=>[(k,.pins sz l' e),(j,.gone),(j',.gone)]) (ex:=fun _=>[]) (news:=[]) ⟨hj,hj',hk,trivial⟩ rfl (fun _=>rfl) (fun _=>rfl) fun c w hok _=>?_
 have lj:lk [(j,Obj.row sz ls e),(j',.eqv j h.v),(k,.pins sz l e)] j=some (.row sz ls e):=p9 _ _ _
 have lkk:lk [(j,Obj.row sz ls e),(j',.eqv j h.v),(k,.pins sz l e)] k=some (.pins sz l e):=by rw [G9 _ _ hn2,G9 _ _ hn3,p9]
 have rj:O6 c.Φ w (c.hd j) sz ls e:=hok.rep j _ lj
 have e1:c.hd j=h.v:=hok.rep j' (.eqv j h.v) (by rw [G9 _ _ hn1,p9])
 have rk:Y7 c.Φ w sz l e:=hok.rep k _ lkk
 rw [e1] at rj
 refine ⟨(),c,Post.same hok rfl (fun _ _=>⟨rfl,rfl⟩) (fun id o hl=>?_) (fun id o b hl hf=>?_) (fun id id' o o' b hdis hl hl' hf hf'=>?_),fun t' y hy=>(by cases hy)⟩
 ·rcases lk3 hl with ⟨rfl,rfl⟩|⟨_,rfl,rfl⟩|⟨_,_,rfl,rfl⟩
  ·exact Y7.perm (Y7.cons.2 ⟨rj,rk,fun q hq b h1 h2=>hok.sep j id _ _ b hn2 lj lkk (show (c.hd j).ownBlock=some b by rw [e1]; exact h1) ⟨q,hq,h2⟩⟩) hperm.symm
  ·trivial
  ·trivial
 ·rcases lk3 hl with ⟨rfl,rfl⟩|⟨_,rfl,rfl⟩|⟨_,_,rfl,rfl⟩
  ·obtain ⟨p,hp,hb⟩:=hf
   rcases List.mem_cons.1 (hperm.mem_iff.1 hp) with rfl|hp
   ·exact ⟨j,_,lj,by rw [G9 _ _ (Ne.symm hn2),p9]; rfl,by show (c.hd j).ownBlock=_; rw [e1]; exact hb⟩
   ·exact ⟨id,_,lkk,by rw [hl]; rfl,⟨p,hp,hb⟩⟩
  ·exact hf.elim
  ·exact hf.elim
 ·rcases lk3 hl with ⟨rfl,rfl⟩|⟨_,rfl,rfl⟩|⟨_,_,rfl,rfl⟩<;>rcases lk3 hl' with ⟨rfl,rfl⟩|⟨_,rfl,rfl⟩|⟨_,_,rfl,rfl⟩<;>first|exact hdis rfl|exact hf.elim|exact hf'.elim
theorem Gh.open {ts:Ts} {os:Os} (t id j k:Nat) {sz e isz ie:Nat} {l:List (List AV×List (List AV))} (hl:lk ts t=some (.nst id)) (hid:lk os id=some (.nest sz e isz ie l)) (hn1:Nat.beq j k=false) (hn2:Nat.beq j id=false) (hn3:Nat.beq k id=false)
  (hf1:K9 [j,k] ts=true) (hf2:∀z,L8 [j,k] [(j,.row sz (D6 z) e),(k,.pins isz (U9 z) ie),(id,.gone)] os=true) :
  Gh Γ ts os (fun _:{ z:List (Hd×List AV×List (List AV)) // z.map (·.2)=l }=>(t,.own j)::ts) (fun z=>(j,.row sz (D6 z.1) e)::(k,.pins isz (U9 z.1) ie)::(id,.gone)::os):=by
 have hn1:=J2 hn1
 have hn2:=J2 hn2
 have hn3:=J2 hn3
 refine Gh.of (ι:={ z:List (Hd×List AV×List (List AV)) // z.map (·.2)=l }) (need:=[(id,.nest sz e isz ie l)]) (upd:=fun z=>[(j,.row sz (D6 z.1) e),(k,.pins isz (U9 z.1) ie),(id,.gone)]) (ex:=fun _=>[(t,.own j)]) (news:=[j,k]) ⟨hid,trivial⟩ hf1 (fun _=>hf2 _) (fun _=>by simp [y7,hn1]) fun c w hok _=>?_
 obtain ⟨h,z,e0,e1,r1,r2,r3⟩:=hok.rep id _ (p9 _ _ _)
 have e2:(c.setHd j h.v).hd j=h.v:=by simp [Ctx.setHd]
 have tk:∀b,(∃v∈aJ1 (c.hd id),v.ownBlock=some b)→Touch c [(id,.nest sz e isz ie l)] [(j,.row sz (D6 z) e),(k,.pins isz (U9 z) ie),(id,.gone)] b:=fun b hb=>⟨id,_,p9 _ _ _,by rw [G9 _ _ hn2,G9 _ _ hn3,p9]; rfl,hb⟩
 rw [e0] at tk
 refine ⟨⟨z,e1⟩,c.setHd j h.v,Post.same hok rfl (fun i hi=>⟨rfl,by simp [Ctx.setHd,show i≠j by rintro rfl; simp at hi]⟩) (fun i o hl=>?_) (fun i o b hl hf=>?_) (fun i i' o o' b hdis hl hl' hf hf'=>?_),fun t' y hy=>?_⟩
 ·rcases lk3 hl with ⟨rfl,rfl⟩|⟨_,rfl,rfl⟩|⟨_,_,rfl,rfl⟩
  ·show O6 _ w ((c.setHd i h.v).hd i) sz (D6 z) e
   rw [e2]
   exact r1
  ·exact r2
  ·trivial
 ·rcases lk3 hl with ⟨rfl,rfl⟩|⟨_,rfl,rfl⟩|⟨_,_,rfl,rfl⟩
  ·exact tk b ⟨h.v,by simp [aJ1],by have:((c.setHd i h.v).hd i).ownBlock=some b:=hf; rwa [e2] at this⟩
  ·obtain ⟨p,hp,hb⟩:=hf
   obtain ⟨q,hq,rfl⟩:=List.mem_map.1 hp
   exact tk b ⟨q.1.v,by show _∈(h.v::z.map (·.1.v)).toArray.toList; exact List.mem_cons_of_mem _ (List.mem_map.2 ⟨q,hq,rfl⟩),hb⟩
  ·exact hf.elim
 ·have apart:∀b,((c.setHd j h.v).hd j).ownBlock=some b→(∃p∈U9 z,p.1.v.ownBlock=some b)→False:=fun b h1 ⟨p,hp,hb⟩=>by
   obtain ⟨q,hq,rfl⟩:=List.mem_map.1 hp
   exact r3 b q (by rwa [e2] at h1) hq hb
  rcases lk3 hl with ⟨rfl,rfl⟩|⟨_,rfl,rfl⟩|⟨_,_,rfl,rfl⟩<;>rcases lk3 hl' with ⟨rfl,rfl⟩|⟨_,rfl,rfl⟩|⟨_,_,rfl,rfl⟩<;>first|exact hdis rfl|exact hf.elim|exact hf'.elim|exact apart b hf hf'|exact apart b hf' hf
 ·obtain ⟨rfl,rfl⟩:=lk1 hy
  refine ⟨_,hl,fun v hv=>?_⟩
  obtain ⟨A,n,cap,vs,f1,f2,f3,f4⟩:=hv.nst_
  rw [e0] at f2
  have f5:h.v::z.map (·.1.v)=Value.slice A n cap::vs:=by simpa using f2
  rw [f1]
  exact .own (e2.trans (List.cons.inj f5).1) f3 f4
theorem Gh.close {ts:Ts} {os:Os} (t j k id:Nat) {sz e isz ie:Nat} {ls:List (List AV)} {li:List (Hd×List (List AV))} (z:List (Hd×List AV×List (List AV))) (hl:lk ts t=some (.own j)) (hj:lk os j=some (.row sz ls e)) (hk:lk os k=some (.pins isz li ie)) (h1:ls=D6 z) (h2:li=U9 z)
  {l:List (List AV×List (List AV))} (h3:z.map (·.2)=l) (hn1:Nat.beq j k=false) (hn2:Nat.beq j id=false) (hn3:Nat.beq k id=false) (hf1:K9 [id] ts=true) (hf2:L8 [id] [(id,.nest sz e isz ie l),(j,.gone),(k,.gone)] os=true) :
  Gh Γ ts os (fun _:Unit=>(t,.nst id)::ts) (fun _=>(id,.nest sz e isz ie l)::(j,.gone)::(k,.gone)::os):=by
 have hn1:=J2 hn1
 have hn2:=J2 hn2
 have hn3:=J2 hn3
 subst h1 h2
 refine Gh.of (need:=[(j,.row sz (D6 z) e),(k,.pins isz (U9 z) ie)]) (upd:=fun _=>[(id,.nest sz e isz ie l),(j,.gone),(k,.gone)]) (ex:=fun _=>[(t,.nst id)]) (news:=[id]) ⟨hj,hk,trivial⟩ hf1 (fun _=>hf2) (fun _=>by simp [y7]) fun c w hok _=>?_
 have lj:lk [(j,Obj.row sz (D6 z) e),(k,.pins isz (U9 z) ie)] j=some (.row sz (D6 z) e):=p9 _ _ _
 have lkk:lk [(j,Obj.row sz (D6 z) e),(k,.pins isz (U9 z) ie)] k=some (.pins isz (U9 z) ie):=by rw [G9 _ _ hn1,p9]
 have rj:O6 c.Φ w (c.hd j) sz (D6 z) e:=hok.rep j _ lj
 have rk:Y7 c.Φ w isz (U9 z) ie:=hok.rep k _ lkk
 obtain ⟨h,e1,-⟩:=rj.hdr
 have e2:(c.setHd id (.tuple (h.v::z.map (·.1.v)).toArray)).hd id=.tuple (h.v::z.map (·.1.v)).toArray:=by simp [Ctx.setHd]
 refine ⟨(),c.setHd id (.tuple (h.v::z.map (·.1.v)).toArray),Post.same hok rfl (fun i hi=>⟨rfl,by simp [Ctx.setHd,show i≠id by simpa using hi]⟩) (fun i o hl=>?_) (fun i o b hl hf=>?_) (fun i i' o o' b hdis hl hl' hf hf'=>?_),fun t' y hy=>?_⟩
 ·rcases lk3 hl with ⟨rfl,rfl⟩|⟨_,rfl,rfl⟩|⟨_,_,rfl,rfl⟩
  ·show a19 _ w _ sz e isz ie l
   rw [e2]
   refine ⟨h,z,rfl,h3,e1▸rj,rk,fun b p h1 h2 h3=>?_⟩
   exact hok.sep j k _ _ b hn1 lj lkk (show (c.hd j).ownBlock=some b by rw [e1]; exact h1) ⟨(p.1,p.2.2),List.mem_map.2 ⟨p,h2,rfl⟩,h3⟩
  ·trivial
  ·trivial
 ·rcases lk3 hl with ⟨rfl,rfl⟩|⟨_,rfl,rfl⟩|⟨_,_,rfl,rfl⟩
  ·obtain ⟨v,hv,hb⟩:=hf
   rw [e2] at hv
   have hv':v∈h.v::z.map (·.1.v):=hv
   rcases List.mem_cons.1 hv' with rfl|hv'
   ·exact ⟨j,_,lj,by rw [G9 _ _ (Ne.symm hn2),p9]; rfl,by show (c.hd j).ownBlock=_; rw [e1]; exact hb⟩
   ·obtain ⟨p,hp,rfl⟩:=List.mem_map.1 hv'
    exact ⟨k,_,lkk,by rw [G9 _ _ (Ne.symm hn3),G9 _ _ hn1,p9]; rfl,⟨(p.1,p.2.2),List.mem_map.2 ⟨p,hp,rfl⟩,hb⟩⟩
  ·exact hf.elim
  ·exact hf.elim
 ·rcases lk3 hl with ⟨rfl,rfl⟩|⟨_,rfl,rfl⟩|⟨_,_,rfl,rfl⟩<;>rcases lk3 hl' with ⟨rfl,rfl⟩|⟨_,rfl,rfl⟩|⟨_,_,rfl,rfl⟩<;>first|exact hdis rfl|exact hf.elim|exact hf'.elim
 ·obtain ⟨rfl,rfl⟩:=lk1 hy
  refine ⟨_,hl,fun v hv=>?_⟩
  obtain ⟨A,n,cap,f1,f2,f3,f4⟩:=hv.own_
  have f5:h.v=.slice A n cap:=e1.symm.trans f2
  rw [f1]
  exact .nst (vs:=z.map (·.1.v)) (by rw [e2,f5]) f3 f4
theorem Gh.unnil {ts:Ts} {os:Os} (r i off j j':Nat) {sz e isz ie:Nat} {ls:List (List AV)} {cs:List AV} (hr:lk os r=some (.row sz ls e)) (hi:ls[i]?=some cs) (ho:cs[off]?=some .nilsl) (hn1:Nat.beq j j'=false) (hn2:Nat.beq r j=false) (hn3:Nat.beq r j'=false)
  (hf1:K9 [j,j'] ts=true) (hf2:L8 [j,j'] [(r,.row sz (ls.set i (cs.set off (.con (Hd.v ⟨none,0,0⟩)))) e),(j,.row isz [] ie),(j',.eqv j (Hd.v ⟨none,0,0⟩))] os=true) :
  Gh Γ ts os (fun _:Unit=>ts) (fun _=>(r,.row sz (ls.set i (cs.set off (.con (Hd.v ⟨none,0,0⟩)))) e)::(j,.row isz [] ie)::(j',.eqv j (Hd.v ⟨none,0,0⟩))::os):=by
 have hn1:=J2 hn1
 have hn2:=J2 hn2
 have hn3:=J2 hn3
 refine Gh.of (need:=[(r,.row sz ls e)]) (upd:=fun _=>[(r,.row sz (ls.set i (cs.set off (.con (Hd.v ⟨none,0,0⟩)))) e),(j,.row isz [] ie),(j',.eqv j (Hd.v ⟨none,0,0⟩))]) (ex:=fun _=>[]) (news:=[j,j']) ⟨hr,trivial⟩ hf1 (fun _=>hf2) (fun _=>by simp [y7,hn1,hn2,hn3]) fun c w hok _=>?_
 obtain ⟨css,q1,q2,q3⟩:=hok.rep r _ (p9 _ _ _)
 have e1:(c.setHd j (Hd.v ⟨none,0,0⟩)).hd j=Hd.v ⟨none,0,0⟩:=by simp [Ctx.setHd]
 have e2:(c.setHd j (Hd.v ⟨none,0,0⟩)).hd r=c.hd r:=by simp [Ctx.setHd,hn2]
 have hnof:∀b,((c.setHd j (Hd.v ⟨none,0,0⟩)).hd j).ownBlock=some b→False:=fun b hb=>by
  rw [e1] at hb
  cases hb
 refine ⟨(),c.setHd j (Hd.v ⟨none,0,0⟩),Post.same hok rfl (fun id hid=>⟨rfl,by simp [Ctx.setHd,show id≠j by rintro rfl; simp at hid]⟩) (fun id o hl=>?_) (fun id o b hl hf=>?_) (fun id id' o o' b hdis hl hl' hf hf'=>?_),fun t' y hy=>(by cases hy)⟩
 ·rcases lk3 hl with ⟨rfl,rfl⟩|⟨_,rfl,rfl⟩|⟨_,_,rfl,rfl⟩
  ·show O6 c.Φ w ((c.setHd j (Hd.v ⟨none,0,0⟩)).hd id) sz _ e
   rw [e2]
   refine ⟨css,q1,by simpa using q2,fun n us cs' hu hc=>?_⟩
   rw [List.getElem?_set] at hc
   split at hc
   ·rename_i en
    subst en
    split at hc
    ·cases hc
     have h0:=q3 i us cs hu hi
     obtain ⟨v,v1,v2⟩:=h0.get ho
     have hv:v=Hd.v ⟨none,0,0⟩:=by cases v2; rfl
     have hset:=(F6.of_rfs (c:=c) h0).set off (v:=v) (a:=.con (Hd.v ⟨none,0,0⟩)) (by rw [hv]; exact .fz (.con _))
     have hus:us.set off v=us:=by
      apply List.ext_getElem?
      intro k
      rw [List.getElem?_set]
      split
      ·rename_i e4
       subst e4
       split
       ·exact v1.symm
       ·rw [List.getElem?_eq_none (by omega)]
      ·rfl
     rw [hus] at hset
     exact hset.rfs (bE7.2 fun a ha=>by
      rcases List.mem_or_eq_of_mem_set ha with h|h
      ·exact bE7.1 h0.ids a h
      ·rw [h]; rfl)
    ·cases hc
   ·exact q3 n us cs' hu hc
  ·show O6 c.Φ w ((c.setHd id (Hd.v ⟨none,0,0⟩)).hd id) isz [] ie
   rw [e1]
   exact ⟨[],⟨.inl ⟨rfl,rfl⟩,by simp,by simp⟩,rfl,fun i us cs h=>by simp at h⟩
  ·exact e1
 ·rcases lk3 hl with ⟨rfl,rfl⟩|⟨_,rfl,rfl⟩|⟨_,_,rfl,rfl⟩
  ·exact ⟨id,_,p9 _ _ _,by rw [p9]; rfl,by have:((c.setHd j (Hd.v ⟨none,0,0⟩)).hd id).ownBlock=some b:=hf; rw [e2] at this; exact this⟩
  ·exact (hnof b hf).elim
  ·exact hf.elim
 ·rcases lk3 hl with ⟨rfl,rfl⟩|⟨_,rfl,rfl⟩|⟨_,_,rfl,rfl⟩<;>rcases lk3 hl' with ⟨rfl,rfl⟩|⟨_,rfl,rfl⟩|⟨_,_,rfl,rfl⟩<;>first|exact hdis rfl|exact hf.elim|exact hf'.elim|exact hnof b hf|exact hnof b hf'
theorem Gh.nil {ts:Ts} {os:Os} (t:Nat) {sz:Nat} {ls:List (List AV)} (hl:lk ts t=some (.sl sz ls)):Gh Γ ts os (fun b:{ b:Bool // b=true→ls=[] }=>(t,.slb b.1)::ts) (fun _=>os):=by
 rintro a w ⟨c,⟨h1,h2,h3,h4,h5⟩,h6⟩
 obtain ⟨v,g1,g2⟩:=h3 t _ hl
 obtain ⟨A,k,us,b,o,e1,e2,e3,e4,_⟩:=g2.sl_
 have hb:Rd c w v (.slb A.isNone):=by rw [e1]; exact .fz (.slb _ _ _)
 refine ⟨⟨A.isNone,fun hn=>?_⟩,c,⟨h1,h2,fun t' x hx=>?_,h4,h5⟩,h6⟩
 ·cases ls with
  |nil=>rfl
  |cons p r =>
   rw [(e4 (by simp)).1] at hn
   cases hn
 ·rw [y7] at hx
  split at hx
  ·rename_i e; subst e; cases hx
   exact ⟨v,g1,hb⟩
  ·exact h3 t' x hx
theorem Gh.rowx {ts:Ts} {os:Os} (j0 j':Nat) {sz e i off x:Nat} {ls:List (List AV)} (hj:lk os j0=some (.rowx sz ls e i off x)) (hne:Nat.beq j0 j'=false) (hf1:K9 [j'] ts=true) (hf2:∀h:Hd,L8 [j'] [(j0,.row sz (aW4 ls i off (.con h.v)) e),(j',.eqv x h.v)] os=true) (hx:Nat.beq x j'=false) :
  Gh Γ ts os (fun _:Hd=>ts) (fun h=>(j0,.row sz (aW4 ls i off (.con h.v)) e)::(j',.eqv x h.v)::os):=by
 have hne:=J2 hne
 have hx:=J2 hx
 refine Gh.of (need:=[(j0,.rowx sz ls e i off x)]) (upd:=fun h:Hd=>[(j0,.row sz (aW4 ls i off (.con h.v)) e),(j',.eqv x h.v)]) (ex:=fun _=>[]) (news:=[j']) ⟨hj,trivial⟩ hf1 hf2 (fun _=>by simp [y7,hne]) fun c w hok _=>?_
 obtain ⟨v,h1,h2⟩:=hok.rep j0 _ (p9 _ _ _)
 obtain ⟨A,n,cap,e1,e2,-⟩:=h1.own_
 refine ⟨⟨A,n,cap⟩,c,Post.same hok rfl (fun _ _=>⟨rfl,rfl⟩) (fun id o hl=>?_) (fun id o b hl hf=>?_) (fun id id' o o' b hdis hl hl' hf hf'=>?_),fun t' y hy=>(by cases hy)⟩
 ·rcases lk2 hl with ⟨rfl,rfl⟩|⟨_,rfl,rfl⟩
  ·rw [e1] at h2; exact h2
  ·exact e2
 ·rcases lk2 hl with ⟨rfl,rfl⟩|⟨_,rfl,rfl⟩
  ·exact ⟨id,_,p9 _ _ _,by rw [p9]; rfl,hf⟩
  ·exact hf.elim
 ·rcases lk2 hl with ⟨rfl,rfl⟩|⟨_,rfl,rfl⟩<;>rcases lk2 hl' with ⟨rfl,rfl⟩|⟨_,rfl,rfl⟩<;>first|exact hdis rfl|exact hf.elim|exact hf'.elim
theorem Gh.fzBox {ts:Ts} {os:Os} (t id:Nat) {cs:List AV} {e:Nat} (hl:lk ts t=some (.ptr id 0)) (hid:lk os id=some (.box cs e)) (hc:AV.idss cs=[]):Gh Γ ts os (fun _:Unit=>(t,.fp cs)::ts) (fun _=>(id,.gone)::os) :=
 Gh.of (need:=[(id,.box cs e)]) (upd:=fun _=>[(id,.gone)]) (ex:=fun _=>[(t,.fp cs)]) (news:=[]) ⟨hid,trivial⟩ rfl (fun _=>rfl) (fun _=>rfl) fun c w hok _=>⟨(),c.fz [(id,.box cs e)],Post.freeze hok,fun t' y hy=>by
  obtain ⟨rfl,rfl⟩:=lk1 hy
  refine ⟨_,hl,fun v hv=>?_⟩
  obtain ⟨us,u1,u2⟩:=hok.rep id _ (p9 _ _ _)
  rw [hv.ptr_]
  refine .fz (.fp (us:=us) (.inr ⟨id,_,p9 _ _ _,rfl⟩) (fun j u hj=>?_) (J4.mono (fun _ _=>rfl) (fun b hb=>.inl hb) (F6.rfs hc u2)))
  unfold World.cell?
  simp only [Nat.zero_add,u1]
  simpa using hj⟩
end
end Go.Proofs.YtibjcppjfkamhaaGreatDoor
namespace Go.Proofs.YtibjcppjfkamhaaGreatDoor
open Go.RowKit
set_option linter.unusedVariables false
def sw (a b i:Nat):Nat:=bif Nat.beq i a then b else bif Nat.beq i b then a else i
theorem c98 (a b i:Nat):sw a b i=if i=a then b else if i=b then a else i:=by
 unfold sw
 by_cases h:i=a
 ·subst h; simp
 ·have e:Nat.beq i a=false:=by cases q:Nat.beq i a; rfl; exact absurd (Nat.eq_of_beq_eq_true q) h
  rw [e,if_neg h]
  by_cases h2:i=b
  ·subst h2; simp
  ·have e:Nat.beq i b=false:=by cases q:Nat.beq i b; rfl; exact absurd (Nat.eq_of_beq_eq_true q) h2
   rw [e,if_neg h2]; rfl
theorem dA3 (a b i:Nat):sw a b (sw a b i)=i:=by
 simp only [c98]
 split<;>split<;>(try split)<;>omega
mutual
theorem AV.ren_ren {ρ:Nat→Nat} (h:∀i,ρ (ρ i)=i):∀a:AV,(a.ren ρ).ren ρ=a
 |.ptr id off=>by simp only [AV.ren,h]
 |.own id=>by simp only [AV.ren,h]
 |.osl id n=>by simp only [AV.ren,h]
 |.osr id n sz=>by simp only [AV.ren,h]
 |.ep id i sz off=>by simp only [AV.ren,h]
 |.mp id=>by simp only [AV.ren,h]
 |.nst id=>by simp only [AV.ren,h]
 |.np id=>by simp only [AV.ren,h]
 |.ifc b=>rfl
 |.fn f cs=>by simp only [AV.ren,AV.rens_rens h cs]
 |.agg cs=>by simp only [AV.ren,AV.rens_rens h cs]
 |.tup cs=>by simp only [AV.ren,AV.rens_rens h cs]
 |.any=>rfl
 |.int n=>rfl
 |.ik k n=>rfl
 |.bool b=>rfl
 |.str s=>rfl
 |.sl sz ls=>rfl
 |.fp cs=>rfl
 |.nilsl=>rfl
 |.slb b=>rfl
 |.nilp=>rfl
 |.nilf=>rfl
 |.con v=>rfl
theorem AV.rens_rens {ρ:Nat→Nat} (h:∀i,ρ (ρ i)=i):∀l:List AV,AV.rens ρ (AV.rens ρ l)=l
 |[]=>rfl
 |a::l=>by simp only [AV.rens,AV.ren_ren h a,AV.rens_rens h l]
end
theorem Obj.ren_ren {ρ:Nat→Nat} (h:∀i,ρ (ρ i)=i) (o:Obj):(o.ren ρ).ren ρ=o:=by
 cases o
 case deep sz e cols l hs sh =>
  have e1:(hs.map fun p=>(p.1,p.2.1,ρ p.2.2)).map (fun p=>(p.1,p.2.1,ρ p.2.2))=hs:=by
   rw [List.map_map]
   have:(fun p:Nat×Nat×Nat=>(p.1,p.2.1,ρ p.2.2))∘(fun p=>(p.1,p.2.1,ρ p.2.2))=id:=by funext p; simp [h]
   rw [this,List.map_id]
  simp only [Obj.ren,h,e1]
 all_goals simp only [Obj.ren,AV.rens_rens h,h]
def aX0 (ρ:Nat→Nat):Os→Os
 |[]=>[]
 |(k,o)::r=>(ρ k,o.ren ρ)::aX0 ρ r
theorem a94 {ρ:Nat→Nat} (h:∀i,ρ (ρ i)=i) (id:Nat):∀os:Os,lk (aX0 ρ os) id=(lk os (ρ id)).map (·.ren ρ)
 |[]=>rfl
 |(k,o)::r=>by
  rw [aX0,y7,y7]
  by_cases e:k=ρ id
  ·rw [if_pos e,if_pos (by rw [e,h])]; rfl
  ·rw [if_neg e,if_neg (fun q=>e (by rw [←q,h])),a94 h id r]
theorem bW5 {ρ:Nat→Nat} (h:∀i,ρ (ρ i)=i) {id:Nat} {os:Os} {o:Obj} (hl:lk (aX0 ρ os) id=some o):lk os (ρ id)=some (o.ren ρ):=by
 rw [a94 h,Option.map_eq_some_iff] at hl
 obtain ⟨x,h1,rfl⟩:=hl
 rw [h1,Obj.ren_ren h]
theorem P9.other {c:Ctx} {w:World} {ρ:Nat→Nat} (h:∀i,ρ (ρ i)=i) {os os2:Os} (hs:∀id o,lk os2 id=some o→lk os (ρ id)=some (o.ren ρ)) (hok:P9 c w os):P9 (c.com ρ) w os2:=by
 refine ⟨fun id o hl=>(hok.rep _ _ (hs id o hl)).unren,fun id o b hl hf=>hok.lt _ _ b (hs id o hl) (aI6.1 hf),fun id id' o o' b hne hl hl' hf hf'=>hok.sep (ρ id) (ρ id') _ _ b (fun e=>hne ?_) (hs id o hl) (hs id' o' hl') (aI6.1 hf) (aI6.1 hf'),hok.phi⟩
 rw [←h id,e,h]
theorem cP4 {c:Ctx} {ρ:Nat→Nat} (h:∀i,ρ (ρ i)=i) {need upd:Os} {b:Nat} (ht:Touch (c.com ρ) need upd b):Touch c (aX0 ρ need) (aX0 ρ upd) b:=by
 obtain ⟨id,o,h1,h2,h3⟩:=ht
 refine ⟨ρ id,o.ren ρ,by rw [a94 h,h,h1]; rfl,by rw [a94 h,h]; simpa using h2,aI6.1 h3⟩
theorem Spec.swap {P:Program} {f:Nat} {need upd:Os} {ins:List AV} {av:AV} {news:List Nat} (hS:Spec P f need ins av upd news) (ρ:Nat→Nat) (h:∀i,ρ (ρ i)=i) :
  Spec P f (aX0 ρ need) (AV.rens ρ ins) (av.ren ρ) (aX0 ρ upd) (news.map ρ):=by
 obtain ⟨h1,h2,h3⟩:=hS
 refine ⟨h1,fun id hid=>?_,fun c w args hok hr=>?_⟩
 ·obtain ⟨i,hi,rfl⟩:=List.mem_map.1 hid
  rw [a94 h,h]
  simpa using h2 i hi
 have ok1:P9 (c.com ρ) w need:=hok.other h fun id o hl=>by rw [a94 h,h,hl]; rfl
 have hcc:∀d:Ctx,(d.com ρ).com ρ=d:=fun d=>by
  cases d
  simp only [Ctx.com,h]
 refine (h3 (c.com ρ) w args ok1 (F6.unren ins hr)).mono fun e w' ⟨v,c1,he,hp,hv⟩=>⟨v,c1.com ρ,he,?_,?_⟩
 ·have tr:∀b,Touch (c.com ρ) need upd b→Touch c (aX0 ρ need) (aX0 ρ upd) b:=fun b=>cP4 h
  have tr2:∀b,Touch c (aX0 ρ need) (aX0 ρ upd) b→Touch (c.com ρ) need upd b:=fun b ⟨id,o,g1,g2,g3⟩=>by
   refine ⟨ρ id,o.ren ρ,bW5 h g1,?_,?_⟩
   ·rw [a94 h] at g2; simpa using g2
   ·have:foot ((c.com ρ).com ρ) id o b:=by rw [hcc]; exact g3
    exact aI6.1 this
  refine ⟨hp.wos,hp.tape,hp.output,hp.size,hp.phi,fun b hb=>(hp.phiNew b hb).imp (fun h=>h) (.imp (fun h=>h) (tr b)),fun b hb hn=>hp.keep b hb fun ht=>hn (tr b ht),fun id hid=>?_,hp.hok.other h fun id o hl=>bW5 h hl,fun id o b hl hf=>?_⟩
  ·have:=hp.ctx (ρ id) fun hm=>hid (List.mem_map.2 ⟨ρ id,hm,h id⟩)
   simpa only [Ctx.com,h] using this
  ·exact (hp.feet (ρ id) _ b (bW5 h hl) (aI6.1 hf)).imp (fun h=>h) (tr b)
 ·exact Rd.unren (av.ren ρ) (by rw [AV.ren_ren h]; exact hv)
theorem Spec.sw {P:Program} {f:Nat} {need upd:Os} {ins:List AV} {av:AV} {news:List Nat} (hS:Spec P f need ins av upd news) (a b:Nat) :
  Spec P f (aX0 (sw a b) need) (AV.rens (sw a b) ins) (av.ren (sw a b)) (aX0 (sw a b) upd) (news.map (sw a b)):=hS.swap _ (dA3 a b)
def swl : List (Nat×Nat)→Nat→Nat
 |[],i=>i
 |(a,b)::r,i=>bif Nat.beq i a then b else bif Nat.beq i b then a else swl r i
def cI5 : List (Nat×Nat)→Bool
 |[]=>true
 |(a,b)::r=>(r.all fun p=>!Nat.beq p.1 a && !Nat.beq p.1 b && !Nat.beq p.2 a && !Nat.beq p.2 b) && cI5 r
theorem b88 : ∀(m:List (Nat×Nat)) (i:Nat),swl m i=i∨∃p∈m,swl m i=p.1∨swl m i=p.2
 |[],i=>.inl rfl
 |(a,b)::r,i=>by
  unfold swl
  cases h1:Nat.beq i a with
  |true=>exact .inr ⟨(a,b),by simp,.inr rfl⟩
  |false =>
   cases h2:Nat.beq i b with
   |true=>exact .inr ⟨(a,b),by simp,.inl rfl⟩
   |false =>
    rcases b88 r i with h|⟨p,hp,h⟩
    ·exact .inl h
    ·exact .inr ⟨p,by simp [hp],h⟩
theorem cI1 : ∀(m:List (Nat×Nat)),cI5 m=true→∀i,swl m (swl m i)=i
 |[],_,i=>rfl
 |(a,b)::r,h,i=>by
  unfold cI5 at h
  rw [Bool.and_eq_true] at h
  have ih:=cI1 r h.2
  conv=>lhs; arg 2; unfold swl
  cases h1:Nat.beq i a with
  |true =>
   have e:=Nat.eq_of_beq_eq_true h1
   subst e
   simp only [cond_true]
   unfold swl
   cases h2:Nat.beq b i with
   |true=>simpa using (Nat.eq_of_beq_eq_true h2)
   |false=>simp
  |false =>
   cases h2:Nat.beq i b with
   |true =>
    have e:=Nat.eq_of_beq_eq_true h2
    subst e
    simp only [cond_false,cond_true]
    unfold swl
    simp
   |false =>
    simp only [cond_false]
    have key:Nat.beq (swl r i) a=false∧Nat.beq (swl r i) b=false:=by
     rcases b88 r i with e|⟨p,hp,e⟩
     ·rw [e]; exact ⟨h1,h2⟩
     ·have:=List.all_eq_true.1 h.1 p hp
      simp only [Bool.and_eq_true,Bool.not_eq_true'] at this
      rcases e with e|e<;>rw [e]
      ·exact ⟨this.1.1.1,this.1.1.2⟩
      ·exact ⟨this.1.2,this.2⟩
    unfold swl
    rw [key.1,key.2]
    simp only [cond_false]
    exact ih i
theorem Spec.swl {P:Program} {f:Nat} {need upd:Os} {ins:List AV} {av:AV} {news:List Nat} (hS:Spec P f need ins av upd news) (m:List (Nat×Nat)) (h:cI5 m=true) :
  Spec P f (aX0 (Go.Proofs.YtibjcppjfkamhaaGreatDoor.swl m) need) (AV.rens (Go.Proofs.YtibjcppjfkamhaaGreatDoor.swl m) ins) (av.ren (Go.Proofs.YtibjcppjfkamhaaGreatDoor.swl m)) (aX0 (Go.Proofs.YtibjcppjfkamhaaGreatDoor.swl m) upd) (news.map (Go.Proofs.YtibjcppjfkamhaaGreatDoor.swl m)):=hS.swap _ (cI1 m h)
end Go.Proofs.YtibjcppjfkamhaaGreatDoor
