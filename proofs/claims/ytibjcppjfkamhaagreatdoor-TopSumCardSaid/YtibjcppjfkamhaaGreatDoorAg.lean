import Derived.Test.YtibjcppjfkamhaaGreatDoorAc
import Derived.Orders
import Derived.Still
/- THE WALK OVER READINGS: regions, branches, loops, a whole function's contract. No program in sight; types are told by the table. -/
namespace Go.Proofs.YtibjcppjfkamhaaGreatDoor
open Go.RowKit
set_option linter.unusedVariables false
theorem aL4 {p:Prop} [Decidable p] {X Y:Prop} (h1:p→X) (h2:¬p→Y):bM6 (decide p) X Y:=by
 by_cases h:p
 ·rw [decide_eq_true h]; exact h1 h
 ·rw [decide_eq_false h]; exact h2 h
theorem bG8 {b:Bool} {X Y:Prop} (h1:b=true→X) (h2:b=false→Y):bM6 b X Y:=by
 cases b
 ·exact h2 rfl
 ·exact h1 rfl
def K9 (nw:List Nat) (ts:Ts):Bool:=match nw with
 |[]=>true
 |_=>ts.all fun p=>aW0 nw p.2.ids
def L8 (nw:List Nat) (up os:Os):Bool:=match nw with
 |[]=>true
 |_=>nw.all (fun i=>Nat.blt i top) && os.all fun p=>(lk up p.1).isSome || aW0 nw p.2.ids
def aR7 (n:Nat):Option Tmp→Bool
 |none=>true
 |some d=>Nat.blt d n
def aI8 : Option Tmp→AV→Ts→Ts
 |none,_,ts=>ts
 |some d,av,ts=>(d,av)::ts
def force (a:AV) (K:AV→Prop):Prop :=
 match a with
 |.any=>K .any
 |.int n=>K (.int n)
 |.ik k n=>K (.ik k n)
 |.bool b=>K (.bool b)
 |.str s=>K (.str s)
 |.sl sz ls=>K (.sl sz ls)
 |.ptr id off=>K (.ptr id off)
 |.fp cs=>K (.fp cs)
 |.own id=>K (.own id)
 |.osl id n=>K (.osl id n)
 |.osr id n sz=>K (.osr id n sz)
 |.ep id i sz off=>K (.ep id i sz off)
 |.fn f cs=>K (.fn f cs)
 |.agg cs=>K (.agg cs)
 |.tup cs=>K (.tup cs)
 |.nilsl=>K .nilsl
 |.slb b=>K (.slb b)
 |.nilp=>K .nilp
 |.nilf=>K .nilf
 |.mp id=>K (.mp id)
 |.nst id=>K (.nst id)
 |.np id=>K (.np id)
 |.ifc b=>K (.ifc b)
 |.con v=>K (.con v)
theorem force_eq (a:AV) (K:AV→Prop):force a K↔K a:=by cases a<;>exact Iff.rfl
def bM5 : Os→Os→(Os→Prop)→Prop
 |[],os,K=>K os
 |(k,o)::r,os,K=>bM5 r os fun x=>K ((k,o)::x)
theorem a92 : ∀(up os:Os) (K:Os→Prop),bM5 up os K↔K (up++os)
 |[],_,_=>Iff.rfl
 |(k,o)::r,os,K=>by rw [bM5,a92 r os]; rfl
def aX2 : Ts→(Ts→Prop)→Prop
 |[],K=>K []
 |(k,a)::r,K=>aX2 r fun x=>K ((k,a)::x)
theorem bA3 : ∀(ts:Ts) (K:Ts→Prop),aX2 ts K↔K ts
 |[],_=>Iff.rfl
 |(k,a)::r,K=>by rw [aX2,bA3 r]
def bL4 (ops:List Oper) (ts:Ts) (j:Nat):Option Bool :=
 match ops[j]? with
 |some o=>match o.dst with
  |some d=>match lk ts d with
   |some (.bool b)=>some b
   |_=>none
  |none=>none
 |none=>none
def bL2 (ops:List Oper) (ts:Ts) (j:Nat):Bool :=
 match ops[j]? with
 |some o=>match o.dst with
  |some d=>match lk ts d with
   |some (.tup [])=>true
   |_=>false
  |none=>false
 |none=>false
def aX7 (ops:List Oper) (o:Oper) (ts:Ts) (X Y:Prop):Prop :=
 match o.guard with
 |none=>X
 |some (j,true)=>match bL2 ops ts j with
  |true=>Y
  |false=>match bL4 ops ts j with
   |some b=>bM6 b X Y
   |none=>False
 |some (j,false)=>match bL2 ops ts j with
  |true=>Y
  |false=>match bL4 ops ts j with
   |some b=>bM6 b Y X
   |none=>False
def a97 (P:Program) (tab:Q6) (et:aG9) (n:Nat) (ops:List Oper):List Oper→Ts→Os→(Ts→Os→Prop)→Prop
 |[],ts,os,K=>K ts os
 |o::rest,ts,os,K=>match o.dst with
  |some d=>match Nat.blt d n with
   |true=>aX7 ops o ts
    (aU0 P tab et d o.op (evO ts) os fun av _ nw up=>match K9 nw ts && L8 nw up os with
     |true=>force av fun av=>bM5 up os fun os=>a97 P tab et n ops rest ((d,av)::ts) os K
     |false=>False)
    (a97 P tab et n ops rest ((d,.tup [])::ts) os K)
   |false=>False
  |none=>aX7 ops o ts
   (aU0 P tab et 0 o.op (evO ts) os fun av _ nw up=>match K9 nw ts && L8 nw up os with
    |true=>bM5 up os fun os=>a97 P tab et n ops rest ts os K
    |false=>False)
   (a97 P tab et n ops rest ts os K)
section
variable {P:Program} {tab:Q6} {et:aG9} {Γ:Fun}
theorem aZ5.put {c c':Ctx} {w w':World} {ts:Ts} {a:Act} {need upd:Os} {news:List Nat} {v:Value} {av:AV} {dst:Option Tmp} (h:aZ5 c w ts a) (hn:P9 c w need) (hp:Post c w c' w' need upd news) (hf:∀t x,lk ts t=some x→∀id∈news,id ∉ x.ids)
  (hv:Rd c' w' v av) (hd:aR7 a.tmps.size dst=true):aZ5 c' w' (aI8 dst av ts) (a.put dst v):=by
 cases dst with
 |none =>
  intro t x hl
  obtain ⟨u,h1,h2⟩:=h t x hl
  exact ⟨u,h1,h2.post hp hn (hf t x hl)⟩
 |some d =>
  intro t x hl
  have hdl:d < a.tmps.size:=Nat.le_of_ble_eq_true hd
  simp only [aI8,y7] at hl
  by_cases hdt:d=t
  ·rw [if_pos hdt] at hl
   cases hl
   subst hdt
   exact ⟨v,by simp [Act.put,hdl],hv⟩
  ·rw [if_neg hdt] at hl
   obtain ⟨u,h1,h2⟩:=h t x hl
   exact ⟨u,by simp [Act.put,Array.getElem?_setIfInBounds_ne hdt,h1],h2.post hp hn (hf t x hl)⟩
theorem aU9 {nw:List Nat} {ts:Ts} (h:K9 nw ts=true):∀t x,lk ts t=some x→∀id∈nw,id ∉ x.ids:=by
 intro t x hl id hid
 unfold K9 at h
 split at h
 ·cases hid
 ·exact aL9 (List.all_eq_true.1 h _ (aA5 hl)) id hid
theorem aM1 {nw:List Nat} {up os:Os} (h:L8 nw up os=true):(∀id o,lk os id=some o→lk up id=none→∀x∈nw,x ∉ o.ids)∧∀x∈nw,x < top:=by
 unfold L8 at h
 split at h
 ·exact ⟨fun _ _ _ _ _ h=>(by cases h),fun _ h=>(by cases h)⟩
 ·simp only [Bool.and_eq_true] at h
  refine ⟨fun id o hl hu x hx=>?_,fun x hx=>?_⟩
  ·have:=List.all_eq_true.1 h.2 _ (aA5 hl)
   simp only [hu,Option.isSome_none,Bool.false_or] at this
   exact aL9 this x hx
  ·exact Nat.le_of_ble_eq_true (List.all_eq_true.1 h.1 x hx)
def Same (Γ:Fun) (c:Ctx):Prop:=∀id,top≤id→c.μ id=Γ.c.μ id∧c.hd id=Γ.c.hd id
structure c74 (Γ:Fun) (ts:Ts) (os:Os) (c:Ctx) (a:Act) (w:World):Prop where
 rel:dC4 Γ ts os c a w
 same:Same Γ c
def G5 (Γ:Fun) (ts:Ts) (os:Os) (a:Act) (w:World):Prop:=∃c,c74 Γ ts os c a w
theorem Goes.inst {r:Result Next} {R:Value→World→Prop} (h:Goes P r R):∃v w,R v w:=by
 unfold Goes at h
 split at h
 ·exact ⟨_,_,h⟩
 ·exact ⟨_,_,h⟩
 ·obtain ⟨e,w',fr,⟨v,_,hr⟩,_⟩:=h []
  exact ⟨v,w',hr⟩
 ·exact h.elim
theorem bJ2 {c:Ctx} {w:World} {ops:List Oper} {ts:Ts} {a:Act} {j:Nat} {b:Bool} (h:aZ5 c w ts a) (hg:bL4 ops ts j=some b):yielded ops.toArray a.tmps j=some b:=by
 unfold bL4 at hg
 split at hg
 ·rename_i o ho
  split at hg
  ·rename_i d hd
   split at hg
   ·rename_i b' hb
    cases hg
    obtain ⟨v,h1,h2⟩:=h d _ hb
    rw [h2.bool_] at h1
    unfold yielded
    simp [ho,hd,h1]
   ·cases hg
  ·cases hg
 ·cases hg
theorem bI7 {c:Ctx} {w:World} {ops:List Oper} {ts:Ts} {a:Act} {j:Nat} (h:aZ5 c w ts a) (hg:bL2 ops ts j=true):yielded ops.toArray a.tmps j=none:=by
 unfold bL2 at hg
 split at hg
 ·rename_i o ho
  split at hg
  ·rename_i d hd
   split at hg
   ·rename_i hb
    obtain ⟨v,h1,h2⟩:=h d _ hb
    obtain ⟨us,rfl,_⟩:=h2.tup_
    unfold yielded
    simp [ho,hd,h1]
   ·cases hg
  ·cases hg
 ·cases hg
theorem bZ7 {c:Ctx} {w:World} {ops:List Oper} {o:Oper} {ts:Ts} {a:Act} {X Y:Prop} (h:aZ5 c w ts a) (hg:aX7 ops o ts X Y):(Region.wanted o (yielded ops.toArray a.tmps)=true∧X)∨(Region.wanted o (yielded ops.toArray a.tmps)=false∧Y):=by
 unfold aX7 at hg
 unfold Region.wanted
 split at hg
 ·rename_i hn
  rw [hn]
  exact .inl ⟨rfl,hg⟩
 ·rename_i j hn
  rw [hn]
  split at hg
  ·rename_i hu
   have:=bI7 h hu
   exact .inr ⟨by simp [this],hg⟩
  split at hg
  ·rename_i b hb
   have:=bJ2 h hb
   cases b
   ·exact .inr ⟨by simp [this],hg⟩
   ·exact .inl ⟨by simp [this],hg⟩
  ·exact hg.elim
 ·rename_i j hn
  rw [hn]
  split at hg
  ·rename_i hu
   have:=bI7 h hu
   exact .inr ⟨by simp [this],hg⟩
  split at hg
  ·rename_i b hb
   have:=bJ2 h hb
   cases b
   ·exact .inl ⟨by simp [this],hg⟩
   ·exact .inr ⟨by simp [this],hg⟩
  ·exact hg.elim
theorem bF7 (a:Act) (dst:Option Tmp) (v:Value):(a.put dst v).tmps.size=a.tmps.size:=by cases dst<;>simp [Act.put]
theorem put_defers (a:Act) (dst:Option Tmp) (v:Value):(a.put dst v).defers=a.defers:=by cases dst<;>simp [Act.put]
theorem cF1 {o:Oper} {ts:Ts} {os:Os} {a:Act} {w:World} {K:Kt} (h:U8 P o (evO ts) os K) (hr:G5 Γ ts os a w)
  {K':Act→World→Prop} {Q:Exit→Act→World→Prop} (hK:∀av rd nw up,K av rd nw up→(∀v w' c',K9 nw ts=true→L8 nw up os=true→aR7 Γ.n o.dst=true→c74 Γ (aI8 o.dst av ts) (up++os) c' (a.put o.dst v) w'→K' (a.put o.dst v) w')∧K9 nw ts=true∧L8 nw up os=true∧aR7 Γ.n o.dst=true) :
  o.wp P a w K' Q:=by
 obtain ⟨c,⟨hd,hn,hts,hok,hinv⟩,hsame⟩:=hr
 have hev:∀x∈o.op.operands.toList,Rd c w (a.eval x) (evO ts x):=fun x _=>bL9 hts x
 obtain ⟨av,need,upd,news,htri,hneed,hnews,hKK⟩:=h ⟨c,w,a.eval,hok,hev⟩
 obtain ⟨hcont,f1,f2,f3⟩:=hK _ _ _ _ hKK
 have hgo:=htri c w a.eval (hok.sub hneed) hev
 unfold Oper.wp
 refine hgo.upon fun v w' ⟨c',hp,hv⟩=>?_
 obtain ⟨g1,g2⟩:=aM1 f2
 refine hcont v w' c' f1 f2 f3 ⟨⟨by rw [put_defers]; exact hd,by rw [bF7]; exact hn,hts.put (hok.sub hneed) hp (aU9 f1) hv (by rw [hn]; exact f3),hok.frame hneed hp hnews g1,hinv.post hok hneed hp hnews g1⟩,fun id hid=>?_⟩
 have hno:id ∉ news:=fun hm=>by have:=g2 id hm; omega
 have h1:=hp.ctx id hno
 have h2:=hsame id hid
 exact ⟨h1.1.trans h2.1,h1.2.trans h2.2⟩
theorem bF5 {o:Oper} {ts:Ts} {os:Os} {a:Act} {w:World} (hr:G5 Γ ts os a w) (hd:aR7 Γ.n o.dst=true):G5 Γ (aI8 o.dst (.tup []) ts) os (a.put o.dst undef) w:=by
 obtain ⟨c,⟨h1,h2,h3,h4,h5⟩,h6⟩:=hr
 exact ⟨c,⟨by rw [put_defers]; exact h1,by rw [bF7]; exact h2,h3.put (need:=[]) (upd:=[]) (news:=[]) (h4.sub fun _ _ h=>by cases h) (Post.refl h4.phi) (fun _ _ _ _ h=>by cases h) (Rd.tup (us:=[]) .nil) (by rw [h2]; exact hd),h4,h5⟩,h6⟩
theorem aZ1 (hT:O3 P tab) (hE:aF3 P et) {ops:List Oper} {Q:Exit→Act→World→Prop} {l2:List Oper}:∀(l:List Oper) (ts:Ts) (os:Os) (K:Ts→Os→Prop) (a:Act) (w:World),a97 P tab et Γ.n ops l ts os K→G5 Γ ts os a w →
  (∀ts' os' a' w',K ts' os'→G5 Γ ts' os' a' w'→wpList P ops.toArray Q l2 a' w')→wpList P ops.toArray Q (l++l2) a w
 |[],ts,os,K,a,w,h,hr,hQ=>hQ ts os a w h hr
 |o::rest,ts,os,K,a,w,h,hr,hQ=>by
  obtain ⟨c,hrel⟩:=hr
  have hrg:G5 Γ ts os a w:=⟨c,hrel⟩
  rw [List.cons_append]
  unfold wpList
  unfold a97 at h
  split at h
  ·rename_i d hd
   split at h
   ·rename_i hdl
    rcases bZ7 hrel.rel.ts h with ⟨hw,h⟩|⟨hw,h⟩
    ·rw [if_pos hw]
     refine .inl (cF1 (step_ok hT hE _ h) hrg fun av rd nw up hk=>?_)
     split at hk
     ·rename_i hb
      simp only [Bool.and_eq_true] at hb
      rw [force_eq,a92] at hk
      refine ⟨fun v w' c' _ _ _ hR=>aZ1 hT hE rest _ _ K _ _ hk ⟨c',by rw [hd] at hR ⊢; exact hR⟩ hQ,hb.1,hb.2,by rw [hd]; exact hdl⟩
     ·exact hk.elim
    ·rw [if_neg (by rw [hw]; simp)]
     have:=bF5 (o:=o) hrg (by rw [hd]; exact hdl)
     exact aZ1 hT hE rest _ _ K _ _ h (by rw [hd] at this ⊢; exact this) hQ
   ·exact h.elim
  ·rename_i hd
   rcases bZ7 hrel.rel.ts h with ⟨hw,h⟩|⟨hw,h⟩
   ·rw [if_pos hw]
    refine .inl (cF1 (step_ok hT hE _ h) hrg fun av rd nw up hk=>?_)
    split at hk
    ·rename_i hb
     simp only [Bool.and_eq_true] at hb
     rw [a92] at hk
     refine ⟨fun v w' c' _ _ _ hR=>aZ1 hT hE rest _ _ K _ _ hk ⟨c',by rw [hd] at hR ⊢; exact hR⟩ hQ,hb.1,hb.2,by rw [hd]; rfl⟩
    ·exact hk.elim
   ·rw [if_neg (by rw [hw]; simp)]
    have:=bF5 (o:=o) hrg (by rw [hd]; rfl)
    exact aZ1 hT hE rest _ _ K _ _ h (by rw [hd] at this ⊢; exact this) hQ
theorem cP7 (hT:O3 P tab) (hE:aF3 P et) {ops:List Oper} {Q:Exit→Act→World→Prop} (l:List Oper) (ts:Ts) (os:Os) (K:Ts→Os→Prop) (a:Act) (w:World) (h:a97 P tab et Γ.n ops l ts os K) (hr:G5 Γ ts os a w)
  (hQ:∀ts' os' a' w',K ts' os'→G5 Γ ts' os' a' w'→Q .normal a' w'):wpList P ops.toArray Q l a w:=by
 have:=aZ1 hT hE (l2:=[]) l ts os K a w h hr fun ts' os' a' w' hk hr'=>hQ ts' os' a' w' hk hr'
 rwa [List.append_nil] at this
inductive Ex : Type where
 |normal
 |exit (id:Nat)
 |ret
def exM : Exit→Ex→Prop
 |.normal,.normal=>True
 |.exit i,.exit j=>i=j
 |.ret,.ret=>True
 |_,_=>False
abbrev Qt := Ex→Ts→Os→Prop
structure j5 (P:Program) (Γ:Fun) (c:Code) (ts:Ts) (os:Os) (Q:Qt):Prop where
 run:∀a w,G5 Γ ts os a w→c.wp P (fun e a' w'=>∃ex ts' os',exM e ex∧Q ex ts' os'∧G5 Γ ts' os' a' w') a w
def vcC (P:Program) (tab:Q6) (et:aG9) (Γ:Fun) (n:Nat):Code→Ts→Os→Qt→Prop
 |.skip,ts,os,Q=>Q .normal ts os
 |.seq x y,ts,os,Q=>vcC P tab et Γ n x ts os fun e ts' os'=>match e with
  |.normal=>j5 P Γ y ts' os' Q
  |.exit id=>Q (.exit id) ts' os'
  |.ret=>Q .ret ts' os'
 |.cond c x y,ts,os,Q=>match evO ts c with
  |.bool b=>bM6 b (j5 P Γ x ts os Q) (j5 P Γ y ts os Q)
  |_=>False
 |.block id c,ts,os,Q=>vcC P tab et Γ n c ts os fun e ts' os'=>match e with
  |.normal=>Q .normal ts' os'
  |.exit id'=>match Nat.beq id' id with
   |true=>Q .normal ts' os'
   |false=>Q (.exit id') ts' os'
  |.ret=>Q .ret ts' os'
 |.loop c,ts,os,Q=>j5 P Γ (.loop c) ts os Q
 |.region id ops false,ts,os,Q=>aX2 ts fun ts=>a97 P tab et n ops.toList ops.toList ts os (Q .normal)
 |.region id ops true,ts,os,Q=>j5 P Γ (.region id ops true) ts os Q
 |.exit id,ts,os,Q=>Q (.exit id) ts os
 |.ret,ts,os,Q=>Q .ret ts os
 |_,_,_,_=>False
theorem j5.mono {c:Code} {ts:Ts} {os:Os} {Q Q':Qt} (h:j5 P Γ c ts os Q) (hq:∀e ts os,Q e ts os→Q' e ts os):j5 P Γ c ts os Q' :=
 ⟨fun a w hr=>wp_mono (h.run a w hr) fun e a' w' ⟨ex,ts',os',h1,h2,h3⟩=>⟨ex,ts',os',h1,hq _ _ _ h2,h3⟩⟩
theorem cG2 (hT:O3 P tab) (hE:aF3 P et):∀(c:Code) (ts:Ts) (os:Os) (Q:Qt),vcC P tab et Γ Γ.n c ts os Q→j5 P Γ c ts os Q
 |.skip,ts,os,Q,h=>⟨fun a w hr=>wp_skip ⟨.normal,ts,os,trivial,h,hr⟩⟩
 |.seq x y,ts,os,Q,h=>by
  refine ⟨fun a w hr=>wp_seq (wp_mono ((cG2 hT hE x ts os _ h).run a w hr) fun e a' w' ⟨ex,ts',os',h1,h2,h3⟩=>?_)⟩
  cases e<;>cases ex<;>simp only [exM] at h1<;>first|exact h1.elim|skip
  ·exact h2.run a' w' h3
  ·subst h1; exact ⟨.exit _,ts',os',rfl,h2,h3⟩
  ·exact ⟨.ret,ts',os',trivial,h2,h3⟩
 |.cond c x y,ts,os,Q,h=>by
  unfold vcC at h
  split at h
  ·rename_i b hb
   refine ⟨fun a w hr=>?_⟩
   obtain ⟨cx,hrel⟩:=hr
   have hev:=bL9 hrel.rel.ts c
   rw [hb] at hev
   cases b
   ·exact wp_cond_false hev.bool_ (h.run a w ⟨cx,hrel⟩)
   ·exact wp_cond_true hev.bool_ (h.run a w ⟨cx,hrel⟩)
  ·exact h.elim
 |.block id c,ts,os,Q,h=>by
  refine ⟨fun a w hr=>wp_block (wp_mono ((cG2 hT hE c ts os _ h).run a w hr) fun e a' w' ⟨ex,ts',os',h1,h2,h3⟩=>?_)⟩
  match e,ex,h1,h2 with
  |.normal,.normal,_,h2=>exact ⟨.normal,ts',os',trivial,h2,h3⟩
  |.exit i,.exit j,h1,h2 =>
   have h1':i=j:=h1
   subst h1'
   simp only at h2
   split at h2
   ·rename_i hb
    have he:=Nat.eq_of_beq_eq_true hb
    simp only [Exit.inBlock,if_pos he]
    exact ⟨.normal,ts',os',trivial,h2,h3⟩
   ·rename_i hb
    have hne:¬i=id:=fun e=>by rw [e] at hb; simp at hb
    simp only [Exit.inBlock,if_neg hne]
    exact ⟨.exit i,ts',os',rfl,h2,h3⟩
  |.ret,.ret,_,h2=>exact ⟨.ret,ts',os',trivial,h2,h3⟩
 |.loop c,ts,os,Q,h=>h
 |.region id ops false,ts,os,Q,h=>⟨fun a w hr=>wp_region_list (by
   have:=cP7 hT hE (Q:=fun e a' w'=>∃ex ts' os',exM e ex∧Q ex ts' os'∧G5 Γ ts' os' a' w') ops.toList ts os (Q .normal) a w ((bA3 ts _).1 h) hr fun ts' os' a' w' hq hr'=>⟨.normal,ts',os',trivial,hq,hr'⟩
   simpa using this)⟩
 |.region id ops true,ts,os,Q,h=>h
 |.exit id,ts,os,Q,h=>⟨fun a w hr=>wp_exit ⟨.exit id,ts,os,rfl,h,hr⟩⟩
 |.ret,ts,os,Q,h=>⟨fun a w hr=>wp_ret ⟨.ret,ts,os,trivial,h,hr⟩⟩
 |.rangeFunc _ _ _ _,_,_,_,h=>h.elim
 |.scope _,_,_,_,h=>h.elim
 |.label _,_,_,_,h=>h.elim
 |.goto _,_,_,_,h=>h.elim
 |.refuse _,_,_,_,h=>h.elim
end
end Go.Proofs.YtibjcppjfkamhaaGreatDoor
namespace Go.Proofs.YtibjcppjfkamhaaGreatDoor
open Go.RowKit
set_option linter.unusedVariables false
mutual
def AV.ren (ρ:Nat→Nat):AV→AV
 |.ptr id off=>.ptr (ρ id) off
 |.own id=>.own (ρ id)
 |.osl id n=>.osl (ρ id) n
 |.osr id n sz=>.osr (ρ id) n sz
 |.ep id i sz off=>.ep (ρ id) i sz off
 |.mp id=>.mp (ρ id)
 |.nst id=>.nst (ρ id)
 |.np id=>.np (ρ id)
 |.fn f cs=>.fn f (AV.rens ρ cs)
 |.agg cs=>.agg (AV.rens ρ cs)
 |.tup cs=>.tup (AV.rens ρ cs)
 |a=>a
def AV.rens (ρ:Nat→Nat):List AV→List AV
 |[]=>[]
 |a::l=>a.ren ρ::AV.rens ρ l
end
def Ctx.com (c:Ctx) (ρ:Nat→Nat):Ctx:={ c with μ:=fun i=>c.μ (ρ i),hd:=fun i=>c.hd (ρ i) }
section
variable {c:Ctx} {w:World} {ρ:Nat→Nat}
mutual
theorem Rd.unren : ∀(a:AV) {v:Value},Rd c w v (a.ren ρ)→Rd (c.com ρ) w v a
 |.ptr id off,_,h=>by rw [h.ptr_]; exact .ptr rfl
 |.own id,_,h=>by obtain ⟨A,n,cap,e1,e2,e3,e4⟩:=h.own_; rw [e1]; exact .own e2 e3 e4
 |.osl id n,_,h=>by obtain ⟨A,m,cap,e1,e2,e3,e4,e5⟩:=h.osl_; rw [e1]; exact .osl e2 e3 e4 e5
 |.osr id n sz,_,h=>by obtain ⟨A,m,cap,e1,e2,e3,e4,e5⟩:=h.osr_; rw [e1]; exact .osr e2 e3 e4 e5
 |.ep id i sz off,_,h=>by obtain ⟨g,x0,m,cap,e1,e2⟩:=h.ep_; rw [e1]; exact .ep e2
 |.mp id,_,h=>by rw [h.mp_]; exact .mp rfl
 |.nst id,_,h=>by obtain ⟨A,n,cap,vs,e1,e2,e3,e4⟩:=h.nst_; rw [e1]; exact .nst e2 e3 e4
 |.np id,_,h=>by
  rcases h.np_ with e|e
  ·rw [e]; exact .npn
  ·rw [e]; exact .nps rfl
 |.ifc b,_,h=>by cases h with|fz h=>exact .fz h
 |.fn f cs,_,h=>by obtain ⟨us,e,hu⟩:=Rd.fn_ h; rw [e]; exact .fn (F6.unren cs hu)
 |.agg cs,_,h=>by obtain ⟨us,e,hu⟩:=Rd.agg_ h; rw [e]; exact .agg (F6.unren cs hu)
 |.tup cs,_,h=>by obtain ⟨us,e,hu⟩:=Rd.tup_ h; rw [e]; exact .tup (F6.unren cs hu)
 |.any,_,_=>Rd.any_ _
 |.int n,_,h=>by cases h with|fz h=>exact .fz h
 |.ik k n,_,h=>by cases h with|fz h=>exact .fz h
 |.bool b,_,h=>by cases h with|fz h=>exact .fz h
 |.str s,_,h=>by cases h with|fz h=>exact .fz h
 |.sl sz ls,_,h=>by cases h with|fz h=>exact .fz h
 |.fp cs,_,h=>by cases h with|fz h=>exact .fz h
 |.nilsl,_,h=>by cases h with|fz h=>exact .fz h
 |.slb b,_,h=>by cases h with|fz h=>exact .fz h
 |.nilp,_,h=>by cases h with|fz h=>exact .fz h
 |.nilf,_,h=>by cases h with|fz h=>exact .fz h
 |.con v,_,h=>by cases h with|fz h=>exact .fz h
theorem F6.unren : ∀(as:List AV) {vs:List Value},F6 c w vs (AV.rens ρ as)→F6 (c.com ρ) w vs as
 |[],_,h=>by cases h; exact .nil
 |a::l,_,h=>by cases h with|cons h t=>exact .cons (Rd.unren a h) (F6.unren l t)
end
end
def Obj.ren (ρ:Nat→Nat):Obj→Obj
 |.box cs e=>.box (AV.rens ρ cs) e
 |.eqv j v=>.eqv (ρ j) v
 |.rowx sz ls e i off x=>.rowx sz ls e i off (ρ x)
 |.deep sz e cols l hs sh=>.deep sz e cols l (hs.map fun p=>(p.1,p.2.1,ρ p.2.2)) (ρ sh)
 |o=>o
theorem bM2 {ρ:Nat→Nat} {hs:List (Nat×Nat×Nat)} {i off:Nat}:aE1 (hs.map fun p=>(p.1,p.2.1,ρ p.2.2)) i off↔aE1 hs i off:=by
 constructor
 ·rintro ⟨x,hx⟩
  obtain ⟨⟨a,b,y⟩,hp,e⟩:=List.mem_map.1 hx
  cases e
  exact ⟨y,hp⟩
 ·rintro ⟨x,hx⟩
  exact ⟨ρ x,List.mem_map.2 ⟨_,hx,rfl⟩⟩
theorem bL0 {ρ:Nat→Nat} {css:List (List Value)} {cols:List (Nat×Nat×TypeId)} {hs:List (Nat×Nat×Nat)} {i off:Nat} {v:Value}:Inn css cols (hs.map fun p=>(p.1,p.2.1,ρ p.2.2)) i off v↔Inn css cols hs i off v :=
 ⟨fun ⟨us,p,a,b,d,e⟩=>⟨us,p,a,b,d,fun h=>e (bM2.2 h)⟩,fun ⟨us,p,a,b,d,e⟩=>⟨us,p,a,b,d,fun h=>e (bM2.1 h)⟩⟩
theorem bJ9.unren {c:Ctx} {w:World} {ρ:Nat→Nat} {id sz e sh:Nat} {cols:List (Nat×Nat×TypeId)} {l:List (List AV)} {hs:List (Nat×Nat×Nat)} (h:bJ9 c.Φ c.hd w (ρ id) sz e cols l (hs.map fun p=>(p.1,p.2.1,ρ p.2.2)) (ρ sh)) :
  bJ9 (c.com ρ).Φ (c.com ρ).hd w id sz e cols l hs sh:=by
 obtain ⟨css,h1,h2,h3,h4⟩:=h
 refine ⟨css,h1,⟨h2.len,h2.cell,fun i us cs off isz ie u a1 a2 a3 a4 a5=>h2.inner i us cs off isz ie u a1 a2 a3 a4 fun h=>a5 (bM2.1 h),fun i off x us u a1 a2 a3=>h2.hole i off (ρ x) us u (List.mem_map.2 ⟨_,a1,rfl⟩) a2 a3,fun i off v i' off' v' b a1 a2=>h2.apart i off v i' off' v' b (bL0.2 a1) (bL0.2 a2)⟩,
  fun v=>(h3 v).trans ⟨fun ⟨i,off,h⟩=>⟨i,off,bL0.1 h⟩,fun ⟨i,off,h⟩=>⟨i,off,bL0.2 h⟩⟩,fun i off v b a1=>h4 i off v b (bL0.2 a1)⟩
theorem aH8.unren {c:Ctx} {w:World} {ρ:Nat→Nat} {id:Nat} {o:Obj} (h:aH8 c w (ρ id) (o.ren ρ)):aH8 (c.com ρ) w id o:=by
 cases o with
 |gone=>trivial
 |glb bs G=>exact h
 |box cs e=>obtain ⟨us,h1,h2⟩:=h; exact ⟨us,h1,F6.unren cs h2⟩
 |mapo l=>exact h
 |deep sz e cols l hs sh=>exact bJ9.unren h
 |row sz ls e=>exact h
 |pins sz l e=>exact h
 |nest sz e isz ie l=>exact h
 |rowx sz ls e i off x=>obtain ⟨v,h1,h2⟩:=h; exact ⟨v,Rd.unren (.own x) h1,h2⟩
 |eqv j v=>exact h
theorem aI6 {c:Ctx} {ρ:Nat→Nat} {id:Nat} {o:Obj} {b:Nat}:foot (c.com ρ) id o b↔foot c (ρ id) (o.ren ρ) b:=by cases o<;>exact Iff.rfl
def rn (l:List (Nat×Nat)) (i:Nat):Nat:=match lk l i with
 |some j=>j
 |none=>i
def cK4 (l:List (Nat×Nat)):Bool:=l.all fun p=>Nat.blt p.1 top
theorem bY9 {l:List (Nat×Nat)} (h:cK4 l=true) {i:Nat} (hi:top≤i):rn l i=i:=by
 unfold rn
 split
 ·rename_i j hj
  have:=Nat.le_of_ble_eq_true (List.all_eq_true.1 h _ (aA5 hj))
  simp only at this
  omega
 ·rfl
def cE3 (ρ:Nat→Nat) (os:Os):Bool:=os.all fun p=>os.all fun q=>Nat.beq p.1 q.1 || !Nat.beq (ρ p.1) (ρ q.1)
theorem cO5 {ρ:Nat→Nat} {os:Os} (h:cE3 ρ os=true) {i j:Nat} {o o':Obj} (hi:lk os i=some o) (hj:lk os j=some o') (hne:i≠j):ρ i≠ρ j:=by
 have h1:=List.all_eq_true.1 (List.all_eq_true.1 h _ (aA5 hi)) _ (aA5 hj)
 simp only [Bool.or_eq_true,Bool.not_eq_true'] at h1
 rcases h1 with h1|h1
 ·exact absurd (Nat.eq_of_beq_eq_true h1) hne
 ·intro e
  rw [e] at h1
  simp at h1
def cU0 : Option AV→AV→Prop
 |some a,b=>leA a b
 |none,b=>b=.any
def cJ6 (ρ:Nat→Nat) (ts:Ts):Ts→Prop
 |[]=>True
 |(t,a)::r=>cU0 (lk ts t) (a.ren ρ)∧cJ6 ρ ts r
def b67 (ρ:Nat→Nat) (os:Os):Os→Prop
 |[]=>True
 |(id,o)::r=>lk os (ρ id)=some (o.ren ρ)∧b67 ρ os r
theorem bH9 {ρ:Nat→Nat} {os:Os}:∀{os2:Os},b67 ρ os os2→∀id o,lk os2 id=some o→lk os (ρ id)=some (o.ren ρ)
 |(k,x)::r,h,id,o,hl=>by
  rw [y7] at hl
  split at hl
  ·rename_i e
   subst e
   cases hl
   exact h.1
  ·exact bH9 h.2 id o hl
theorem P9.unren {c:Ctx} {w:World} {os os2:Os} {ρ:Nat→Nat} (h:P9 c w os) (hs:b67 ρ os os2) (hi:cE3 ρ os2=true):P9 (c.com ρ) w os2:=by
 have hs:=bH9 hs
 exact ⟨fun id o hl=>(h.rep _ _ (hs id o hl)).unren,fun id o b hl hf=>h.lt _ _ b (hs id o hl) (aI6.1 hf),fun id id' o o' b hne hl hl' hf hf'=>h.sep _ _ _ _ b (cO5 hi hl hl' hne) (hs id o hl) (hs id' o' hl') (aI6.1 hf) (aI6.1 hf'),h.phi⟩
section
variable {P:Program} {tab:Q6} {et:aG9} {Γ:Fun}
structure bB2 (ts:Ts) (os:Os) (ts2:Ts) (os2:Os) (rl:List (Nat×Nat)):Prop where
 t:cJ6 (rn rl) ts ts2
 o:b67 (rn rl) os os2
 inj:cE3 (rn rl) os2=true
 top:cK4 rl=true
theorem b87 {ts:Ts} {ρ:Nat→Nat}:∀{ts2:Ts},cJ6 ρ ts ts2→∀t x,lk ts2 t=some x→cU0 (lk ts t) (x.ren ρ)
 |(k,y)::r,h,t,x,hl=>by
  rw [y7] at hl
  split at hl
  ·rename_i e
   subst e
   cases hl
   exact h.1
  ·exact b87 h.2 t x hl
theorem aZ5.unren {c:Ctx} {w:World} {ts ts2:Ts} {a:Act} {ρ:Nat→Nat} (h:aZ5 c w ts a) (hn:∀t x,lk ts2 t=some x→t < a.tmps.size) (hs:cJ6 ρ ts ts2):aZ5 (c.com ρ) w ts2 a:=by
 intro t x hl
 have h1:=b87 hs t x hl
 have hlt:=hn t x hl
 cases hk:lk ts t with
 |some b =>
  rw [hk] at h1
  obtain ⟨v,h2,h3⟩:=h t b hk
  exact ⟨v,h2,Rd.unren x (cG8 h1 h3)⟩
 |none =>
  rw [hk] at h1
  refine ⟨a.tmps[t],by simp [hlt],Rd.unren x ?_⟩
  have h1':x.ren ρ=.any:=h1
  rw [h1']
  exact Rd.any_ _
theorem bB2.rel {ts:Ts} {os:Os} {ts2:Ts} {os2:Os} {rl:List (Nat×Nat)} (h:bB2 ts os ts2 os2 rl) (hn:(ts2.all fun p=>Nat.blt p.1 Γ.n)=true) {a:Act} {w:World} (hr:G5 Γ ts os a w):G5 Γ ts2 os2 a w:=by
 obtain ⟨c,⟨h1,h2,h3,h4,h5⟩,h6⟩:=hr
 have hso:=bH9 h.o
 refine ⟨c.com (rn rl),⟨h1,h2,h3.unren (fun t x hl=>by rw [h2]; exact Nat.le_of_ble_eq_true (List.all_eq_true.1 hn _ (aA5 hl))) h.t,h4.unren h.o h.inj,⟨h5.wos,h5.tape,h5.output,h5.size,h5.phi,h5.phiNew,h5.keep,fun id o b hl hf=>h5.feet _ _ b (hso id o hl) (aI6.1 hf)⟩⟩,fun id hid=>?_⟩
 have:=h6 id hid
 rw [←bY9 h.top hid] at this
 simpa [Ctx.com,bY9 h.top hid] using this
theorem j5.sub {c:Code} {ts ts2:Ts} {os os2:Os} {Q:Qt} (rl:List (Nat×Nat)) (h:bB2 ts os ts2 os2 rl) (hn:(ts2.all fun p=>Nat.blt p.1 Γ.n)=true) (hc:j5 P Γ c ts2 os2 Q):j5 P Γ c ts os Q :=
 ⟨fun a w hr=>hc.run a w (h.rel hn hr)⟩
theorem exists_least {p:Nat→Prop} (h:∃n,p n):∃n,p n∧∀m,p m→n≤m:=by
 obtain ⟨n,hn⟩:=h
 induction n using Nat.strongRecOn with
 |_ n ih =>
  by_cases hx:∃m,m < n∧p m
  ·obtain ⟨m,h1,h2⟩:=hx
   exact ih m h1 h2
  ·exact ⟨n,hn,fun m hm=>by
    rcases Nat.lt_or_ge m n with h|h
    ·exact absurd ⟨m,h,hm⟩ hx
    ·exact h⟩
theorem j5.loop {ι:Type} (St:ι→Ts) (So:ι→Os) (m:ι→Nat) {c:Code} {ts:Ts} {os:Os} {Q:Qt} (i0:ι) (rl0:List (Nat×Nat)) (h0:bB2 ts os (St i0) (So i0) rl0) (hn:∀i,((St i).all fun p=>Nat.blt p.1 Γ.n)=true)
  (hr:∀i,j5 P Γ c (St i) (So i) fun e ts' os'=>match e with
   |.normal=>∃j rl,m j < m i∧bB2 ts' os' (St j) (So j) rl
   |.exit id=>Q (.exit id) ts' os'
   |.ret=>Q .ret ts' os'):j5 P Γ (.loop c) ts os Q:=by
 refine ⟨fun a w hrel=>?_⟩
 let I:Act→World→Prop:=fun a w=>∃i,G5 Γ (St i) (So i) a w
 have hI0:I a w:=⟨i0,h0.rel (hn i0) hrel⟩
 have hex:∀a w,∃n,I a w→(∃i,m i=n∧G5 Γ (St i) (So i) a w)∧∀i,G5 Γ (St i) (So i) a w→n≤m i:=by
  intro a w
  by_cases hI:I a w
  ·obtain ⟨i,hi⟩:=hI
   obtain ⟨n,⟨j,h1,h2⟩,h3⟩:=exists_least (p:=fun n=>∃i,m i=n∧G5 Γ (St i) (So i) a w) ⟨m i,i,rfl,hi⟩
   exact ⟨n,fun _=>⟨⟨j,h1,h2⟩,fun k hk=>h3 (m k) ⟨k,rfl,hk⟩⟩⟩
  ·exact ⟨0,fun h=>absurd h hI⟩
 refine wp_loop I (fun a w=>Classical.choose (hex a w)) hI0 fun a w hI=>?_
 obtain ⟨⟨i,h1,h2⟩,_⟩:=Classical.choose_spec (hex a w) hI
 refine wp_mono ((hr i).run a w h2) fun e a' w' ⟨ex,ts',os',hm,hq,hrel'⟩=>?_
 match e,ex,hm,hq with
 |.normal,.normal,_,hq =>
  obtain ⟨j,rl,hlt,hsub⟩:=hq
  have hj:=hsub.rel (hn j) hrel'
  refine ⟨⟨j,hj⟩,?_⟩
  have:=(Classical.choose_spec (hex a' w') ⟨j,hj⟩).2 j hj
  omega
 |.exit x,.exit y,hm,hq=>exact ⟨.exit y,ts',os',hm,hq,hrel'⟩
 |.ret,.ret,_,hq=>exact ⟨.ret,ts',os',trivial,hq,hrel'⟩
theorem j5.rng {c:Code} {ts:Ts} {os:Os} {Q:Qt} (t:Nat) {a:AV} (hl:lk ts t=some a) (h:rng [a]→j5 P Γ c ts os Q):j5 P Γ c ts os Q:=by
 refine ⟨fun x w hr=>?_⟩
 have hr':=hr
 obtain ⟨cx,hrel,_⟩:=hr'
 obtain ⟨v,_,h2⟩:=hrel.ts t a hl
 refine (h ?_).run x w hr
 cases h2 with
 |fz h2=>exact (J4.cons h2 .nil).rng
 |_=>trivial
end
end Go.Proofs.YtibjcppjfkamhaaGreatDoor
namespace Go.Proofs.YtibjcppjfkamhaaGreatDoor
open Go.RowKit
set_option linter.unusedVariables false
section
variable {P:Program} {tab:Q6} {et:aG9} {Γ:Fun}
theorem G5.ghost {ts:Ts} {os need upd:Os} {news:List Nat} {a:Act} {w:World} (ex:Ts) (hr:G5 Γ ts os a w) (hneed:a96 need os) (hf1:K9 news ts=true) (hf2:L8 news upd os=true) (hnews:(news.all fun i=>(lk upd i).isSome)=true)
  (hp:∀c,P9 c w need→∃c',Post c w c' w need upd news∧∀t x,lk ex t=some x→∃y,lk ts t=some y∧∀v,Rd c w v y→Rd c' w v x):G5 Γ (ex++ts) (upd++os) a w:=by
 obtain ⟨c,⟨h1,h2,h3,h4,h5⟩,h6⟩:=hr
 have hn:=bA5 hneed
 have hnw:∀id∈news,(lk upd id).isSome=true:=fun id h=>by simpa using List.all_eq_true.1 hnews id h
 obtain ⟨c',hpost,hex⟩:=hp c (h4.sub hn)
 obtain ⟨g1,g2⟩:=aM1 hf2
 refine ⟨c',⟨h1,h2,fun t x hl=>?_,h4.frame hn hpost hnw g1,h5.post h4 hn hpost hnw g1⟩,fun id hid=>?_⟩
 ·rw [L9] at hl
  cases he:lk ex t with
  |some y =>
   rw [he] at hl
   simp at hl
   subst hl
   obtain ⟨z,hz,hzv⟩:=hex t y he
   obtain ⟨v,q1,q2⟩:=h3 t z hz
   exact ⟨v,q1,hzv v q2⟩
  |none =>
   rw [he] at hl
   simp at hl
   obtain ⟨v,q1,q2⟩:=h3 t x hl
   exact ⟨v,q1,q2.post hpost (h4.sub hn) (aU9 hf1 t x hl)⟩
 ·have hno:id ∉ news:=fun hm=>by have:=g2 id hm; omega
  have q1:=hpost.ctx id hno
  have q2:=h6 id hid
  exact ⟨q1.1.trans q2.1,q1.2.trans q2.2⟩
theorem bR7 {t0 t:Nat} {x y:AV} (h:lk [(t0,x)] t=some y):t=t0∧y=x:=by
 rw [y7] at h
 split at h
 ·rename_i e; cases h; exact ⟨e.symm,rfl⟩
 ·cases h
theorem G5.nilrow {ts:Ts} {os:Os} (t id sz e:Nat) (hl:lk ts t=some .nilsl) (hf1:K9 [id] ts=true) (hf2:L8 [id] [(id,.row sz [] e)] os=true) {a:Act} {w:World} (hr:G5 Γ ts os a w):G5 Γ ((t,.own id)::ts) ((id,.row sz [] e)::os) a w:=by
 refine G5.ghost (need:=[]) (upd:=[(id,.row sz [] e)]) (news:=[id]) [(t,.own id)] hr trivial hf1 hf2 (by simp [p9]) fun c hok=>⟨c.setHd id (.slice none 0 0),?_,fun t' x hx=>?_⟩
 ·have hm:(c.setHd id (.slice none 0 0)).hd id=.slice none 0 0:=by simp [Ctx.setHd]
  have hno:∀b,¬foot (c.setHd id (.slice none 0 0)) id (.row sz [] e) b:=fun b hb=>by
   have hb':((c.setHd id (.slice none 0 0)).hd id).ownBlock=some b:=hb
   rw [hm] at hb'
   cases hb'
  refine ⟨rfl,rfl,rfl,Nat.le_refl _,fun _ h=>h,fun _ h=>.inl h,fun _ _ _=>rfl,fun i hi=>⟨rfl,by have:i≠id:=(by simpa using hi); simp [Ctx.setHd,this]⟩,⟨fun i o hl=>?_,fun i o b hl hf=>?_,fun i i' o o' b hne hl hl' hf=>?_,hok.phi⟩,fun i o b hl hf=>?_⟩<;>rw [y7] at hl<;>split at hl<;>first|(rename_i e1; subst e1; cases hl)|cases hl
  ·exact ⟨[],by rw [hm]; exact ⟨.inl ⟨rfl,rfl⟩,by simp,by simp⟩,rfl,fun i us cs h=>by simp at h⟩
  ·exact absurd hf (hno b)
  ·exact absurd hf (hno b)
  ·exact absurd hf (hno b)
 ·obtain ⟨rfl,rfl⟩:=bR7 hx
  exact ⟨_,hl,fun v hv=>by rw [hv.nilsl_]; exact .own (n:=0) (cap:=0) (A:=none) (by simp [Ctx.setHd]) (Nat.le_refl _) (by simp [maxLen])⟩
theorem j5.nilrow {c:Code} {ts:Ts} {os:Os} {Q:Qt} (t id sz e:Nat) (hl:lk ts t=some .nilsl) (hf1:K9 [id] ts=true) (hf2:L8 [id] [(id,.row sz [] e)] os=true) (h:j5 P Γ c ((t,.own id)::ts) ((id,.row sz [] e)::os) Q):j5 P Γ c ts os Q :=
 ⟨fun a w hr=>h.run a w (G5.nilrow t id sz e hl hf1 hf2 hr)⟩
theorem j5.freeze {c:Code} {ts:Ts} {os:Os} {Q:Qt} (t id:Nat) {sz e:Nat} {ls:List (List AV)} (hl:lk ts t=some (.own id)) (hid:lk os id=some (.row sz ls e)) (h:j5 P Γ c ((t,.sl sz ls)::ts) ((id,.gone)::os) Q):j5 P Γ c ts os Q:=by
 refine ⟨fun a w hr=>h.run a w (G5.ghost (need:=[(id,.row sz ls e)]) (upd:=[(id,.gone)]) (news:=[]) [(t,.sl sz ls)] hr ⟨hid,trivial⟩ rfl rfl rfl fun c hok=>⟨c.fz [(id,.row sz ls e)],Post.freeze hok,fun t' x hx=>?_⟩)⟩
 obtain ⟨rfl,rfl⟩:=bR7 hx
 exact ⟨_,hl,fun v hv=>bE5 hok (p9 _ _ _) hv⟩
def entry : Nat→List AV→Ts
 |_,[]=>[]
 |k,a::l=>(k,a)::entry (k+1) l
theorem cG6 : ∀(l:List AV) (k t:Nat) (x:AV),lk (entry k l) t=some x→k≤t∧l[t - k]?=some x
 |[],k,t,x,h=>by cases h
 |a::l,k,t,x,h=>by
  unfold entry at h
  rw [y7] at h
  split at h
  ·rename_i e; subst e; cases h; exact ⟨Nat.le_refl _,by simp⟩
  ·obtain ⟨h1,h2⟩:=cG6 l (k+1) t x h
   refine ⟨by omega,?_⟩
   rw [show t - k=(t - (k+1))+1 by omega]
   simpa using h2
def cB9 : List AV→Ts
 |[]=>[]
 |[a]=>[(0,a)]
 |[a,b]=>[(0,a),(1,b)]
 |[a,b,c]=>[(0,a),(1,b),(2,c)]
 |[a,b,c,d]=>[(0,a),(1,b),(2,c),(3,d)]
 |[a,b,c,d,e]=>[(0,a),(1,b),(2,c),(3,d),(4,e)]
 |[a,b,c,d,e,f]=>[(0,a),(1,b),(2,c),(3,d),(4,e),(5,f)]
 |[a,b,c,d,e,f,g]=>[(0,a),(1,b),(2,c),(3,d),(4,e),(5,f),(6,g)]
 |[a,b,c,d,e,f,g,h]=>[(0,a),(1,b),(2,c),(3,d),(4,e),(5,f),(6,g),(7,h)]
 |l=>entry 0 l
theorem cO4 (l:List AV):cB9 l=entry 0 l:=by
 unfold cB9
 split<;>rfl
def bY0 (tab:Q6) (ts:Ts) (os:Os):List ResultVar→Option (List AV)
 |[]=>some []
 |.tmp t::r=>match lk ts t,bY0 tab ts os r with
  |some a,some l=>some (a::l)
  |_,_=>none
 |.cell t ty::r=>match lk ts t,lk tab ty,bY0 tab ts os r with
  |some (.ptr id off),some ti,some l=>match lk os id with
   |some (.box cs _)=>match a11 ti cs off with
    |some a=>some (a::l)
    |none=>none
   |_=>none
  |_,_,_=>none
def cR0 : List AV→AV
 |[a]=>a
 |l=>.tup l
theorem bW3 (hT:O3 P tab) {c:Ctx} {w:World} {ts:Ts} {os:Os} {a:Act} (hts:aZ5 c w ts a) (hok:P9 c w os):∀(l:List ResultVar) (r:List AV),bY0 tab ts os l=some r →
  ∃vs:List Value,(l.mapM (fun x=>match x with
     |ResultVar.tmp t=>pure (a.tmps.getD t undef)
     |ResultVar.cell ad t=>do loadVar t (←asAddr (a.tmps.getD ad undef)):ResultVar→Sem Value)).run P w=.ok vs w∧F6 c w vs r
 |[],r,h=>by cases h; exact ⟨[],by simp,.nil⟩
 |.tmp t::l,r,h=>by
  unfold bY0 at h
  split at h
  ·rename_i x rl hx hrl
   cases h
   obtain ⟨vs,h1,h2⟩:=bW3 hT hts hok l rl hrl
   obtain ⟨v,h3,h4⟩:=hts t x hx
   refine ⟨v::vs,?_,.cons h4 h2⟩
   have hg:a.tmps.getD t undef=v:=by simp [Array.getD_eq_getD_getElem?,h3]
   rw [List.mapM_cons]
   simp only [Sem.run_bind,Sem.run_pure,Result.andThen_ok,h1,hg]
  ·cases h
 |.cell t ty::l,r,h=>by
  unfold bY0 at h
  split at h
  ·rename_i id off ti rl hx hti hrl
   split at h
   ·rename_i cs e hid
    split at h
    ·rename_i x hld
     cases h
     obtain ⟨vs,h1,h2⟩:=bW3 hT hts hok l rl hrl
     obtain ⟨v,h3,h4⟩:=hts t _ hx
     obtain ⟨us,h5,h6⟩:=hok.rep id _ hid
     obtain ⟨y,h7,h8⟩:=aV6 (b:=c.μ id) (p:=0) (hT ty ti hti) hld h6 (fun j u hj=>by
      unfold World.cell?
      simp only [Nat.zero_add,h5]
      simpa using hj)
     rw [Nat.zero_add] at h7
     refine ⟨y::vs,?_,.cons h8 h2⟩
     rw [h4.ptr_] at h3
     simp only [Instr.loadAt,Instr.sureAddr,pure_bind] at h7
     have hg:a.tmps.getD t undef=.pointer (some ⟨c.μ id,off,none⟩):=by simp [Array.getD_eq_getD_getElem?,h3]
     rw [List.mapM_cons]
     have ha:∀x:Addr,asAddr (.pointer (some x))=pure x:=fun _=>rfl
     simp only [Sem.run_bind,Sem.run_pure,Result.andThen_ok,hg,ha,h7,h1]
    ·cases h
   ·cases h
  ·cases h
def cJ3 : List Value→Value
 |[v]=>v
 |l=>.tuple l.toArray
theorem cW4 {c:Ctx} {w:World}:∀{vs:List Value} {r:List AV},F6 c w vs r→Rd c w (cJ3 vs) (cR0 r)
 |_,_,.nil=>.tup .nil
 |_,_,.cons h .nil=>h
 |_,_,.cons h (.cons k t)=>.tup (.cons h (.cons k t))
theorem cG9 {fn:Func} {tmps:Array Value} {w:World} {vs:List Value} (h:(fn.results.toList.mapM (fun x=>match x with
     |ResultVar.tmp t=>pure (tmps.getD t undef)
     |ResultVar.cell ad t=>do loadVar t (←asAddr (tmps.getD ad undef)):ResultVar→Sem Value)).run P w=.ok vs w):(results fn tmps).run P w=.ok (cJ3 vs) w:=by
 unfold results
 rw [Array.mapM_eq_mapM_toList]
 simp only [Sem.run_bind,Sem.run_map,Sem.run_pure]
 refine Eq.trans (congrArg (fun r:Result (List Value)=>(r.andThen fun a w'=>Result.ok a.toArray w').andThen fun a w'=>Result.ok (if h:a.size=1 then a[0] else Value.tuple a) w') h) ?_
 simp only [Result.andThen_ok]
 congr 1
 cases vs with
 |nil=>rfl
 |cons v vs=>cases vs with
  |nil=>rfl
  |cons u vs=>rfl
structure Fin (tab:Q6) (rs:List ResultVar) (ts:Ts) (os:Os) (av:AV) (upd:Os) (news:List Nat) (rl:List (Nat×Nat)) (r:List AV):Prop where
 res:bY0 tab ts os rs=some r
 out:leA (cR0 r) (av.ren (rn rl))
 obj:b67 (rn rl) os upd
 inj:cE3 (rn rl) upd=true
 top:cK4 rl=true
 mem:(upd.all fun p=>news.elem p.1 || Nat.ble Go.Proofs.YtibjcppjfkamhaaGreatDoor.top p.1)=true
 ids:(av.ids.all fun i=>(lk upd i).isSome || Nat.ble Go.Proofs.YtibjcppjfkamhaaGreatDoor.top i)=true
 oids:(upd.all fun p=>p.2.ids.all fun i=>(lk upd i).isSome || Nat.ble Go.Proofs.YtibjcppjfkamhaaGreatDoor.top i)=true
def dA9 (tab:Q6) (rs:List ResultVar) (av:AV) (upd:Os) (news:List Nat):Qt:=fun e ts os =>
 match e with
 |.exit _=>False
 |.normal=>∃rl r,Fin tab rs ts os av upd news rl r
 |.ret=>∃rl r,Fin tab rs ts os av upd news rl r
theorem Spec.of (hT:O3 P tab) {f n:Nat} {fn:Func} {c:Code} (hf:P.funcs[f]?=some fn) (hb:fn.body=some c) (hn:fn.ntmps=n) (hc:callable P f=true) {need upd:Os} {ins:List AV} {av:AV} {news:List Nat}
  (hl:Nat.ble ins.length n=true) (hneed:(need.all fun p=>Nat.ble top p.1 && (lk upd p.1).isSome)=true) (hnews:(news.all fun i=>(lk upd i).isSome)=true)
  (h:∀Γ:Fun,Γ.n=n→j5 P Γ c (cB9 ins) need (dA9 tab fn.results.toList av upd news)):Spec P f need ins av upd news:=by
 refine ⟨hc,fun id hid=>by simpa using List.all_eq_true.1 hnews id hid,fun cx w args hok hargs=>calls_of_wp hf hb ?_⟩
 have hsz:args.size=ins.length:=by simpa using hargs.length
 have hle:=Nat.le_of_ble_eq_true hl
 let Γ:Fun:=⟨cx,w,need,n⟩
 have hrel:G5 Γ (entry 0 ins) need { tmps:=args++Array.replicate (fn.ntmps - args.size) undef,defers:=[] } w:=by
  refine ⟨cx,⟨rfl,?_,fun t x hx=>?_,hok,⟨rfl,rfl,rfl,Nat.le_refl _,fun _ h=>h,fun _ h=>.inl h,fun _ _=>rfl,fun id o b h1 h2=>.inr ⟨id,o,h1,h2⟩⟩⟩,fun _ _=>⟨rfl,rfl⟩⟩
  ·show (args++Array.replicate (fn.ntmps - args.size) undef).size=n
   rw [Array.size_append,Array.size_replicate,hn]
   omega
  ·obtain ⟨_,h2⟩:=cG6 ins 0 t x hx
   rw [Nat.sub_zero] at h2
   obtain ⟨v,h3,h4⟩:=hargs.get h2
   refine ⟨v,?_,h4⟩
   have h3':args[t]?=some v:=by simpa using h3
   have hlt:t < args.size:=(Array.getElem?_eq_some_iff.1 h3').1
   show (args++Array.replicate (fn.ntmps - args.size) undef)[t]?=some v
   rw [Array.getElem?_append_left hlt,h3']
 rw [←cO4] at hrel
 refine wp_mono ((h Γ rfl).run _ w hrel) fun e a' w' ⟨ex,ts',os',hm,hq,hrel'⟩=>?_
 have fin:(∃rl r,Fin tab fn.results.toList ts' os' av upd news rl r)→a'.defers=[]∧∃v,(results fn a'.tmps).run P w'=.ok v w'∧∃v_1 c',Ending.returned v=.returned v_1∧Post cx w c' w' need upd news∧Rd c' w' v_1 av:=by
  rintro ⟨rl,r,hfin⟩
  obtain ⟨c1,⟨h1,h2,h3,h4,h5⟩,h6⟩:=hrel'
  obtain ⟨vs,g1,g2⟩:=bW3 hT h3 h4 fn.results.toList r hfin.res
  have hso:=bH9 hfin.obj
  have hu:=h4.unren hfin.obj hfin.inj
  have hids:∀id o,lk upd id=some o→id∈news∨top≤id:=fun id o hl=>by
   have:=List.all_eq_true.1 hfin.mem _ (aA5 hl)
   simp only [Bool.or_eq_true] at this
   exact this.imp (fun h=>by simpa using h) fun h=>Nat.le_of_ble_eq_true h
  let c':Ctx:={ Φ:=c1.Φ,μ:=fun i=>if (lk upd i).isSome then c1.μ (rn rl i) else cx.μ i,hd:=fun i=>if (lk upd i).isSome then c1.hd (rn rl i) else cx.hd i }
  have hc':∀i,(lk upd i).isSome=true→c'.μ i=(c1.com (rn rl)).μ i∧c'.hd i=(c1.com (rn rl)).hd i:=fun i hi=>by simp [c',Ctx.com,hi]
  have own_touch:∀b,Γ.own b→w.heap.size≤b∨Touch cx need upd b:=fun b hb=>hb.imp (fun h=>h) fun ⟨id,o,q1,q2⟩=>⟨id,o,q1,by
   have:=List.all_eq_true.1 hneed _ (aA5 q1)
   simp only [Bool.and_eq_true] at this
   exact this.2,q2⟩
  have ids_of:∀l:List Nat,(l.all fun i=>(lk upd i).isSome || Nat.ble Go.Proofs.YtibjcppjfkamhaaGreatDoor.top i)=true→∀x∈l,c'.μ x=(c1.com (rn rl)).μ x∧c'.hd x=(c1.com (rn rl)).hd x:=fun l hl x hx=>by
   by_cases hs:(lk upd x).isSome=true
   ·exact hc' x hs
   ·have:=List.all_eq_true.1 hl x hx
    simp only [Bool.or_eq_true] at this
    have ht:=Nat.le_of_ble_eq_true (this.resolve_left hs)
    have h7:=h6 x ht
    simp only [c',if_neg hs,Ctx.com,bY9 hfin.top ht]
    exact ⟨h7.1.symm,h7.2.symm⟩
  have hfoot:∀id o b,lk upd id=some o→(foot c' id o b↔foot (c1.com (rn rl)) id o b):=fun id o b hl=>bD6 (hc' id (by rw [hl]; rfl)) (ids_of _ (List.all_eq_true.1 hfin.oids _ (aA5 hl)))
  refine ⟨h1,cJ3 vs,?_,cJ3 vs,c',rfl,⟨h5.wos,h5.tape,h5.output,h5.size,h5.phi,fun b hb=>?_,fun b hb hnt=>h5.keep b fun ho=>?_,fun id hid=>?_,⟨fun id o hl=>?_,fun id o b hl hf=>?_,fun id id' o o' b hne hl hl' hf hf'=>?_,h4.phi⟩,fun id o b hl hf=>?_⟩,?_⟩
  ·exact cG9 g1
  ·exact (h5.phiNew b hb).imp (fun h=>h) (own_touch b)
  ·rcases own_touch b ho with h|h
   ·exact absurd hb (Nat.not_lt.2 h)
   ·exact hnt h
  ·by_cases hs:(lk upd id).isSome=true
   ·obtain ⟨o,ho⟩:=Option.isSome_iff_exists.1 hs
    rcases hids id o ho with hx|hx
    ·exact absurd hx hid
    ·have:=h6 id hx
     rw [(hc' id hs).1,(hc' id hs).2]
     simpa [Ctx.com,bY9 hfin.top hx] using this
   ·simp [c',hs]
  ·exact (hu.rep id o hl).keep (hc' id (by rw [hl]; rfl)) (fun _ _=>rfl) (fun _ h=>h) (fun _ _=>rfl) (ids_of _ (List.all_eq_true.1 hfin.oids _ (aA5 hl)))
  ·exact hu.lt id o b hl ((hfoot id o b hl).1 hf)
  ·exact hu.sep id id' o o' b hne hl hl' ((hfoot id o b hl).1 hf) ((hfoot id' o' b hl').1 hf')
  ·exact own_touch b (h5.feet _ _ b (hso id o hl) (aI6.1 ((hfoot id o b hl).1 hf)))
  ·have q:=(cG8 hfin.out (cW4 g2)).unren
   exact Rd.mono (c:=c1.com (rn rl)) (c':=c') (fun _ _=>rfl) (fun _ h=>h) (ids_of _ hfin.ids) q
 match e,ex,hm,hq with
 |.normal,.normal,_,hq=>exact fin hq
 |.ret,.ret,_,hq=>exact fin hq
end
end Go.Proofs.YtibjcppjfkamhaaGreatDoor
namespace Go.Proofs.YtibjcppjfkamhaaGreatDoor
open Go.RowKit
set_option linter.unusedVariables false
def waits (o:Oper) (i:Nat):Bool:=o.after.toList.any fun e=>Region.binds .any e && Nat.beq e.on i
def bL3 (ops:List Oper):Nat→Oper→Nat→Bool
 |0,o,i=>waits o i
 |n+1,o,i=>waits o i || o.after.toList.any fun e=>Region.binds .any e && (match ops[e.on]? with
  |some m=>bL3 ops n m i
  |none=>false)
def aB1 (ops:List Oper) (o:Oper) (i:Nat):Bool:=bL3 ops 12 o i
theorem cG5 {o:Oper} {e:_} (he:e∈o.after.toList) (hb:Region.binds .any e=true):waits o e.on=true:=by
 unfold waits
 exact List.any_eq_true.2 ⟨e,he,by simp [hb]⟩
theorem b79 {ops:List Oper} {o:Oper} {i:Nat} (h:waits o i=true):aB1 ops o i=true:=by unfold aB1 bL3; rw [h]; rfl
def readsOf (ops:List Oper) (o:Oper):List Nat :=
 (o.op.operands.toList.filterMap fun|.tmp t=>some t|_=>none) ++
 (match o.guard with
  |some (g,_)=>match ops[g]? with
   |some x=>x.dst.toList
   |none=>[]
  |none=>[])
def clash (ops:List Oper) (x y:Oper):Bool :=
 (match x.dst with
  |some d=>(readsOf ops y).elem d || (y.dst == some d)
  |none=>false) ||
 (match y.dst with
  |some d=>(readsOf ops x).elem d
  |none=>false)
def aK0 (ops:List Oper):Bool :=
 (ops.zipIdx.all fun (o,k)=>o.after.toList.all fun e=>!Region.binds .any e || Nat.blt e.on k) &&
 (ops.zipIdx.all fun (y,k)=>ops.zipIdx.all fun (x,i)=>!Nat.blt i k || !clash ops x y || waits y i) &&
 (ops.all fun o=>match o.op with|.select _ _=>false|_=>true)
structure aL2 (ops:List Oper) (σ:List Nat):Prop where
 nodup:σ.Nodup
 lt:∀i∈σ,i < ops.length
 wait:∀pre j post,σ=pre++j::post→∀o,ops[j]?=some o→∀i,waits o i=true→i∈post
theorem aL2.cons {ops:List Oper} {σ:List Nat} {k:Nat} {o:Oper} (h:aL2 ops σ) (ho:ops[k]?=some o) (hk:k ∉ σ) (hw:∀i,waits o i=true→i∈σ):aL2 ops (k::σ):=by
 refine ⟨List.nodup_cons.2 ⟨hk,h.nodup⟩,fun i hi=>?_,fun pre j post he x hx i hi=>?_⟩
 ·rcases List.mem_cons.1 hi with rfl|hi
  ·exact (List.getElem?_eq_some_iff.1 ho).1
  ·exact h.lt i hi
 ·cases pre with
  |nil =>
   simp at he
   obtain ⟨rfl,rfl⟩:=he
   rw [ho] at hx
   cases hx
   exact hw i hi
  |cons p pre =>
   simp at he
   exact h.wait pre j post he.2 x hx i hi
theorem aL2.waitF {ops:List Oper} {σ:List Nat} (h:aL2 ops σ):∀(n:Nat) {pre post:List Nat} {j:Nat} (he:σ=pre++j::post) {o:Oper} (ho:ops[j]?=some o) {i:Nat} (hw:bL3 ops n o i=true),i∈post
 |0,pre,post,j,he,o,ho,i,hw=>h.wait pre j post he o ho i hw
 |n+1,pre,post,j,he,o,ho,i,hw=>by
  unfold bL3 at hw
  rw [Bool.or_eq_true] at hw
  rcases hw with hw|hw
  ·exact h.wait pre j post he o ho i hw
  ·obtain ⟨e,hm,hw⟩:=List.any_eq_true.1 hw
   simp only [Bool.and_eq_true] at hw
   obtain ⟨hb,hw⟩:=hw
   have hk:=h.wait pre j post he o ho e.on (cG5 hm hb)
   obtain ⟨p1,p2,hp⟩:=List.append_of_mem hk
   split at hw
   ·rename_i m hmo
    have:=h.waitF n (pre:=pre++j::p1) (post:=p2) (by rw [he,hp]; simp) hmo hw
    rw [hp]
    simp [this]
   ·cases hw
theorem aL2.wait2 {ops:List Oper} {σ:List Nat} (h:aL2 ops σ) {pre post:List Nat} {j:Nat} (he:σ=pre++j::post) {o:Oper} (ho:ops[j]?=some o) {i:Nat} (hw:aB1 ops o i=true):i∈post :=
 h.waitF _ he ho hw
theorem aL2.in2 {ops:List Oper} {σ:List Nat} (h:aL2 ops σ) {o:Oper} (hw:∀i,waits o i=true→i∈σ) {i:Nat} (h2:aB1 ops o i=true):i∈σ:=by
 unfold aB1 bL3 at h2
 rw [Bool.or_eq_true] at h2
 rcases h2 with h2|h2
 ·exact hw i h2
 ·obtain ⟨e,hm,h2⟩:=List.any_eq_true.1 h2
  simp only [Bool.and_eq_true] at h2
  obtain ⟨p1,p2,hp⟩:=List.append_of_mem (hw e.on (cG5 hm h2.1))
  have h3:=h2.2
  split at h3
  ·rename_i m hmo
   have:=h.waitF _ hp hmo h3
   rw [hp]
   simp [this]
  ·cases h3
def down : Nat→List Nat
 |0=>[]
 |k+1=>k::down k
theorem bY2 {k i:Nat}:i∈down k↔i < k:=by
 induction k with
 |zero=>simp [down]
 |succ k ih=>simp only [down,List.mem_cons,ih]; omega
theorem bQ4 {ops:List Oper} (h:aK0 ops=true):∀k,k≤ops.length→aL2 ops (down k)
 |0,_=>⟨by simp [down],by simp [down],fun pre j post he=>by simp [down] at he⟩
 |k+1,hk=>by
  have ih:=bQ4 h k (by omega)
  have ho:ops[k]?=some ops[k]:=List.getElem?_eq_getElem (by omega)
  refine ih.cons ho (by rw [bY2]; omega) fun i hi=>?_
  rw [bY2]
  unfold aK0 at h
  simp only [Bool.and_eq_true] at h
  have h1:=List.all_eq_true.1 h.1.1 (ops[k],k) (by rw [List.mem_zipIdx_iff_getElem?]; exact ho)
  simp only [List.all_eq_true] at h1
  unfold waits at hi
  obtain ⟨e,he,hb⟩:=List.any_eq_true.1 hi
  simp only [Bool.and_eq_true] at hb
  have h2:=h1 e he
  rw [hb.1] at h2
  simp only [Bool.not_true,Bool.false_or] at h2
  have:=Nat.le_of_ble_eq_true h2
  have:=Nat.eq_of_beq_eq_true hb.2
  omega
theorem aL2.first {ops:List Oper} {σ:List Nat} (h:aL2 ops σ) (W:Nat→Bool) {k:Nat} (h1:∀i,i < k→W i=true→i∈σ) (h2:∀i∈σ,W i=true→i < k)
  (h3:∀i j o,i < j→j < k→W i=true→W j=true→ops[j]?=some o→aB1 ops o i=true):σ.find? W=(down k).find? W:=by
 have hfind:∀k,(down k).find? W=none∨∃j,(down k).find? W=some j∧j < k∧W j=true∧∀i,i < k→W i=true→i≤j:=by
  intro k
  induction k with
  |zero=>exact .inl rfl
  |succ k ih =>
   simp only [down,List.find?_cons]
   by_cases hw:W k=true
   ·rw [hw]
    exact .inr ⟨k,rfl,by omega,hw,fun i hi _=>by omega⟩
   ·simp only [hw]
    rcases ih with ih|⟨j,q1,q2,q3,q4⟩
    ·exact .inl ih
    ·refine .inr ⟨j,q1,by omega,q3,fun i hi hwi=>?_⟩
     rcases Nat.lt_or_eq_of_le (Nat.le_of_lt_succ hi) with h|h
     ·exact q4 i h hwi
     ·subst h; exact absurd hwi hw
 rcases hfind k with hn|⟨j,q1,q2,q3,q4⟩
 ·rw [hn,List.find?_eq_none]
  intro i hi hw
  have hlt:=h2 i hi hw
  have:=List.find?_eq_none.1 hn i (bY2.2 hlt)
  exact this hw
 ·rw [q1]
  have hj:=h1 j q2 q3
  obtain ⟨pre,post,he⟩:=List.append_of_mem hj
  rw [he,List.find?_append]
  have hpre:pre.find? W=none:=by
   rw [List.find?_eq_none]
   intro m hm hw
   have hms:m∈σ:=by rw [he]; simp [hm]
   have hmk:=h2 m hms hw
   have hmj:=q4 m hmk hw
   have hne:m≠j:=by
    rintro rfl
    have hnd:=h.nodup
    rw [he] at hnd
    have:=(List.nodup_append.1 hnd).2.2 m hm m (by simp)
    exact this rfl
   have hjo:ops[j]?=some (ops[j]'(h.lt j hj)):=List.getElem?_eq_getElem _
   have hmp:=h.wait2 he hjo (h3 m j _ (by omega) q2 hw q3 hjo)
   have hnd:=h.nodup
   rw [he] at hnd
   exact (List.nodup_append.1 hnd).2.2 m hm m (by simp [hmp]) rfl
  rw [hpre]
  simp [q3]
structure OpR where
 av:AV
 need:Os
 upd:Os
 news:List Nat
 deriving Inhabited
section
variable (ops:List Oper) (R:Nat→OpR) (ts0:Ts) (os0:Os)
def K7 : List Nat→Ts
 |[]=>ts0
 |k::σ=>match (ops[k]?).bind (·.dst) with
  |some d=>(d,(R k).av)::K7 σ
  |none=>K7 σ
def Q0 : List Nat→Os
 |[]=>os0
 |k::σ=>(R k).upd++Q0 σ
def wrT (t:Nat) (k:Nat):Bool:=(ops[k]?).bind (·.dst) == some t
def wrO (id:Nat) (k:Nat):Bool:=(lk (R k).upd id).isSome
theorem bG1 (t:Nat):∀σ:List Nat,lk (K7 ops R ts0 σ) t=match σ.find? (wrT ops t) with
  |some k=>some (R k).av
  |none=>lk ts0 t
 |[]=>rfl
 |k::σ=>by
  rw [List.find?_cons]
  unfold K7
  cases hd:(ops[k]?).bind (·.dst) with
  |none =>
   have:wrT ops t k=false:=by unfold wrT; rw [hd]; rfl
   rw [this]
   exact bG1 t σ
  |some d =>
   simp only
   rw [y7]
   by_cases h:d=t
   ·subst h
    have:wrT ops d k=true:=by unfold wrT; rw [hd]; simp
    rw [this,if_pos rfl]
   ·have:wrT ops t k=false:=by unfold wrT; rw [hd]; simpa using h
    rw [this,if_neg h]
    exact bG1 t σ
theorem bA8 (id:Nat):∀σ:List Nat,lk (Q0 R os0 σ) id=match σ.find? (wrO R id) with
  |some k=>lk (R k).upd id
  |none=>lk os0 id
 |[]=>rfl
 |k::σ=>by
  rw [List.find?_cons]
  unfold Q0
  rw [L9]
  cases hw:lk (R k).upd id with
  |none =>
   have:wrO R id k=false:=by unfold wrO; rw [hw]; rfl
   rw [this]
   simpa using bA8 id σ
  |some x =>
   have:wrO R id k=true:=by unfold wrO; rw [hw]; rfl
   rw [this]
   simp [hw]
end
theorem cE7 : ∀(n:Nat) (l:List Nat),l.Nodup→(∀i∈l,i < n)→l.length≤n
 |0,l,_,h=>by
  cases l with
  |nil=>simp
  |cons a l=>exact absurd (h a (by simp)) (by omega)
 |n+1,l,hn,h=>by
  have ih:=cE7 n (l.erase n) (hn.erase n) fun i hi=>by
   have h1:=h i (List.mem_of_mem_erase hi)
   have h2:i≠n:=fun e=>by
    subst e
    exact (hn.not_mem_erase hi).elim
   omega
  have:l.length≤(l.erase n).length+1:=by
   rw [List.length_erase]
   split<;>omega
  omega
def mentions (r:OpR):List Nat:=r.av.ids++r.upd.flatMap fun p=>p.2.ids
def keys (os:Os):List Nat:=os.map (·.1)
theorem aH5 {os:Os} {id:Nat} (h:(lk os id).isSome=true):id∈keys os:=by
 obtain ⟨o,ho⟩:=Option.isSome_iff_exists.1 h
 exact List.mem_map.2 ⟨_,aA5 ho,rfl⟩
structure Comm (a b:OpR):Prop where
 wr:∀id∈keys a.upd,id ∉ keys b.need
 ww:∀id∈keys a.upd,id ∉ keys b.upd
 nm:∀id∈a.news,id ∉ mentions b
def Rw (a b:OpR):Prop:=∀id∈keys b.upd,id ∉ keys a.need
def aE4 (ops:List Oper) (o:Oper) (ts:Ts) (b:Bool):Prop :=
 match o.guard with
 |none=>b=true
 |some (j,want)=>(bL2 ops ts j=true∧b=false)∨∃x,bL4 ops ts j=some x∧(x == want)=b
structure cU5 (P:Program) (Γ:Fun) (ops:List Oper) (o:Oper) (ts:Ts) (os:Os) (r:OpR):Prop where
 guard:aE4 ops o ts true
 tri:Tri P o (evO ts) r.av r.need r.upd r.news
 need:∀id ob,lk r.need id=some ob→lk os id=some ob
 news:∀id∈r.news,(lk r.upd id).isSome=true
 fts:K9 r.news ts=true
 fos:L8 r.news r.upd os=true
structure cM4 (ops:List Oper) (o:Oper) (ts:Ts) (r:OpR):Prop where
 guard:aE4 ops o ts false
 eq:r=⟨.tup [],[],[],[]⟩
theorem aE4.run {c:Ctx} {w:World} {ops:List Oper} {o:Oper} {ts:Ts} {a:Act} {b:Bool} (h:aZ5 c w ts a) (hg:aE4 ops o ts b):Region.wanted o (yielded ops.toArray a.tmps)=b:=by
 unfold aE4 at hg
 unfold Region.wanted
 split at hg
 ·rename_i hn
  rw [hn,hg]
 ·rename_i j want hn
  rw [hn]
  rcases hg with ⟨h1,rfl⟩|⟨x,h1,h2⟩
  ·have:=bI7 h h1
   simp only [this]
   rfl
  have:=bJ2 h h1
  simp only [this]
  rw [←h2]
  cases x<;>cases want<;>rfl
structure bQ1 (P:Program) (ops:List Oper) (R:Nat→OpR) (ts0:Ts) (os0:Os) (i k:Nat):Prop where
 upd:(R i).upd=[]
 news:(R i).news=[]
 mid:∀j,i < j→j < k→∀id∈keys (R j).upd,id ∉ keys (R i).need
 tri:∃o need',ops[i]?=some o∧Tri P o (evO (K7 ops R ts0 (down i))) (R i).av need' [] []∧(∀id ob,lk need' id=some ob→lk (Q0 R os0 (down (k+1))) id=some ob)∧∀id∈keys need',id∈keys (R i).need
section
variable {P:Program} {Γ:Fun} {ops:List Oper} {R:Nat→OpR} {ts0:Ts} {os0:Os}
structure Lex (P:Program) (Γ:Fun) (ops:List Oper) (R:Nat→OpR) (ts0:Ts) (os0:Os) (n:Nat):Prop where
 did:∀k o,k < n→ops[k]?=some o→cU5 P Γ ops o (K7 ops R ts0 (down k)) (Q0 R os0 (down k)) (R k)∨cM4 ops o (K7 ops R ts0 (down k)) (R k)
 dst:∀k o,k < n→ops[k]?=some o→aR7 Γ.n o.dst=true
 comm:∀i k o,i < k→k < n→ops[k]?=some o→aB1 ops o i=false→Comm (R i) (R k)∧(Rw (R i) (R k)∨bQ1 P ops R ts0 os0 i k)
theorem a98 (hd:aK0 ops=true) {i k:Nat} {x y:Oper} (hx:ops[i]?=some x) (hy:ops[k]?=some y) (hik:i < k) (hc:clash ops x y=true):waits y i=true:=by
 unfold aK0 at hd
 simp only [Bool.and_eq_true] at hd
 have h1:=List.all_eq_true.1 hd.1.2 (y,k) (by rw [List.mem_zipIdx_iff_getElem?]; exact hy)
 have h2:=List.all_eq_true.1 h1 (x,i) (by rw [List.mem_zipIdx_iff_getElem?]; exact hx)
 simp only [hc,Bool.not_true,Bool.or_false,Bool.or_eq_true,Bool.not_eq_true'] at h2
 rcases h2 with h2|h2
 ·have:Nat.blt i k=true:=Nat.ble_eq_true_of_le hik
  rw [this] at h2
  cases h2
 ·exact h2
theorem b80 (hd:aK0 ops=true) {σ:List Nat} (hσ:aL2 ops σ) {k:Nat} {o:Oper} (ho:ops[k]?=some o) (hk:k ∉ σ) (hw:∀i,waits o i=true→i∈σ) {t:Nat} (ht:t∈readsOf ops o) :
  lk (K7 ops R ts0 σ) t=lk (K7 ops R ts0 (down k)) t:=by
 have wr_:∀i,wrT ops t i=true→∃x,ops[i]?=some x∧x.dst=some t:=fun i hi=>by
  unfold wrT at hi
  cases hx:ops[i]? with
  |none=>rw [hx] at hi; simp at hi
  |some x=>rw [hx] at hi; exact ⟨x,rfl,by simpa using hi⟩
 have hf:=hσ.first (wrT ops t) (k:=k) (fun i hi hwi=>by
   obtain ⟨x,hx,hxd⟩:=wr_ i hwi
   exact hw i (a98 hd hx ho hi (by unfold clash; rw [hxd]; simp [ht]))) (fun i hi hwi=>by
   obtain ⟨x,hx,hxd⟩:=wr_ i hwi
   rcases Nat.lt_or_ge i k with h|h
   ·exact h
   ·have hne:i≠k:=fun e=>hk (e▸hi)
    have hwk:=a98 hd ho hx (by omega) (by
     unfold clash
     rw [hxd]
     cases o.dst<;>simp [ht])
    obtain ⟨pre,post,he⟩:=List.append_of_mem hi
    have:=hσ.wait pre i post he x hx k hwk
    exact absurd (by rw [he]; simp [this]) hk) (fun i j x hij hj hwi hwj hx=>by
   obtain ⟨y,hy,hyd⟩:=wr_ i hwi
   obtain ⟨z,hz,hzd⟩:=wr_ j hwj
   rw [hx] at hz
   cases hz
   exact b79 (a98 hd hy hx hij (by unfold clash; rw [hyd,hzd]; simp)))
 rw [bG1,bG1,hf]
theorem cQ2 {n:Nat} (hL:Lex P Γ ops R ts0 os0 ops.length) {σ:List Nat} (hσ:aL2 ops σ) {k:Nat} {o:Oper} (ho:ops[k]?=some o) (hk:k ∉ σ) (hw:∀i,waits o i=true→i∈σ) {id:Nat} (hid:id∈keys (R k).need) (hrw:∀j∈σ,k < j→Rw (R k) (R j)) :
  lk (Q0 R os0 σ) id=lk (Q0 R os0 (down k)) id:=by
 have hkl:k < ops.length:=(List.getElem?_eq_some_iff.1 ho).1
 have hf:=hσ.first (wrO R id) (k:=k) (fun i hi hwi=>by
   cases hwt:aB1 ops o i with
   |true=>exact hσ.in2 hw hwt
   |false=>exact absurd hid ((hL.comm i k o hi hkl ho hwt).1.wr id (aH5 hwi))) (fun i hi hwi=>by
   rcases Nat.lt_or_ge i k with h|h
   ·exact h
   ·have hne:i≠k:=fun e=>hk (e▸hi)
    have hil:=hσ.lt i hi
    have hx:ops[i]?=some ops[i]:=List.getElem?_eq_getElem hil
    cases hwt:aB1 ops ops[i] k with
    |true =>
     obtain ⟨pre,post,he⟩:=List.append_of_mem hi
     have:=hσ.wait2 he hx hwt
     exact absurd (by rw [he]; simp [this]) hk
    |false=>exact absurd hid (hrw i hi (by omega) id (aH5 hwi))) (fun i j x hij hj hwi hwj hx=>by
   cases hwt:aB1 ops x i with
   |true=>rfl
   |false=>exact absurd (aH5 hwj) ((hL.comm i j x hij (by omega) hx hwt).1.ww id (aH5 hwi)))
 rw [bA8,bA8,hf]
theorem cS1 (hL:Lex P Γ ops R ts0 os0 ops.length) {σ:List Nat} (hσ:aL2 ops σ) {k:Nat} {o:Oper} (ho:ops[k]?=some o) (hk:k ∉ σ) (hw:∀i,waits o i=true→i∈σ) {m:Nat} (hm:m∈σ) (hkm:k < m) (hS:bQ1 P ops R ts0 os0 k m) (hN:¬Rw (R k) (R m)) {id:Nat} (hid:id∈keys (R k).need) :
  lk (Q0 R os0 σ) id=lk (Q0 R os0 (down (m+1))) id:=by
 have hkl:k < ops.length:=(List.getElem?_eq_some_iff.1 ho).1
 have hml:=hσ.lt m hm
 have hf:=hσ.first (wrO R id) (k:=m+1) (fun i hi hwi=>by
   rcases Nat.lt_trichotomy i k with h|h|h
   ·cases hwt:aB1 ops o i with
    |true=>exact hσ.in2 hw hwt
    |false=>exact absurd hid ((hL.comm i k o h hkl ho hwt).1.wr id (aH5 hwi))
   ·subst h
    unfold wrO at hwi
    rw [hS.upd] at hwi
    cases hwi
   ·rcases Nat.lt_or_ge i m with h2|h2
    ·exact absurd hid (hS.mid i h h2 id (aH5 hwi))
    ·have:i=m:=by omega
     subst this
     exact hm) (fun i hi hwi=>by
   rcases Nat.lt_or_ge i (m+1) with h|h
   ·exact h
   ·have hil:=hσ.lt i hi
    have hx:ops[i]?=some ops[i]:=List.getElem?_eq_getElem hil
    cases hwt:aB1 ops ops[i] k with
    |true =>
     obtain ⟨pre,post,he⟩:=List.append_of_mem hi
     have:=hσ.wait2 he hx hwt
     exact absurd (by rw [he]; simp [this]) hk
    |false =>
     rcases (hL.comm k i _ (by omega) hil hx hwt).2 with h3|h3
     ·exact absurd hid (h3 id (aH5 hwi))
     ·exact absurd (fun id hid=>h3.mid m hkm (by omega) id hid) hN) (fun i j x hij hj hwi hwj hx=>by
   cases hwt:aB1 ops x i with
   |true=>rfl
   |false=>exact absurd (aH5 hwj) ((hL.comm i j x hij (by omega) hx hwt).1.ww id (aH5 hwi)))
 rw [bA8,bA8,hf]
theorem cR7 (hd:aK0 ops=true) (hL:Lex P Γ ops R ts0 os0 ops.length) {σ:List Nat} (hσ:aL2 ops σ) (hall:∀i,i < ops.length→i∈σ) :
  (∀t,lk (K7 ops R ts0 σ) t=lk (K7 ops R ts0 (down ops.length)) t)∧∀id,lk (Q0 R os0 σ) id=lk (Q0 R os0 (down ops.length)) id:=by
 refine ⟨fun t=>?_,fun id=>?_⟩
 ·have wr_:∀i,wrT ops t i=true→∃x,ops[i]?=some x∧x.dst=some t:=fun i hi=>by
   unfold wrT at hi
   cases hx:ops[i]? with
   |none=>rw [hx] at hi; simp at hi
   |some x=>rw [hx] at hi; exact ⟨x,rfl,by simpa using hi⟩
  have hf:=hσ.first (wrT ops t) (k:=ops.length) (fun i hi _=>hall i hi) (fun i hi _=>hσ.lt i hi) (fun i j x hij hj hwi hwj hx=>by
   obtain ⟨y,hy,hyd⟩:=wr_ i hwi
   obtain ⟨z,hz,hzd⟩:=wr_ j hwj
   rw [hx] at hz
   cases hz
   exact b79 (a98 hd hy hx hij (by unfold clash; rw [hyd,hzd]; simp)))
  rw [bG1,bG1,hf]
 ·have hf:=hσ.first (wrO R id) (k:=ops.length) (fun i hi _=>hall i hi) (fun i hi _=>hσ.lt i hi) (fun i j x hij hj hwi hwj hx=>by
   cases hwt:aB1 ops x i with
   |true=>rfl
   |false=>exact absurd (aH5 hwj) ((hL.comm i j x hij hj hx hwt).1.ww id (aH5 hwi)))
  rw [bA8,bA8,hf]
theorem G5.congr {ts ts':Ts} {os os':Os} {a:Act} {w:World} (h:G5 Γ ts os a w) (ht:∀t,lk ts' t=lk ts t) (ho:∀id,lk os' id=lk os id):G5 Γ ts' os' a w:=by
 obtain ⟨c,⟨h1,h2,h3,h4,h5⟩,h6⟩:=h
 exact ⟨c,⟨h1,h2,fun t x hl=>h3 t x (by rw [←ht]; exact hl),h4.sub fun id o hl=>by rw [←ho]; exact hl,⟨h5.wos,h5.tape,h5.output,h5.size,h5.phi,h5.phiNew,h5.keep,fun id o b hl hf=>h5.feet id o b (by rw [←ho]; exact hl) hf⟩⟩,h6⟩
end
end Go.Proofs.YtibjcppjfkamhaaGreatDoor
