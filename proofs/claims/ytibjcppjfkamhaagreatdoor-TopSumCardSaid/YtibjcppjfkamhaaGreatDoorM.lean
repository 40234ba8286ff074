/- WALKS AFTER A MIRROR: the pure function that a program's function is mirrored by leads the walk. No program in sight. -/
import Derived.Test.YtibjcppjfkamhaaGreatDoorGo
namespace Go.Proofs.YtibjcppjfkamhaaGreatDoor
open Go.RowKit
set_option linter.unusedVariables false
inductive F9 (ρ σ:Type):Type where
 |ret (r:ρ)
 |next (s:σ)
def F3 {α:Type} (l:List α) (i:Int):Option α:=bif decide (0≤i) then l[i.toNat]? else none
def byO (s:ByteArray) (i:Int):Option UInt8:=bif decide (0≤i) then s[i.toNat]? else none
theorem u6 {α:Type} {l:List α} {i:Int} {x:α} (h:F3 l i=some x):0≤i∧l[i.toNat]?=some x:=by
 unfold F3 at h
 by_cases h0:0≤i
 ·rw [decide_eq_true h0] at h; exact ⟨h0,h⟩
 ·rw [decide_eq_false h0] at h; cases h
theorem bG7 {α:Type} (l:List α) (k:Nat):F3 l (k:Int)=l[k]?:=by
 unfold F3
 rw [decide_eq_true (Int.natCast_nonneg k)]
 rfl
theorem cI0 {α:Type} {l:List α} {i:Int} {x:α} (h:F3 l i=some x):0≤i∧i < l.length:=by
 obtain ⟨h0,h1⟩:=u6 h
 have:=(List.getElem?_eq_some_iff.1 h1).1
 exact ⟨h0,by omega⟩
theorem j4 {α β:Type} {x:Option α} {f:α→Option β} {r:β} (h:x.bind f=some r):∃a,x=some a∧f a=some r:=by
 cases x with
 |none=>cases h
 |some a=>exact ⟨a,rfl,h⟩
theorem l6 {β:Type} {b:Bool} {x y:Option β} {r:β} (h:(bif b then x else y)=some r) {X Y:Prop} (hx:b=true→x=some r→X) (hy:b=false→y=some r→Y):bM6.match_1 (motive:=fun _ _ _=>Prop) b X Y (fun X _=>X) (fun _ Y=>Y):=by
 cases b
 ·exact hy rfl h
 ·exact hx rfl h
theorem j3 {b:Bool} {X Y:Prop} (hb:b=true) (hx:X):bM6.match_1 (motive:=fun _ _ _=>Prop) b X Y (fun X _=>X) (fun _ Y=>Y):=by subst hb; exact hx
theorem d9 {b:Bool} {X Y:Prop} (hb:b=false) (hy:Y):bM6.match_1 (motive:=fun _ _ _=>Prop) b X Y (fun X _=>X) (fun _ Y=>Y):=by subst hb; exact hy
theorem C8 {β:Type} {b:Bool} {x:Option β} {r:β} (h:(bif b then x else none)=some r):b=true∧x=some r:=by
 cases b
 ·cases h
 ·exact ⟨rfl,h⟩
def bS6 (p:ByteArray×Bool):AV×AV:=(.str p.1,.bool p.2)
def b57 {α:Type} [DecidableEq α] (k:α):List (α×Bool)→Bool
 |[]=>false
 |p::l=>if k=p.1 then p.2 else b57 k l
def bE4 {α:Type} [DecidableEq α] (k:α) (b:Bool):List (α×Bool)→List (α×Bool)
 |[]=>[(k,b)]
 |p::l=>if k=p.1 then (k,b)::l else p::bE4 k b l
theorem cC8 {α:Type} [DecidableEq α] (k:α) (b:Bool):∀l:List (α×Bool),(bE4 k b l).length≤l.length+1
 |[]=>Nat.le_refl _
 |p::l=>by
  rw [bE4]
  split
  ·simp
  ·simpa using cC8 k b l
theorem b53 {α:Type} [DecidableEq α] {f:α→AV} (hf:∀a b,bU1 (f a) (f b)=some (decide (a=b))) (k:α) (b:Bool):∀(l:List (α×Bool)) (i:Nat),∃r,bE9 (f k) (l.map fun p=>(f p.1,.bool p.2)) i=some r ∧
  (match r with|none=>AV.bool false|some p=>p.2)=.bool (b57 k l)∧∀pre:List (AV×AV),pre.length=i→bR1 (f k) (.bool b) (pre++l.map fun p=>(f p.1,.bool p.2)) r=pre++(bE4 k b l).map fun p=>(f p.1,.bool p.2)
 |[],i=>⟨none,rfl,rfl,fun pre _=>by simp [bR1,bE4]⟩
 |p::l,i=>by
  obtain ⟨r,h1,h2,h3⟩:=b53 hf k b l (i+1)
  by_cases h:k=p.1
  ·refine ⟨some (i,.bool p.2),by simp [bE9,hf,h],by simp [b57,h],fun pre hp=>?_⟩
   subst hp
   simp [bR1,bE4,h]
  ·refine ⟨r,by simp [bE9,hf,h,h1],by simp only [b57,if_neg h]; exact h2,fun pre hp=>?_⟩
   have:=h3 (pre++[(f p.1,.bool p.2)]) (by simp [hp])
   simp only [bE4,if_neg h,List.map_cons,List.append_assoc,List.singleton_append] at this ⊢
   exact this
theorem dA0 {m:List (ByteArray×Bool)} {k:ByteArray} {A B C D:Prop} (a:A) (b:B) (c:C) (d:D) {K:AV→Prop} (H:K (.bool (b57 k m))) :
  A∧B∧C∧D∧∃r,bE9 (.str k) (m.map bS6) 0=some r∧∀q,q=(match r with|none=>AV.bool false|some p=>p.2)→K q:=by
 obtain ⟨r,h1,h2,_⟩:=b53 (f:=AV.str) (fun _ _=>rfl) k false m 0
 exact ⟨a,b,c,d,r,h1,fun q hq=>by rw [hq,h2]; exact H⟩
theorem dC5 {m:List (ByteArray×Bool)} {k:ByteArray} {v:Bool} {A B:Prop} (a:A) (b:B) (hb:Nat.ble (m.length+1) 140737488355328=true) {K:List (AV×AV)→Prop} (H:K ((bE4 k v m).map bS6)) :
  A∧B∧∃r,bE9 (.str k) (m.map bS6) 0=some r∧(bR1 (.str k) (.bool v) (m.map bS6) r).length≤maxLen∧∀q,q=bR1 (.str k) (.bool v) (m.map bS6) r→K q:=by
 obtain ⟨r,h1,_,h3⟩:=b53 (f:=AV.str) (fun _ _=>rfl) k v m 0
 have h3:=h3 [] rfl
 have e:bR1 (.str k) (.bool v) (m.map bS6) r=(bE4 k v m).map bS6:=h3
 refine ⟨a,b,r,h1,?_,fun q hq=>by rw [hq,e]; exact H⟩
 rw [e,List.length_map]
 have:=cC8 k v m
 have:=Nat.le_of_ble_eq_true hb
 simp only [maxLen]
 omega
section
variable {α:Type} {enc:α→List AV}
theorem w9 {l:List α} {K:Nat→Prop} (H:l.length≤maxLen→K l.length):∀n:Nat,n=(l.map enc).length→n≤maxLen→K n:=fun n e h=>by
 rw [List.length_map] at e
 subst e
 exact H h
theorem K6 {l:List α} {i:Int} {x:α} (h:F3 l i=some x) {K:List AV→Prop} (H:K (enc x)):0≤i∧i < ((l.map enc).length:Int)∧∀cs,(l.map enc)[i.toNat]?=some cs→rng cs→K cs:=by
 obtain ⟨h0,h1⟩:=u6 h
 refine ⟨h0,by rw [List.length_map]; exact (cI0 h).2,fun cs hc _=>?_⟩
 rw [List.getElem?_map,h1] at hc
 cases hc
 exact H
theorem Z4 {l:List α} {k:Nat} {x:α} (h:l[k]?=some x) {K:List AV→Prop} (H:K (enc x)):0≤(k:Int)∧(k:Int) < ((l.map enc).length:Int)∧∀cs,(l.map enc)[k]?=some cs→rng cs→K cs :=
 K6 (i:=(k:Int)) (by rw [bG7]; exact h) H
theorem O8 {l:List α} {i:Int} {x:α} (h:F3 l i=some x) {K:Prop} (H:K):0≤i∧i < ((l.map enc).length:Int)∧K :=
 ⟨(u6 h).1,by rw [List.length_map]; exact (cI0 h).2,H⟩
theorem I7 {l:List α} {i:Nat} {x:α} (h:l[i]?=some x) {K:List AV→Prop} (H:K (enc x)):i < (l.map enc).length∧∀cs,(l.map enc)[i]?=some cs→K cs:=by
 refine ⟨by rw [List.length_map]; exact (List.getElem?_eq_some_iff.1 h).1,fun cs hc=>?_⟩
 rw [List.getElem?_map,h] at hc
 cases hc
 exact H
theorem aI7 {l:List α} {i:Nat} {x x':α} {cs:List AV} (h:l[i]?=some x) (hc:bD8 cs (enc x')):aF9 ((l.map enc).set i cs) ((l.set i x').map enc):=by
 induction l generalizing i with
 |nil=>simp at h
 |cons a l ih =>
  cases i with
  |zero=>exact ⟨hc,y9 _⟩
  |succ i=>exact ⟨bA9 _,ih (by simpa using h)⟩
theorem cS7 {ls ls2 q q2:List (List AV)} (h:aF9 ls q) (h2:aF9 ls2 q2):aF9 (ls++ls2) (q++q2):=by
 induction ls generalizing q with
 |nil=>cases q with
  |nil=>exact h2
  |cons=>exact h.elim
 |cons a ls ih=>cases q with
  |nil=>exact h.elim
  |cons b q=>exact ⟨h.1,ih h.2⟩
theorem bN3 {l l2:List α} {ls2:List (List AV)} (h2:aF9 ls2 (l2.map enc)):aF9 (l.map enc++ls2) ((l++l2).map enc):=by
 rw [List.map_append]
 exact cS7 (y9 _) h2
theorem cQ5 {n:Nat} {z:List AV} {x:α} (h:bD8 z (enc x)):aF9 (List.replicate n z) ((List.replicate n x).map enc):=by
 induction n with
 |zero=>trivial
 |succ n ih=>exact ⟨h,ih⟩
theorem Y2 {l l2:List α} {ls2:List (List AV)} {B C:Nat} (hb:Nat.ble ((l.length+l2.length)*B) C=true) (hle:aF9 ls2 (l2.map enc)) {K:List (List AV)→Prop} (H:K ((l++l2).map enc)) :
  ((l.map enc).length+ls2.length)*B≤C∧∃q,aF9 (l.map enc++ls2) q∧K q:=by
 have h1:=(b73 hle).1
 rw [List.length_map] at h1
 refine ⟨?_,_,bN3 hle,H⟩
 rw [List.length_map,h1]
 exact Nat.le_of_ble_eq_true hb
theorem mkM {a:Int} {B:Int} {z:List AV} {x:α} (hb:(decide (0≤a) && decide (a≤140737488355328) && decide (a*B≤140737488355328))=true) (hz:bD8 z (enc x)) {K:List (List AV)→Prop} (H:K ((List.replicate a.toNat x).map enc)) :
  a=a∧0≤a∧a≤140737488355328∧a*B≤140737488355328∧∃q,aF9 (List.replicate a.toNat z) q∧K q:=by
 simp only [Bool.and_eq_true,decide_eq_true_eq] at hb
 exact ⟨rfl,hb.1.1,hb.1.2,hb.2,_,cQ5 hz,H⟩
theorem a04 {l:List α} {b:Int} {X Y:Prop} (hb:(decide (0≤b) && decide (b≤(l.length:Int)))=true) (hx:X) (hy:Y) {K:List (List AV)→Prop} (H:K ((l.take b.toNat).map enc)) :
  X∧Y∧0≤b∧b≤((l.map enc).length:Int)∧∀q,q=(l.map enc).take b.toNat→K q:=by
 simp only [Bool.and_eq_true,decide_eq_true_eq] at hb
 refine ⟨hx,hy,hb.1,by rw [List.length_map]; exact hb.2,fun q e=>?_⟩
 rw [e,←List.map_take]
 exact H
theorem c90 {l:List α} {b:Int} {X Y K':Prop} (hb:(decide (0≤b) && decide (b≤(l.length:Int)))=true) (hx:X) (hy:Y) {K:List (List AV)→Prop} (H:K ((l.drop b.toNat).map enc)) :
  X∧Y∧0≤b∧b≤((l.map enc).length:Int)∧(K'∨∀q,q=(l.map enc).drop b.toNat→K q):=by
 simp only [Bool.and_eq_true,decide_eq_true_eq] at hb
 refine ⟨hx,hy,hb.1,by rw [List.length_map]; exact hb.2,.inr fun q e=>?_⟩
 rw [e,←List.map_drop]
 exact H
theorem cK5 {l:List α} {b:Int} {X Y K' K:Prop} (hb:(decide (0≤b) && decide (b≤(l.length:Int)))=true) (hx:X) (hy:Y) (H:K') :
  X∧Y∧0≤b∧b≤((l.map enc).length:Int)∧(K'∨K):=by
 simp only [Bool.and_eq_true,decide_eq_true_eq] at hb
 exact ⟨hx,hy,hb.1,by rw [List.length_map]; exact hb.2,.inl H⟩
end
theorem byM {s:ByteArray} {i:Int} {u:UInt8} (h:byO s i=some u) {K:UInt8→Prop} (H:K u):0≤i∧i < (s.size:Int)∧∀u,s[i.toNat]?=some u→K u:=by
 unfold byO at h
 by_cases h0:0≤i
 ·rw [decide_eq_true h0] at h
  have h:s[i.toNat]?=some u:=h
  have hl:i.toNat < s.size:=by
   rcases Nat.lt_or_ge i.toNat s.size with h1|h1
   ·exact h1
   ·rw [getElem?_neg s i.toNat (by omega)] at h; cases h
  exact ⟨h0,by omega,fun u' hu=>by rw [h] at hu; cases hu; exact H⟩
 ·rw [decide_eq_false h0] at h; cases h
theorem dC1 {a b:Int} (h0:0 < b) (h1:b≤4611686018427387904) {K:Prop} (H:K):b≠0∧Z8 (a.tmod b)∧K:=by
 refine ⟨by omega,?_,H⟩
 unfold Z8
 have h2:=Int.tmod_lt_of_pos a h0
 have h3:=Int.tmod_lt_of_pos (-a) h0
 rw [Int.neg_tmod] at h3
 omega
theorem dB6 {l:List Int} {s:ByteArray} {C:Nat} (hb:Nat.ble (l.length+s.size) C=true) {K:List (List AV)→Prop} (H:K ((l++aI0 s).map fun n=>[AV.ik .u8 n])) :
  (l.map fun n=>[AV.ik .u8 n]).length+s.size≤C∧∃q,aF9 (l.map (fun n=>[AV.ik .u8 n])++(aI0 s).map fun n=>[AV.ik .u8 n]) q∧K q :=
 ⟨by rw [List.length_map]; exact Nat.le_of_ble_eq_true hb,_,y9 _,by rw [←List.map_append]; exact H⟩
theorem c27 {p:Prop} [Decidable p] (h:decide p=true) {K:Prop} (H:K):p∧K:=⟨of_decide_eq_true h,H⟩
theorem I8 {α:Type} {l:List α} {k:Nat} (h:[]=l.drop k):decide ((k:Int) < (l.length:Int))=false:=by
 have:=List.drop_eq_nil_iff.1 h.symm
 exact decide_eq_false (by omega)
theorem H7 {α:Type} {l r:List α} {k:Nat} {x:α} (h:x::r=l.drop k):l[k]?=some x∧r=l.drop (k+1)∧decide ((k:Int) < (l.length:Int))=true:=by
 have h1:(l.drop k)[0]?=some x:=by rw [←h]; rfl
 rw [List.getElem?_drop] at h1
 have h1:l[k]?=some x:=h1
 refine ⟨h1,?_,decide_eq_true (by have:=(List.getElem?_eq_some_iff.1 h1).1; omega)⟩
 have:=congrArg List.tail h
 rw [List.tail_drop] at this
 exact this
theorem V7 {α:Type} {l:List α} {k:Nat} {x:α} (h:l[k]?=some x) (hl:l.length≤maxLen):Z8 ((k:Int)+1):=bW6 (List.getElem?_eq_some_iff.1 h).1 hl
theorem bH8 {n:Int} {k:Nat} (h:0=(n - k).toNat):decide ((k:Int) < n)=false:=decide_eq_false (by omega)
theorem bA2 {n:Int} {k m:Nat} (h:m+1=(n - k).toNat):m=(n - ((k+1:Nat):Int)).toNat∧decide ((k:Int) < n)=true:=⟨by omega,decide_eq_true (by omega)⟩
theorem bQ7 {n:Int} {k:Nat} (h:decide ((k:Int) < n)=true) (hn:rng [.int n]):Z8 ((k:Int)+1):=by
 have h:=of_decide_eq_true h
 have hn:Z8 n:=hn.1
 exact ⟨by omega,by have:=hn.2; omega⟩
section
variable {P:Program} {Γ:Fun}
theorem j5.blk {c:Code} {ts:Ts} {os:Os} {Q:Qt} {id:Nat} (h:j5 P Γ c ts os fun e ts' os'=>match e with
  |.normal=>Q .normal ts' os'
  |.exit id'=>match Nat.beq id' id with
   |true=>Q .normal ts' os'
   |false=>Q (.exit id') ts' os'
  |.ret=>Q .ret ts' os'):j5 P Γ (.block id c) ts os Q:=by
 refine ⟨fun a w hr=>wp_block (wp_mono (h.run a w hr) fun e a' w' ⟨ex,ts',os',h1,h2,h3⟩=>?_)⟩
 match e,ex,h1,h2 with
 |.normal,.normal,_,h2=>exact ⟨.normal,ts',os',trivial,h2,h3⟩
 |.exit i,.exit j,h1,h2 =>
  have h1':i=j:=h1
  subst h1'
  simp only at h2
  split at h2
  ·rename_i hb
   have he:=Nat.eq_of_beq_eq_true hb
   simp only [Exit.inBlock,if_pos he]
   exact ⟨.normal,ts',os',trivial,h2,h3⟩
  ·rename_i hb
   have hne:¬i=id:=fun e=>by rw [e] at hb; simp at hb
   simp only [Exit.inBlock,if_neg hne]
   exact ⟨.exit i,ts',os',rfl,h2,h3⟩
 |.ret,.ret,_,h2=>exact ⟨.ret,ts',os',trivial,h2,h3⟩
theorem j5.seqQ {x y:Code} {ts:Ts} {os:Os} {Q:Qt} (h:∀Q1:Qt,(∀ts os,j5 P Γ y ts os Q→Q1 .normal ts os)→(∀id ts os,Q (.exit id) ts os→Q1 (.exit id) ts os)→(∀ts os,Q .ret ts os→Q1 .ret ts os)→j5 P Γ x ts os Q1):j5 P Γ (.seq x y) ts os Q :=
 j5.seq (h _ (fun _ _ h=>h) (fun _ _ _ h=>h) (fun _ _ h=>h))
theorem j5.blkQ {c:Code} {ts:Ts} {os:Os} {Q:Qt} {b:Nat} (h:∀Q1:Qt,(∀ts os,Q .normal ts os→Q1 .normal ts os)→(∀ts os,Q .normal ts os→Q1 (.exit b) ts os)→(∀id ts os,Nat.beq id b=false→Q (.exit id) ts os→Q1 (.exit id) ts os)→(∀ts os,Q .ret ts os→Q1 .ret ts os)→j5 P Γ c ts os Q1):j5 P Γ (.block b c) ts os Q :=
 j5.blk (h _ (fun _ _ h=>h) (fun _ _ h=>by simpa using h) (fun id _ _ hb h=>by simp only [hb]; exact h) (fun _ _ h=>h))
def JQ {ι:Type} (St:ι→Ts) (So:ι→Os) (p:ι→Prop):Qt:=fun _ ts os=>∃i rl,p i∧bB2 ts os (St i) (So i) rl
theorem j5.joinR {ι:Type} (St:ι→Ts) (So:ι→Os) {c:Code} {ts:Ts} {os:Os} {Q:Qt} (h:∀Q1:Qt,(∀ts' os',y5 Γ ts' os' (JQ St So fun _=>True)→Q1 .normal ts' os')→(∀id ts os,Q (.exit id) ts os→Q1 (.exit id) ts os)→(∀ts os,Q .ret ts os→Q1 .ret ts os)→j5 P Γ c ts os Q1)
  (hn:∀i,((St i).all fun p=>Nat.blt p.1 Γ.n)=true) (h2:∀i,Q .normal (St i) (So i)):j5 P Γ c ts os Q :=
by
 have h:=h (fun e ts' os'=>match e with
  |.normal=>y5 Γ ts' os' (JQ St So fun _=>True)
  |.exit id=>Q (.exit id) ts' os'
  |.ret=>Q .ret ts' os') (fun _ _ h=>h) (fun _ _ _ h=>h) (fun _ _ h=>h)
 refine ⟨fun a w hr=>wp_mono (h.run a w hr) fun e a' w' ⟨ex,ts',os',h1,h2',h3⟩=>?_⟩
 cases ex with
 |normal =>
  obtain ⟨ts2,os2,⟨i,rl,_,hs⟩,h4⟩:=y5.run h2' a' w' h3
  exact ⟨.normal,_,_,h1,h2 i,hs.rel (hn i) h4⟩
 |exit id=>exact ⟨.exit id,ts',os',h1,h2',h3⟩
 |ret=>exact ⟨.ret,ts',os',h1,h2',h3⟩
def bU3 : Ts→Ts→Prop
 |[],_=>True
 |(t,a)::r,ts=>lk ts t=some a∧bU3 r ts
theorem b21 {ts:Ts}:∀{ts2:Ts},bU3 ts2 ts→∀t x,lk ts2 t=some x→lk ts t=some x
 |(k,y)::r,h,t,x,hl=>by
  rw [y7] at hl
  split at hl
  ·rename_i e
   subst e
   cases hl
   exact h.1
  ·exact b21 h.2 t x hl
theorem G5.keep {ts ts2:Ts} {os os2:Os} {a:Act} {w:World} (hT:bU3 ts2 ts) (hO:a96 os2 os) (hr:G5 Γ ts os a w):G5 Γ ts2 os2 a w:=by
 obtain ⟨c,⟨h1,h2,h3,h4,h5⟩,h6⟩:=hr
 have hso:=bA5 hO
 exact ⟨c,⟨h1,h2,fun t x hl=>h3 t x (b21 hT t x hl),h4.sub hso,⟨h5.wos,h5.tape,h5.output,h5.size,h5.phi,h5.phiNew,h5.keep,fun id o b hl hf=>h5.feet _ _ b (hso id o hl) hf⟩⟩,h6⟩
theorem kp {c:Code} {ts:Ts} {os:Os} {Q:Qt} (ts2:Ts) (os2:Os) (hc:j5 P Γ c ts2 os2 Q) (h1:bU3 ts2 ts:=by repeat (first|exact trivial|exact rfl|(refine And.intro ?_ ?_))) (h2:a96 os2 os:=by repeat (first|exact trivial|exact rfl|(refine And.intro ?_ ?_))):j5 P Γ c ts os Q :=
 ⟨fun a w hr=>hc.run a w (G5.keep h1 h2 hr)⟩
theorem jn {ι:Type} {St:ι→Ts} {So:ι→Os} {p:ι→Prop} {ts:Ts} {os:Os} (i:ι) (rl:List (Nat×Nat)) (hp:p i:=by exact trivial) (h:bB2 ts os (St i) (So i) rl:=by (refine bB2.mk ?_ ?_ rfl rfl<;>repeat (first|exact trivial|exact rfl|(refine And.intro ?_ ?_)))):y5 Γ ts os (JQ St So p) :=
 y5.done ⟨i,rl,hp,h⟩
theorem fm {tab:Q6} {rs:List ResultVar} {ts:Ts} {os:Os} {av:AV} {upd:Os} {news:List Nat} {rl:List (Nat×Nat)} {r:List AV} (h1:bY0 tab ts os rs=some r:=by rfl) (h2:leA (cR0 r) (av.ren (rn rl)):=by repeat (first|exact trivial|exact rfl|(refine And.intro ?_ ?_))) (h3:b67 (rn rl) os upd:=by repeat (first|exact trivial|exact rfl|(refine And.intro ?_ ?_)))
  (h4:cE3 (rn rl) upd=true:=by rfl) (h5:cK4 rl=true:=by rfl) (h6:(upd.all fun p=>news.elem p.1 || Nat.ble Go.Proofs.YtibjcppjfkamhaaGreatDoor.top p.1)=true:=by rfl) (h7:(av.ids.all fun i=>(lk upd i).isSome || Nat.ble Go.Proofs.YtibjcppjfkamhaaGreatDoor.top i)=true:=by rfl)
  (h8:(upd.all fun p=>p.2.ids.all fun i=>(lk upd i).isSome || Nat.ble Go.Proofs.YtibjcppjfkamhaaGreatDoor.top i)=true:=by rfl):Fin tab rs ts os av upd news rl r:=⟨h1,h2,h3,h4,h5,h6,h7,h8⟩
section
variable {os:Os} {K:Kt} {f:Nat} {ins ins':List AV} {need upd:Os} {news:List Nat} {av:AV}
theorem cA (h:Spec P f need ins' av upd news) (hK:K av (need.map (·.1)) news upd) (hle:aJ4 ins ins':=by repeat (first|exact trivial|exact rfl|(refine And.intro ?_ ?_))) (hs:a96 need os:=by repeat (first|exact trivial|exact rfl|(refine And.intro ?_ ?_))) (hf:(need.all fun p=>aW0 news p.2.ids)=true:=by rfl):l5 P f ins os K:=l5.as h hle hs hf hK
theorem cF (h:Spec P f need ins' av upd news) (hK:K av (((Y3 os ins).2++need).map (·.1)) news (upd++K5 (Y3 os ins).2)) (hle:aJ4 (Y3 os ins).1 ins':=by repeat (first|exact trivial|exact rfl|(refine And.intro ?_ ?_))) (hs:a96 need os:=by repeat (first|exact trivial|exact rfl|(refine And.intro ?_ ?_))) (hd:(need.all fun p=>(lk (Y3 os ins).2 p.1).isNone)=true:=by rfl)
  (hf:(need.all fun p=>aW0 news p.2.ids)=true:=by rfl):l5 P f ins os K:=l5.fz h hle hs hd hf hK
theorem cD (h:Spec P f [] ins' av [] []) (hK:K av ((fzD os ins).2.map (·.1)) [] []) (hle:aJ4 (fzD os ins).1 ins':=by repeat (first|exact trivial|exact rfl|(refine And.intro ?_ ?_))) (hf:bN4 av=true:=by rfl):l5 P f ins os K:=l5.lendD h hle hf hK
theorem cDf (h:Spec P f [] ins' av upd news) (hu:bA4 upd) (hK:K av ((fzD os ins).2.map (·.1)) news upd) (hle:aJ4 (fzD os ins).1 ins':=by repeat (first|exact trivial|exact rfl|(refine And.intro ?_ ?_))) (hf:bU0 av=true:=by rfl):l5 P f ins os K:=l5.lendF h hle hf hu hK
end
theorem j5.loopQ {ι:Type} (St:ι→Ts) (So:ι→Os) (m:ι→Nat) {c:Code} {ts:Ts} {os:Os} {Q:Qt} (i0:ι) (rl0:List (Nat×Nat)) (h0:bB2 ts os (St i0) (So i0) rl0) (hn:∀i,((St i).all fun p=>Nat.blt p.1 Γ.n)=true)
  (hr:∀i,∀Q1:Qt,(∀ts' os',y5 Γ ts' os' (JQ St So fun j=>m j < m i)→Q1 .normal ts' os')→(∀id ts os,Q (.exit id) ts os→Q1 (.exit id) ts os)→(∀ts os,Q .ret ts os→Q1 .ret ts os)→j5 P Γ c (St i) (So i) Q1):j5 P Γ (.loop c) ts os Q:=by
 have hr':∀i,j5 P Γ c (St i) (So i) fun e ts' os'=>match e with
   |.normal=>y5 Γ ts' os' (JQ St So fun j=>m j < m i)
   |.exit id=>Q (.exit id) ts' os'
   |.ret=>Q .ret ts' os':=fun i=>hr i _ (fun _ _ h=>h) (fun _ _ _ h=>h) (fun _ _ h=>h)
 refine ⟨fun a w hrel=>?_⟩
 let I:Act→World→Prop:=fun a w=>∃i,G5 Γ (St i) (So i) a w
 have hI0:I a w:=⟨i0,h0.rel (hn i0) hrel⟩
 have hex:∀a w,∃n,I a w→(∃i,m i=n∧G5 Γ (St i) (So i) a w)∧∀i,G5 Γ (St i) (So i) a w→n≤m i:=by
  intro a w
  by_cases hI:I a w
  ·obtain ⟨i,hi⟩:=hI
   obtain ⟨n,⟨j,h1,h2⟩,h3⟩:=exists_least (p:=fun n=>∃i,m i=n∧G5 Γ (St i) (So i) a w) ⟨m i,i,rfl,hi⟩
   exact ⟨n,fun _=>⟨⟨j,h1,h2⟩,fun k hk=>h3 (m k) ⟨k,rfl,hk⟩⟩⟩
  ·exact ⟨0,fun h=>absurd h hI⟩
 refine wp_loop I (fun a w=>Classical.choose (hex a w)) hI0 fun a w hI=>?_
 obtain ⟨⟨i,h1,h2⟩,_⟩:=Classical.choose_spec (hex a w) hI
 refine wp_mono ((hr' i).run a w h2) fun e a' w' ⟨ex,ts',os',hm,hq,hrel'⟩=>?_
 match e,ex,hm,hq with
 |.normal,.normal,_,hq =>
  obtain ⟨ts2,os2,⟨j,rl,hlt,hsub⟩,h4⟩:=y5.run hq a' w' hrel'
  have hj:=hsub.rel (hn j) h4
  refine ⟨⟨j,hj⟩,?_⟩
  have:=(Classical.choose_spec (hex a' w') ⟨j,hj⟩).2 j hj
  omega
 |.exit x,.exit y,hm,hq=>exact ⟨.exit y,ts',os',hm,hq,hrel'⟩
 |.ret,.ret,_,hq=>exact ⟨.ret,ts',os',trivial,hq,hrel'⟩
theorem jk {ι:Type} {n:Nat} (hΓ:Γ.n=n) (Dt:ι→Ts) (Do:ι→Os) (T0:Ts) (O0:Os) {c:Code} {ts:Ts} {os:Os} {Q:Qt} (h:∀Q1:Qt,(∀ts' os',y5 Γ ts' os' (JQ (fun i=>Dt i++T0) (fun i=>Do i++O0) fun _=>True)→Q1 .normal ts' os')→(∀id ts os,Q (.exit id) ts os→Q1 (.exit id) ts os)→(∀ts os,Q .ret ts os→Q1 .ret ts os)→j5 P Γ c ts os Q1)
  (h2:∀i,Q .normal (Dt i++T0) (Do i++O0)) (hT:bU3 T0 ts:=by repeat (first|exact trivial|exact rfl|(refine And.intro ?_ ?_))) (hO:a96 O0 os:=by repeat (first|exact trivial|exact rfl|(refine And.intro ?_ ?_))) (hn:∀i,((Dt i++T0).all fun p=>Nat.blt p.1 n)=true:=by intro s; rfl):j5 P Γ c ts os Q :=
 j5.joinR (fun i=>Dt i++T0) (fun i=>Do i++O0) h (by subst hΓ; exact hn) h2
theorem lq {ι:Type} {n:Nat} (hΓ:Γ.n=n) (Dt:ι→Ts) (Do:ι→Os) (m:ι→Nat) (T0:Ts) (O0:Os) {c:Code} {ts:Ts} {os:Os} {Q:Qt} (i0:ι) (rl0:List (Nat×Nat))
  (hr:∀i,∀Q1:Qt,(∀ts' os',y5 Γ ts' os' (JQ (fun i=>Dt i++T0) (fun i=>Do i++O0) fun j=>m j < m i)→Q1 .normal ts' os')→(∀id ts os,Q (.exit id) ts os→Q1 (.exit id) ts os)→(∀ts os,Q .ret ts os→Q1 .ret ts os)→j5 P Γ c (Dt i++T0) (Do i++O0) Q1)
  (hT:bU3 T0 ts:=by repeat (first|exact trivial|exact rfl|(refine And.intro ?_ ?_))) (hO:a96 O0 os:=by repeat (first|exact trivial|exact rfl|(refine And.intro ?_ ?_))) (h0:bB2 ts os (Dt i0++T0) (Do i0++O0) rl0:=by (refine bB2.mk ?_ ?_ rfl rfl<;>repeat (first|exact trivial|exact rfl|(refine And.intro ?_ ?_)))) (hn:∀i,((Dt i++T0).all fun p=>Nat.blt p.1 n)=true:=by intro s; rfl):j5 P Γ (.loop c) ts os Q :=
 j5.loopQ (fun i=>Dt i++T0) (fun i=>Do i++O0) m i0 rl0 h0 (by subst hΓ; exact hn) hr
theorem sj {α:Type} {a b:α} (h:some a=some b):b=a:=(Option.some.inj h).symm
theorem aT {P:Prop} (h:P:=by repeat (first|exact trivial|exact rfl|(refine And.intro ?_ ?_))):P:=h
theorem oI {α:Type} {a b:α} (h:some a=some b):a=b:=Option.some.inj h
mutual
def AV.fzv (id sz:Nat) (ls:List (List AV)):AV→AV
 |.own j=>bif Nat.beq j id then .sl sz ls else .own j
 |.fn f cs=>.fn f (AV.fzvs id sz ls cs)
 |.agg cs=>.agg (AV.fzvs id sz ls cs)
 |.tup cs=>.tup (AV.fzvs id sz ls cs)
 |a=>a
def AV.fzvs (id sz:Nat) (ls:List (List AV)):List AV→List AV
 |[]=>[]
 |a::l=>a.fzv id sz ls::AV.fzvs id sz ls l
end
mutual
theorem Rd.fzv {c c':Ctx} {w:World} {id sz:Nat} {ls:List (List AV)} (hk:∀v a,Rd c w v a→Rd c' w v a) (h0:∀v,Rd c w v (.own id)→Rd c' w v (.sl sz ls)):∀(a:AV) {v:Value},Rd c w v a→Rd c' w v (a.fzv id sz ls)
 |.own j,v,h=>by
  unfold AV.fzv
  cases hj:Nat.beq j id
  ·exact hk _ _ h
  ·have:=Nat.eq_of_beq_eq_true hj
   subst this
   exact h0 v h
 |.fn f cs,v,h=>by
  obtain ⟨us,rfl,hr⟩:=h.fn_
  exact .fn (F6.fzvs hk h0 cs hr)
 |.agg cs,v,h=>by
  obtain ⟨us,rfl,hr⟩:=h.agg_
  exact .agg (F6.fzvs hk h0 cs hr)
 |.tup cs,v,h=>by
  obtain ⟨us,rfl,hr⟩:=h.tup_
  exact .tup (F6.fzvs hk h0 cs hr)
 |.any,_,h=>hk _ _ h
 |.int _,_,h=>hk _ _ h
 |.ik _ _,_,h=>hk _ _ h
 |.bool _,_,h=>hk _ _ h
 |.str _,_,h=>hk _ _ h
 |.sl _ _,_,h=>hk _ _ h
 |.ptr _ _,_,h=>hk _ _ h
 |.fp _,_,h=>hk _ _ h
 |.osl _ _,_,h=>hk _ _ h
 |.osr _ _ _,_,h=>hk _ _ h
 |.ep _ _ _ _,_,h=>hk _ _ h
 |.nilsl,_,h=>hk _ _ h
 |.slb _,_,h=>hk _ _ h
 |.nilp,_,h=>hk _ _ h
 |.nilf,_,h=>hk _ _ h
 |.mp _,_,h=>hk _ _ h
 |.nst _,_,h=>hk _ _ h
 |.np _,_,h=>hk _ _ h
 |.ifc _,_,h=>hk _ _ h
 |.con _,_,h=>hk _ _ h
theorem F6.fzvs {c c':Ctx} {w:World} {id sz:Nat} {ls:List (List AV)} (hk:∀v a,Rd c w v a→Rd c' w v a) (h0:∀v,Rd c w v (.own id)→Rd c' w v (.sl sz ls)):∀(xs:List AV) {vs:List Value},F6 c w vs xs→F6 c' w vs (AV.fzvs id sz ls xs)
 |[],_,.nil=>.nil
 |a::xs,_,.cons h t=>.cons (Rd.fzv hk h0 a h) (F6.fzvs hk h0 xs t)
end
def Obj.fzo (id sz:Nat) (ls:List (List AV)):Obj→Obj
 |.box cs e=>.box (AV.fzvs id sz ls cs) e
 |o=>o
def bN0 (id sz:Nat) (ls:List (List AV)):Ts→Ts
 |[]=>[]
 |(t,a)::r=>(t,a.fzv id sz ls)::bN0 id sz ls r
def bF2 (id sz:Nat) (ls:List (List AV)):Os→Os
 |[]=>[]
 |(k,o)::r=>(k,o.fzo id sz ls)::bF2 id sz ls r
theorem b63 (id sz:Nat) (ls:List (List AV)) (t:Nat):∀ts:Ts,lk (bN0 id sz ls ts) t=(lk ts t).map (AV.fzv id sz ls)
 |[]=>rfl
 |(k,a)::r=>by
  rw [bN0,y7,y7,b63 id sz ls t r]
  split<;>rfl
theorem b41 (id sz:Nat) (ls:List (List AV)) (t:Nat):∀ts:Os,lk (bF2 id sz ls ts) t=(lk ts t).map (Obj.fzo id sz ls)
 |[]=>rfl
 |(k,a)::r=>by
  rw [bF2,y7,y7,b41 id sz ls t r]
  split<;>rfl
theorem G5.fzAll {ts:Ts} {os:Os} (id:Nat) {sz e:Nat} {ls:List (List AV)} (hid:lk os id=some (.row sz ls e)) {a:Act} {w:World} (hr:G5 Γ ts os a w):G5 Γ (bN0 id sz ls ts) ((id,.gone)::bF2 id sz ls os) a w:=by
 obtain ⟨cx,⟨h1,h2,h3,h4,h5⟩,h6⟩:=hr
 have hsub:∀i o,lk [(id,Obj.row sz ls e)] i=some o→lk os i=some o:=fun i o hl=>by
  rw [y7] at hl
  split at hl
  ·rename_i e1; subst e1; cases hl; exact hid
  ·cases hl
 have hok1:=h4.sub hsub
 have hp:=Post.freeze hok1
 have hfr:P9 (cx.fz [(id,.row sz ls e)]) w (K5 [(id,.row sz ls e)]++os):=h4.frame hsub hp (fun _ h=>(by cases h)) (fun _ _ _ _ _ h=>(by cases h))
 have hk:∀v a,Rd cx w v a→Rd (cx.fz [(id,.row sz ls e)]) w v a:=fun v a hr=>Rd.mono (c:=cx) (c':=cx.fz [(id,.row sz ls e)]) (fun _ _=>rfl) (fun _ h=>Or.inl h) (fun _ _=>⟨rfl,rfl⟩) hr
 have h0:∀v,Rd cx w v (.own id)→Rd (cx.fz [(id,.row sz ls e)]) w v (.sl sz ls):=fun v hv=>bE5 hok1 (p9 _ _ _) hv
 have way:∀i o,lk ((id,Obj.gone)::bF2 id sz ls os) i=some o→∃o',lk (K5 [(id,Obj.row sz ls e)]++os) i=some o'∧(∀b,foot (cx.fz [(id,.row sz ls e)]) i o b↔foot (cx.fz [(id,.row sz ls e)]) i o' b)∧aH8 (cx.fz [(id,.row sz ls e)]) w i o:=fun i o hl=>by
  have hl0:=hl
  rw [y7] at hl
  split at hl
  ·rename_i e1
   subst e1
   cases hl
   exact ⟨.gone,by simp [K5,p9],fun _=>Iff.rfl,trivial⟩
  ·rename_i e1
   rw [b41] at hl
   obtain ⟨o',ho',rfl⟩:=Option.map_eq_some_iff.1 hl
   have hl2:lk (K5 [(id,Obj.row sz ls e)]++os) i=some o':=by simp only [K5,List.cons_append,List.nil_append]; rw [G9 _ _ e1]; exact ho'
   have hrep:=hfr.rep i o' hl2
   refine ⟨o',hl2,fun b=>?_,?_⟩
   ·cases o'<;>exact Iff.rfl
   ·cases o' with
    |box cs e2 =>
     obtain ⟨us,q1,q2⟩:=h4.rep i _ ho'
     exact ⟨us,q1,F6.fzvs hk h0 cs q2⟩
    |_=>exact hrep
 refine ⟨cx.fz [(id,.row sz ls e)],⟨h1,h2,fun t x hl=>?_,⟨fun i o hl=>?_,fun i o b hl hf=>?_,fun i i' o o' b hne hl hl' hf hf'=>?_,hfr.phi⟩,?_⟩,h6⟩
 ·rw [b63] at hl
  obtain ⟨y,hy,rfl⟩:=Option.map_eq_some_iff.1 hl
  obtain ⟨v,q1,q2⟩:=h3 t y hy
  exact ⟨v,q1,Rd.fzv hk h0 y q2⟩
 ·obtain ⟨_,_,_,h⟩:=way i o hl; exact h
 ·obtain ⟨o1,g1,g2,_⟩:=way i o hl; exact hfr.lt i o1 b g1 ((g2 b).1 hf)
 ·obtain ⟨o1,g1,g2,_⟩:=way i o hl
  obtain ⟨o2,k1,k2,_⟩:=way i' o' hl'
  exact hfr.sep i i' o1 o2 b hne g1 k1 ((g2 b).1 hf) ((k2 b).1 hf')
 ·have hinv:Inv Γ (cx.fz [(id,.row sz ls e)]) w (K5 [(id,.row sz ls e)]++os):=h5.post h4 hsub hp (fun _ h=>(by cases h)) (fun _ _ _ _ x hx=>(by cases hx))
  exact ⟨hinv.wos,hinv.tape,hinv.output,hinv.size,hinv.phi,hinv.phiNew,hinv.keep,fun i o b hl hf=>by
   obtain ⟨o1,g1,g2,_⟩:=way i o hl
   exact hinv.feet i o1 b g1 ((g2 b).1 hf)⟩
theorem j5.fzAll {c:Code} {ts:Ts} {os:Os} {Q:Qt} (id:Nat) {sz e:Nat} {ls:List (List AV)} (hid:lk os id=some (.row sz ls e)) (h:j5 P Γ c (bN0 id sz ls ts) ((id,.gone)::bF2 id sz ls os) Q):j5 P Γ c ts os Q :=
 ⟨fun a w hr=>h.run a w (hr.fzAll id hid)⟩
theorem y5.fzAll {ts:Ts} {os:Os} {Q:Qt} (id:Nat) {sz e:Nat} {ls:List (List AV)} (hid:lk os id=some (.row sz ls e)) (h:y5 Γ (bN0 id sz ls ts) ((id,.gone)::bF2 id sz ls os) Q):y5 Γ ts os Q :=
 ⟨fun a w hr=>h.run a w (hr.fzAll id hid)⟩
theorem y5.nilrow {ts:Ts} {os:Os} {Q:Qt} (t id sz e:Nat) (hl:lk ts t=some .nilsl) (hf1:K9 [id] ts=true) (hf2:L8 [id] [(id,.row sz [] e)] os=true) (h:y5 Γ ((t,.own id)::ts) ((id,.row sz [] e)::os) Q):y5 Γ ts os Q :=
 ⟨fun a w hr=>h.run a w (hr.nilrow t id sz e hl hf1 hf2)⟩
end
end Go.Proofs.YtibjcppjfkamhaaGreatDoor
