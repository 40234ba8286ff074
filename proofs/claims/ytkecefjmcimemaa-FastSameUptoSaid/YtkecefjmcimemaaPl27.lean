import Derived.Test.YtkecefjmcimemaaPl26
/- Whoever stands in does the same: how a frame of fast code stands to a frame of plain code. No program in sight. -/
namespace Go.Proofs.Ytkecefjmcimemaa
open Go.RowKit
set_option linter.unusedVariables false
def mvL (w:Wd) (H:List Ob) (self:V) (args temps stack:List V) (i:Ins):Option (List Ob×List V×List V×Int) :=
 if i.op=1 then some (H,temps,stack++[self],0)
 else if i.op=2 then (p8 args i.a).map fun v=>(H,temps,stack++[v],0)
 else if i.op=3 then (p8 temps i.a).map fun v=>(H,temps,stack++[v],0)
 else if i.op=4 then some (H,temps,stack++[aZ2 H self i.a],0)
 else if i.op=5 then some (H,temps,stack++[⟨3,i.a⟩],0)
 else if i.op=6 then some (H,temps,stack++[⟨0,0⟩],0)
 else if i.op=7 then some (H,temps,stack++[⟨1,0⟩],0)
 else if i.op=8 then some (H,temps,stack++[⟨2,0⟩],0)
 else if i.op=9 then stack.getLast?.map fun v=>(H,temps,stack.dropLast,0)
 else if i.op=10 then stack.getLast?.map fun v=>(H,temps,stack++[v],0)
 else if i.op=11 then stack.getLast?.bind fun v=>if 0≤i.a∧i.a < temps.length then some (H,temps.set i.a.toNat v,stack.dropLast,0) else none
 else if i.op=12 then stack.getLast?.bind fun v=>(bD3 H self i.a v).map fun h=>(h,temps,stack.dropLast,0)
 else if i.op=19 then (p8 temps i.a).map fun t=>(H,temps,stack++[aZ2 H t i.b],0)
 else if i.op=20 then (p8 temps i.a).bind fun t=>stack.getLast?.bind fun v=>(bD3 H t i.b v).map fun h=>(h,temps,stack.dropLast,0)
 else if i.op=13 then (if 60≤H.length then some (H,temps,stack,15) else some (H++[⟨i.a,List.replicate (G5 w i.a).toNat ⟨0,0⟩⟩],temps,stack++[⟨4,(H.length:Int)⟩],0))
 else some (H,temps,stack,0)
def mvC (c:Cf) (f:l6) (F:List l6) (r:List Ob×List V×List V×Int):Cf:={ c with heap:=r.1,fs:={ f with temps:=r.2.1,stack:=r.2.2.1 }::F,err:=r.2.2.2 }
theorem bY8 (w:Wd) (c:Cf) (he:c.err=0) (f:l6) (F:List l6) (i:Ins):bK9 w c f F i=(mvL w c.heap f.self_ f.args f.temps f.stack i).map (mvC c f F):=by
 obtain ⟨H,s,t,fs,b,e,ev⟩:=c
 simp only at he
 subst he
 unfold bK9 mvL
 by_cases h1:i.op=1
 ·simp only [if_pos h1]; rfl
 simp only [if_neg h1]
 by_cases h2:i.op=2
 ·simp only [if_pos h2,Option.map_map]; rfl
 simp only [if_neg h2]
 by_cases h3:i.op=3
 ·simp only [if_pos h3,Option.map_map]; rfl
 simp only [if_neg h3]
 by_cases h4:i.op=4
 ·simp only [if_pos h4]; rfl
 simp only [if_neg h4]
 by_cases h5:i.op=5
 ·simp only [if_pos h5]; rfl
 simp only [if_neg h5]
 by_cases h6:i.op=6
 ·simp only [if_pos h6]; rfl
 simp only [if_neg h6]
 by_cases h7:i.op=7
 ·simp only [if_pos h7]; rfl
 simp only [if_neg h7]
 by_cases h8:i.op=8
 ·simp only [if_pos h8]; rfl
 simp only [if_neg h8]
 by_cases h9:i.op=9
 ·simp only [if_pos h9,aD4,Option.map_map]; rfl
 simp only [if_neg h9]
 by_cases h10:i.op=10
 ·simp only [if_pos h10,Option.map_map]; rfl
 simp only [if_neg h10]
 by_cases h11:i.op=11
 ·simp only [if_pos h11,aD4]
  cases hv:f.stack.getLast? with
  |none=>rfl
  |some v =>
   simp only [Option.map_some,Option.bind_some]
   by_cases ha:0≤i.a∧i.a < f.temps.length
   ·rw [if_pos ha,if_pos ha]; rfl
   ·rw [if_neg ha,if_neg ha]; rfl
 simp only [if_neg h11]
 by_cases h12:i.op=12
 ·simp only [if_pos h12,aD4]
  cases hv:f.stack.getLast? with
  |none=>rfl
  |some v =>
   simp only [Option.map_some,Option.bind_some]
   cases bD3 H f.self_ i.a v<;>rfl
 simp only [if_neg h12]
 by_cases h19:i.op=19
 ·simp only [if_pos h19,Option.map_map]; rfl
 simp only [if_neg h19]
 by_cases h20:i.op=20
 ·simp only [if_pos h20,aD4]
  cases ht:p8 f.temps i.a with
  |none=>rfl
  |some u =>
   cases hv:f.stack.getLast? with
   |none=>rfl
   |some v =>
    simp only [Option.map_some,Option.bind_some]
    cases bD3 H u i.b v<;>rfl
 simp only [if_neg h20]
 by_cases h13:i.op=13
 ·simp only [if_pos h13]
  by_cases h60:60≤H.length
  ·rw [if_pos h60,if_pos h60]; rfl
  ·rw [if_neg h60,if_neg h60]; rfl
 simp only [if_neg h13]
 rfl
theorem bY2 {T:List V} {n:Nat} {a:Int} {v:V} (h:p8 (T.take n) a=some v):p8 T a=some v:=by
 obtain ⟨h0,h1⟩:=u6 h
 rw [Z5 h0]
 rw [List.getElem?_take] at h1
 split at h1
 ·exact h1
 ·cases h1
theorem dC0 {w:Wd} {H:List Ob} {self:V} {args T stack:List V} {n:Nat} {i:Ins} {r:List Ob×List V×List V×Int} (hn:n≤T.length) (h:mvL w H self args (T.take n) stack i=some r) :
  ∃T',mvL w H self args T stack i=some (r.1,T',r.2.2.1,r.2.2.2)∧T'.take n=r.2.1∧T'.length=T.length∧r.2.1.length=n:=by
 have hl:(T.take n).length=n:=by rw [List.length_take]; omega
 unfold mvL at h ⊢
 by_cases h1:i.op=1
 ·rw [if_pos h1] at h ⊢; cases h; exact ⟨T,rfl,rfl,rfl,hl⟩
 rw [if_neg h1] at h ⊢
 by_cases h2:i.op=2
 ·rw [if_pos h2] at h ⊢
  rw [Option.map_eq_some_iff] at h
  obtain ⟨v,hv,rfl⟩:=h
  rw [hv]
  exact ⟨T,rfl,rfl,rfl,hl⟩
 rw [if_neg h2] at h ⊢
 by_cases h3:i.op=3
 ·rw [if_pos h3] at h ⊢
  rw [Option.map_eq_some_iff] at h
  obtain ⟨v,hv,rfl⟩:=h
  rw [bY2 hv]
  exact ⟨T,rfl,rfl,rfl,hl⟩
 rw [if_neg h3] at h ⊢
 by_cases h4:i.op=4
 ·rw [if_pos h4] at h ⊢; cases h; exact ⟨T,rfl,rfl,rfl,hl⟩
 rw [if_neg h4] at h ⊢
 by_cases h5:i.op=5
 ·rw [if_pos h5] at h ⊢; cases h; exact ⟨T,rfl,rfl,rfl,hl⟩
 rw [if_neg h5] at h ⊢
 by_cases h6:i.op=6
 ·rw [if_pos h6] at h ⊢; cases h; exact ⟨T,rfl,rfl,rfl,hl⟩
 rw [if_neg h6] at h ⊢
 by_cases h7:i.op=7
 ·rw [if_pos h7] at h ⊢; cases h; exact ⟨T,rfl,rfl,rfl,hl⟩
 rw [if_neg h7] at h ⊢
 by_cases h8:i.op=8
 ·rw [if_pos h8] at h ⊢; cases h; exact ⟨T,rfl,rfl,rfl,hl⟩
 rw [if_neg h8] at h ⊢
 by_cases h9:i.op=9
 ·rw [if_pos h9] at h ⊢
  rw [Option.map_eq_some_iff] at h
  obtain ⟨v,hv,rfl⟩:=h
  rw [hv]
  exact ⟨T,rfl,rfl,rfl,hl⟩
 rw [if_neg h9] at h ⊢
 by_cases h10:i.op=10
 ·rw [if_pos h10] at h ⊢
  rw [Option.map_eq_some_iff] at h
  obtain ⟨v,hv,rfl⟩:=h
  rw [hv]
  exact ⟨T,rfl,rfl,rfl,hl⟩
 rw [if_neg h10] at h ⊢
 by_cases h11:i.op=11
 ·rw [if_pos h11] at h ⊢
  obtain ⟨v,hv,h⟩:=j4 h
  rw [hv]
  by_cases ha:0≤i.a∧i.a < ((T.take n).length:Int)
  ·rw [if_pos ha] at h
   cases h
   simp only [Option.bind_some]
   rw [if_pos ⟨ha.1,by omega⟩]
   exact ⟨T.set i.a.toNat v,rfl,by rw [List.take_set],List.length_set,by rw [List.length_set,hl]⟩
  ·rw [if_neg ha] at h; cases h
 rw [if_neg h11] at h ⊢
 by_cases h12:i.op=12
 ·rw [if_pos h12] at h ⊢
  obtain ⟨v,hv,h⟩:=j4 h
  rw [Option.map_eq_some_iff] at h
  obtain ⟨h',hh,rfl⟩:=h
  rw [hv]
  simp only [Option.bind_some]
  rw [hh]
  exact ⟨T,rfl,rfl,rfl,hl⟩
 rw [if_neg h12] at h ⊢
 by_cases h19:i.op=19
 ·rw [if_pos h19] at h ⊢
  rw [Option.map_eq_some_iff] at h
  obtain ⟨v,hv,rfl⟩:=h
  rw [bY2 hv]
  exact ⟨T,rfl,rfl,rfl,hl⟩
 rw [if_neg h19] at h ⊢
 by_cases h20:i.op=20
 ·rw [if_pos h20] at h ⊢
  obtain ⟨u,hu,h⟩:=j4 h
  obtain ⟨v,hv,h⟩:=j4 h
  rw [Option.map_eq_some_iff] at h
  obtain ⟨h',hh,rfl⟩:=h
  rw [bY2 hu,hv]
  simp only [Option.bind_some]
  rw [hh]
  exact ⟨T,rfl,rfl,rfl,hl⟩
 rw [if_neg h20] at h ⊢
 by_cases h13:i.op=13
 ·rw [if_pos h13] at h ⊢
  by_cases h60:60≤H.length
  ·rw [if_pos h60] at h ⊢; cases h; exact ⟨T,rfl,rfl,rfl,hl⟩
  ·rw [if_neg h60] at h ⊢; cases h; exact ⟨T,rfl,rfl,rfl,hl⟩
 rw [if_neg h13] at h ⊢
 cases h
 exact ⟨T,rfl,rfl,rfl,hl⟩
theorem aW0 {a b:List V} {v:V} (h:b.getLast?=some v):(a++b).getLast?=some v∧(a++b).dropLast=a++b.dropLast:=by
 obtain ⟨ys,rfl⟩:=List.getLast?_eq_some_iff.1 h
 rw [←List.append_assoc]
 simp
structure TIn (G:List V) (s:Int) (y:Me) (sf:V) (ag tm:List V):Prop where
 s0:0≤s
 s1:s+1+y.args+y.temps≤G.length
 yargs:0≤y.args
 ytemps:0≤y.temps
 la:(ag.length:Int)=y.args
 lt:(tm.length:Int)=y.temps
 iself:G[s.toNat]?=some sf
 iargs:∀(a:Nat) v,ag[a]?=some v→G[s.toNat+1+a]?=some v
 itemps:∀(a:Nat) v,tm[a]?=some v→G[s.toNat+1+y.args.toNat+a]?=some v
theorem dG8 {w:Wd} {H:List Ob} {self gs:V} {args temps stack gargs G base:List V} {s:Int} {y:Me} {f:Int} {i:Ins} (hT:TIn G s y self args temps) (hop:i.op≤13) (hop1:1≤i.op) {r:List Ob×List V×List V×Int} (h:mvL w H self args temps stack i=some r) :
  ∃G',mvL w H gs gargs G (base++stack) (V5 s y f i)=some (r.1,G',base++r.2.2.1,r.2.2.2)∧TIn G' s y self args r.2.1∧G'.length=G.length∧∀n:Nat,(n:Int)≤s→G'.take n=G.take n:=by
 have hlt:s.toNat < G.length:=by have:=hT.s0; have:=hT.s1; have:=hT.yargs; have:=hT.ytemps; omega
 have is:p8 G s=some self:=by rw [Z5 hT.s0]; exact hT.iself
 unfold mvL at h
 by_cases h1:i.op=1
 ·rw [if_pos h1] at h
  cases h
  refine ⟨G,?_,hT,rfl,fun _ _=>rfl⟩
  unfold mvL V5
  simp only [if_pos h1,is]
  simp
 rw [if_neg h1] at h
 by_cases h2:i.op=2
 ·rw [if_pos h2] at h
  rw [Option.map_eq_some_iff] at h
  obtain ⟨v,hv,rfl⟩:=h
  obtain ⟨a0,a1⟩:=u6 hv
  have hg:p8 G (s+1+i.a)=some v:=by
   rw [Z5 (by have:=hT.s0; omega),←hT.iargs _ _ a1]
   congr 1
   have:=hT.s0; omega
  refine ⟨G,?_,hT,rfl,fun _ _=>rfl⟩
  unfold mvL V5
  simp only [if_neg h1,if_pos h2,hg]
  simp
 rw [if_neg h2] at h
 by_cases h3:i.op=3
 ·rw [if_pos h3] at h
  rw [Option.map_eq_some_iff] at h
  obtain ⟨v,hv,rfl⟩:=h
  obtain ⟨a0,a1⟩:=u6 hv
  have hg:p8 G (s+1+y.args+i.a)=some v:=by
   rw [Z5 (by have:=hT.s0; have:=hT.yargs; omega),←hT.itemps _ _ a1]
   congr 1
   have:=hT.s0; have:=hT.yargs; omega
  refine ⟨G,?_,hT,rfl,fun _ _=>rfl⟩
  unfold mvL V5
  simp only [h3]
  simp [hg]
 rw [if_neg h3] at h
 by_cases h4:i.op=4
 ·rw [if_pos h4] at h
  cases h
  refine ⟨G,?_,hT,rfl,fun _ _=>rfl⟩
  unfold mvL V5
  simp only [h4]
  simp [is]
 rw [if_neg h4] at h
 have hrest:(i.op=5∨i.op=6∨i.op=7∨i.op=8∨i.op=9∨i.op=10)→V5 s y f i=⟨i.op,i.a,0,0,ByteArray.empty⟩:=fun hh=>by
  unfold V5
  rw [if_neg h1,if_neg h2,if_neg (by omega),if_neg h4,if_neg (by omega),if_neg (by omega),if_neg (by omega)]
 by_cases h5:i.op=5
 ·rw [if_pos h5] at h
  cases h
  refine ⟨G,?_,hT,rfl,fun _ _=>rfl⟩
  rw [hrest (by omega)]
  unfold mvL
  simp only [h5]
  simp
 rw [if_neg h5] at h
 by_cases h6:i.op=6
 ·rw [if_pos h6] at h
  cases h
  refine ⟨G,?_,hT,rfl,fun _ _=>rfl⟩
  rw [hrest (by omega)]
  unfold mvL
  simp only [h6]
  simp
 rw [if_neg h6] at h
 by_cases h7:i.op=7
 ·rw [if_pos h7] at h
  cases h
  refine ⟨G,?_,hT,rfl,fun _ _=>rfl⟩
  rw [hrest (by omega)]
  unfold mvL
  simp only [h7]
  simp
 rw [if_neg h7] at h
 by_cases h8:i.op=8
 ·rw [if_pos h8] at h
  cases h
  refine ⟨G,?_,hT,rfl,fun _ _=>rfl⟩
  rw [hrest (by omega)]
  unfold mvL
  simp only [h8]
  simp
 rw [if_neg h8] at h
 by_cases h9:i.op=9
 ·rw [if_pos h9] at h
  rw [Option.map_eq_some_iff] at h
  obtain ⟨v,hv,rfl⟩:=h
  obtain ⟨e1,e2⟩:=aW0 (a:=base) hv
  refine ⟨G,?_,hT,rfl,fun _ _=>rfl⟩
  rw [hrest (by omega)]
  unfold mvL
  simp only [h9,e1,e2]
  simp
 rw [if_neg h9] at h
 by_cases h10:i.op=10
 ·rw [if_pos h10] at h
  rw [Option.map_eq_some_iff] at h
  obtain ⟨v,hv,rfl⟩:=h
  obtain ⟨e1,e2⟩:=aW0 (a:=base) hv
  refine ⟨G,?_,hT,rfl,fun _ _=>rfl⟩
  rw [hrest (by omega)]
  unfold mvL
  simp only [h10,e1]
  simp
 rw [if_neg h10] at h
 by_cases h11:i.op=11
 ·rw [if_pos h11] at h
  obtain ⟨v,hv,h⟩:=j4 h
  obtain ⟨e1,e2⟩:=aW0 (a:=base) hv
  by_cases ha:0≤i.a∧i.a < (temps.length:Int)
  ·rw [if_pos ha] at h
   cases h
   have b0:=hT.s0
   have b1:=hT.s1
   have b2:=hT.yargs
   have b3:=hT.ytemps
   have b4:=hT.lt
   have b5:=hT.la
   refine ⟨G.set (s+1+y.args+i.a).toNat v,?_,⟨b0,by rw [List.length_set]; exact b1,b2,b3,b5,by rw [List.length_set]; exact b4,?_,fun a u hu=>?_,fun a u hu=>?_⟩,List.length_set,fun n hn=>?_⟩
   ·unfold mvL V5
    simp only [h11,e1,e2]
    simp
    omega
   ·rw [List.getElem?_set_ne (by omega)]; exact hT.iself
   ·have hal:a < args.length:=(List.getElem?_eq_some_iff.1 hu).1
    rw [List.getElem?_set_ne (by omega)]; exact hT.iargs a u hu
   ·by_cases hai:a=i.a.toNat
    ·subst hai
     have hl:i.a.toNat < temps.length:=by omega
     rw [List.getElem?_set_self hl] at hu
     cases hu
     rw [show s.toNat+1+y.args.toNat+i.a.toNat=(s+1+y.args+i.a).toNat by omega,List.getElem?_set_self (by omega)]
    ·rw [List.getElem?_set_ne (Ne.symm hai)] at hu
     rw [List.getElem?_set_ne (by omega)]
     exact hT.itemps a u hu
   ·rw [List.take_set_of_le (by omega)]
  ·rw [if_neg ha] at h; cases h
 rw [if_neg h11] at h
 by_cases h12:i.op=12
 ·rw [if_pos h12] at h
  obtain ⟨v,hv,h⟩:=j4 h
  rw [Option.map_eq_some_iff] at h
  obtain ⟨h',hh,rfl⟩:=h
  obtain ⟨e1,e2⟩:=aW0 (a:=base) hv
  refine ⟨G,?_,hT,rfl,fun _ _=>rfl⟩
  unfold mvL V5
  simp only [h12,is,e1,e2]
  simp [is,hh]
 rw [if_neg h12] at h
 have h13:i.op=13:=by omega
 rw [if_neg (by omega),if_neg (by omega),if_pos h13] at h
 by_cases h60:60≤H.length
 ·rw [if_pos h60] at h
  cases h
  refine ⟨G,?_,hT,rfl,fun _ _=>rfl⟩
  unfold mvL V5
  simp only [h13]
  simp [h60]
 ·rw [if_neg h60] at h
  cases h
  refine ⟨G,?_,hT,rfl,fun _ _=>rfl⟩
  unfold mvL V5
  simp only [h13]
  simp [h60]
end Go.Proofs.Ytkecefjmcimemaa
