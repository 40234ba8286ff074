/- slices.Insert of one method: the library's own text, walked. -/
import Derived.Test.YtibjcppjfkamhaaGreatDoorN
import Derived.Test.YtibjcppjfkamhaaGreatDoorIo
import Derived.Test.YtibjcppjfkamhaaGreatDoorDg
import Derived.Test.YtibjcppjfkamhaaGreatDoorHd
import Derived.Lib.Walk
import Derived.Lib.SliceRun
import Derived.Lib.AppendZerosOnto
import Derived.Lib.Overlaps
import Derived.Laws.Externs
import Derived.Laws.IdiomCopy
import Derived.Laws.NewBlocks
import Derived.Shelf.Spec.SlicesInsert
namespace Go.Proofs.YtibjcppjfkamhaaGreatDoor
open Go.RowKit Go.Lib Go.Proofs
set_option linter.unusedVariables false
theorem bH2 {P:Program} (k:Nat) (w:World) (dT sT ty elem:TypeId) (b o dLen dCap:Nat) (a:Addr) (sLen sCap:Nat) (cs:List Value)
  (hu:P.underlying dT=some (.slice elem)) (hs:(P.info? elem).map (·.size)=some k) (hn:cs.length=Nat.min sLen dLen*k)
  (hsrc:∀j v,cs[j]?=some v→w.cell? (a.add j)=some v) (hc:∀j,j < cs.length→(w.cell? ⟨b,o+j,none⟩).isSome=true) (hf:∀j,j < cs.length→w.frozen? ⟨b,o+j,none⟩=false) (h1:∀v∈cs,v.oneCell'=true) :
  (Builtin.copy_ #[dT,sT] ty #[.slice (some ⟨b,o,none⟩) dLen dCap,.slice (some a) sLen sCap]).run P w=.ok (goInt (Nat.min sLen dLen)) (w.setCells b o cs):=by
 have hl:=run_loadCells_list (P:=P) w a cs hsrc
 have hst:=run_storeCells_cells (P:=P) b o cs 0 w (by simpa using hc) (by simpa using hf) h1
 cases hq:P.info? elem with
 |none=>simp [hq] at hs
 |some i =>
  have hi:i.size=k:=by simpa [hq] using hs
  simp [Builtin.copy_,run_underlying hu,Builtin.lenOf,Builtin.firstCells,sizeOf,typeInfo,hq,hi,←hn,hl,hst]
set_option maxHeartbeats 4000000 in
set_option maxRecDepth 100000 in
theorem cM8 (b off n c i vb voff vc:Nat) (cs vs:List Value) (w:World) (hi:i < n) (hroom:n+1≤c) (hc63:c≤9223372036854775807) (hvb:vb≠b) (hcl:cs.length=n*5) (hvl:vs.length=5)
  (hcs:∀j v,cs[j]?=some v→w.cell? ⟨b,off+j,none⟩=some v) (hsp:∀j,j < (n+1)*5→(w.cell? ⟨b,off+j,none⟩).isSome=true) (hfz:∀j,j < (n+1)*5→w.frozen? ⟨b,off+j,none⟩=false)
  (hvs:∀j v,vs[j]?=some v→w.cell? ⟨vb,voff+j,none⟩=some v) (h1c:∀v∈cs,v.oneCell'=true) (h1v:∀v∈vs,v.oneCell'=true)
  (tA tB:TypeId) (kA kB:Nat) (hsa:w.shape? vb=some (tA,kA)) (hsb:w.shape? b=some (tB,kB)) (hkB:kB≠0) (hfa:w.frozen? ⟨vb,voff,none⟩=false) (hfe:w.frozen? ⟨vb,kA,none⟩=false) :
  Calls Tryz.prog 124 #[.slice (some ⟨b,off,none⟩) n c,.int .i64 i,.slice (some ⟨vb,voff,none⟩) 1 vc] w fun e w' =>
   e=.returned (.slice (some ⟨b,off,none⟩) (n+1) c)∧w'=(w.drew.setCells b (off+(i+1)*5) (cs.drop (i*5))).setCells b (off+i*5) vs:=by
 have hz2:¬((i:Int)=(n:Int)):=by omega
 have hsz:(Tryz.prog.info? 27).map (·.size)=some 5:=by kernel_rfl
 have hov:∀(lb cb z:Nat),(callFunc 161 #[.slice (some ⟨vb,voff,none⟩) 1 vc,.slice (some ⟨b,z,none⟩) lb cb]).run Tryz.prog w=.ok (.value (.bool false)) w:=fun lb cb z=>by
  rw [run_callFunc_extern Tryz.func161 (by kernel_rfl) (by kernel_rfl) (by kernel_rfl) (e:=Extern.SlicesOverlaps.overlaps #[79,79] #[4]) (by kernel_rfl),
   Lib.run_overlaps_apart w 79 4 27 Tryz.underlying79 5 (fun w=>by kernel_rfl) ⟨vb,voff,none⟩ ⟨b,z,none⟩ 1 vc lb cb hvb tA tB kA kB hsa hsb hkB hfa hfe]
  rfl
 have hdl:(cs.drop (i*5)).length=(n - i)*5:=by rw [List.length_drop,hcl,Nat.sub_mul]
 have hw1:IntKind.i64.wrap ((i:Int)+1)=(i:Int)+1:=by rw [IntKind.wrap_i64]; omega
 have hw2:IntKind.i64.wrap ((n:Int)+1)=(n:Int)+1:=by rw [IntKind.wrap_i64]; omega
 have hb1:(0:Int)≤(i:Int)+1:=by omega
 have hin:i≤n:=by omega
 have htn:((i:Int)+1).toNat=i+1:=by omega
 have hb2:¬(c=i+1):=by omega
 have hb3:(i:Int)≤(n:Int)+1:=by omega
 have hb4:¬(c=i):=by omega
 have hk1:Nat.min (n+1 - i) (n+1 - (i+1))=n - i:=by simp only [Nat.min_def]; split<;>omega
 have hk2:Nat.min 1 (n+1 - i)=1:=by simp only [Nat.min_def]; split<;>omega
 have hcp1:∀ty dc sc,(Builtin.copy_ #[79,79] ty #[.slice (some ⟨b,off+(i+1)*5,none⟩) (n+1 - (i+1)) dc,.slice (some ⟨b,off+i*5,none⟩) (n+1 - i) sc]).run Tryz.prog w.drew=.ok (goInt ((n - i:Nat):Int)) (w.drew.setCells b (off+(i+1)*5) (cs.drop (i*5))):=fun ty dc sc=>by
  have:=bH2 (P:=Tryz.prog) 5 w.drew 79 79 ty 27 b (off+(i+1)*5) (n+1 - (i+1)) dc ⟨b,off+i*5,none⟩ (n+1 - i) sc (cs.drop (i*5)) Tryz.underlying79 hsz (by rw [hdl,hk1])
   (fun j v hj=>by rw [Addr.add_lit,Nat.add_assoc]; exact hcs (i*5+j) v (by rwa [List.getElem?_drop] at hj))
   (fun j hj=>by rw [Nat.add_assoc]; exact hsp _ (by rw [hdl] at hj; omega)) (fun j hj=>by rw [Nat.add_assoc]; exact hfz _ (by rw [hdl] at hj; omega)) (fun v hv=>h1c v (List.mem_of_mem_drop hv))
  rw [hk1] at this
  exact this
 obtain ⟨W1,hW1⟩:∃W1,W1=w.drew.setCells b (off+(i+1)*5) (cs.drop (i*5)):=⟨_,rfl⟩
 have hsp1:∀k,k < (n+1)*5→(W1.cell? ⟨b,off+k,none⟩).isSome=true:=fun k hk=>by
  rw [hW1]
  exact isSome_setCells b _ _ _ (fun j hj=>by rw [Nat.add_assoc]; exact hsp _ (by rw [hdl] at hj; omega)) _ (hsp k hk)
 have hcp2:∀(W:World),(∀x,W.cell? x=W1.cell? x)→(∀x,W.frozen? x=W1.frozen? x)→∀ty dc,(Builtin.copy_ #[79,79] ty #[.slice (some ⟨b,off+i*5,none⟩) (n+1 - i) dc,.slice (some ⟨vb,voff,none⟩) 1 vc]).run Tryz.prog W=.ok (goInt 1) (W.setCells b (off+i*5) vs):=fun W hWc hWf ty dc=>by
  have:=bH2 (P:=Tryz.prog) 5 W 79 79 ty 27 b (off+i*5) (n+1 - i) dc ⟨vb,voff,none⟩ 1 vc vs Tryz.underlying79 hsz (by rw [hvl,hk2])
   (fun j v hj=>by
    rw [Addr.add_lit,hWc,hW1,World.cell?_setCells_out b _ _ _ _ (fun h _=>absurd h hvb)]
    exact hvs j v hj)
   (fun j hj=>by rw [hWc,Nat.add_assoc]; exact hsp1 _ (by rw [hvl] at hj; omega)) (fun j hj=>by rw [hWf,hW1,World.frozen?_setCells,Nat.add_assoc]; exact hfz _ (by rw [hvl] at hj; omega)) h1v
  rw [hk2] at this
  exact this
 rw [←hW1] at hcp1
 clear hk1 hk2
 have mixed:Tryz.prog.follows .mixedOrders=true:=by kernel_rfl
 rw [show n+1 - (i+1)=n - i by omega] at hcp1
 go_enter Tryz.func124,Tryz.ntmps124
 go_wp2_with (simp only [hov])
 go_region_law_o (refine step_copy_runI rfl _ _ 79 79 rfl _ _ (by simp [Act.eval,Act.put]) (by simp [Act.eval,Act.put]) (hcp1 _ _ _) ?_)
 go_wp2_with (at_builtin; refine wpList_copy_runI _ rfl _ _ 79 79 rfl _ _ rfl rfl (hcp2 _ (fun _=>rfl) (fun _=>rfl) _ _) ?_)
 go_ret
 first|exact ⟨rfl,rfl⟩|exact ⟨rfl,by rw [hW1]⟩
set_option maxHeartbeats 4000000 in
set_option maxRecDepth 100000 in
theorem cS6 (b off n c i vb voff vc:Nat) (cs vs:List Value) (w:World) (hi:i < n) (hnc:n≤c) (hroom:c < n+1) (hbig:(n+1)*64≤140737488355328) (hbw:b < w.heap.size) (hvw:vb < w.heap.size) (hcl:cs.length=n*5) (hvl:vs.length=5)
  (hcs:∀j v,cs[j]?=some v→w.cell? ⟨b,off+j,none⟩=some v)
  (hvs:∀j v,vs[j]?=some v→w.cell? ⟨vb,voff+j,none⟩=some v) (h1c:∀v∈cs,v.oneCell'=true) (h1v:∀v∈vs,v.oneCell'=true) :
  Calls Tryz.prog 124 #[.slice (some ⟨b,off,none⟩) n c,.int .i64 i,.slice (some ⟨vb,voff,none⟩) 1 vc] w fun e w'=>∃(G:Nat) (ROW:Array Value),n+1≤G∧G≤maxLen∧ROW.size=G*5∧(∀(j:Nat) (v:Value),(cs.take (i*5))[j]?=some v→ROW[j]?=some v) ∧
   e=.returned (.slice (some ⟨w.heap.size,0,none⟩) (n+1) G)∧w'=(((w.alloc (.cells ROW 27)).drew.setCells w.heap.size (i*5) vs).drew).setCells w.heap.size ((i+1)*5) (cs.drop (i*5)):=by
 have hz2:¬((i:Int)=(n:Int)):=by omega
 have hz3:(c:Int) < (n:Int)+1:=by omega
 have hsz:(Tryz.prog.info? 27).map (·.size)=some 5:=by kernel_rfl
 obtain ⟨i0,hi0,hz0⟩:∃i0,Tryz.prog.info? 27=some i0∧i0.size=5∧i0.bytes=64∧∃z,i0.zero=some z∧z.cells.size=5:=by
  have h:(Tryz.prog.info? 27).map (fun i=>(i.size,i.bytes,i.zero.map fun z=>z.cells.size))=some (5,64,some 5):=by kernel_rfl
  cases hq:Tryz.prog.info? 27 with
  |none=>rw [hq] at h; cases h
  |some x =>
   rw [hq] at h
   simp only [Option.map_some,Option.some.injEq,Prod.mk.injEq] at h
   obtain ⟨h1,h2,h3⟩:=h
   cases hx:x.zero with
   |none=>rw [hx] at h3; cases h3
   |some z=>rw [hx] at h3; exact ⟨x,rfl,h1,h2,z,hx,by simpa using h3⟩
 obtain ⟨hzs,hzb,z,hzz,hzc⟩:=hz0
 have hkk:(n:Int)+1 - (i:Int)=((n+1 - i:Nat):Int):=by omega
 have hik:i+(n+1 - i)=n+1:=by omega
 have hold:(Builtin.firstCells i0.size i (.slice (some ⟨b,off,none⟩) i c)).run Tryz.prog w.drew=.ok (cs.take (i*5)).toArray w.drew:=by
  rw [hzs]
  exact run_firstCells_some w.drew 5 i ⟨b,off,none⟩ i c (cs.take (i*5)) (by rw [List.length_take]; omega) (fun j v hj=>by
   rw [Addr.add_lit]
   rw [List.getElem?_take] at hj
   split at hj
   ·exact hcs j v hj
   ·cases hj)
 have hrz:∀ty,(Builtin.append_ #[79,3] ty #[.slice (some ⟨b,off,none⟩) i c,.int .i64 ((n:Int)+1 - (i:Int))]).run Tryz.prog w =
   .ok (.slice (some ⟨w.heap.size,0,none⟩) (n+1) (grownCap w (n+1) c 27)) (w.drew.alloc (.cells ((cs.take (i*5)).toArray++Builtin.zeroCells z.cells (n+1 - i)++Builtin.zeroCells z.cells (grownCap w (n+1) c 27 - (n+1))) 27)):=fun ty=>by
  have h:=Lib.run_append_grow_zeros w 79 3 ty 27 i0 _ .i64 .i64 Tryz.underlying79 Tryz.underlying3 hi0 hzz (some ⟨b,off,none⟩) i c (cs.take (i*5)) hold (n+1 - i) (by omega) (by omega) (by omega) (by omega) (by rw [hzb]; omega) (by rw [hzb,hik]; exact growslice_fits hroom hbig)
  rw [hik] at h
  rw [hkk]
  exact h
 have hGn:n+1≤grownCap w (n+1) c 27:=grownCap_ge w _ _ _
 have hG63:grownCap w (n+1) c 27≤maxLen:=grownCap_le_maxLen w (n+1) c 27 (by unfold maxLen; omega)
 have hzl:∀k,(Builtin.zeroCells z.cells k).size=k*5:=fun k=>by simp [Builtin.zeroCells,hzc]
 obtain ⟨G,hG⟩:∃G,G=grownCap w (n+1) c 27:=⟨_,rfl⟩
 rw [←hG] at hrz hGn hG63
 obtain ⟨ROW,hROW⟩:∃ROW:Array Value,ROW=(cs.take (i*5)).toArray++Builtin.zeroCells z.cells (n+1 - i)++Builtin.zeroCells z.cells (G - (n+1)):=⟨_,rfl⟩
 rw [←hROW] at hrz
 have htl:(cs.take (i*5)).length=i*5:=by rw [List.length_take]; omega
 have hRs:ROW.size=G*5:=by
  rw [hROW,Array.size_append,Array.size_append,hzl,hzl,List.size_toArray,htl]
  omega
 have hRc:∀(j:Nat) (v:Value),(cs.take (i*5))[j]?=some v→ROW[j]?=some v:=fun j v hj=>by
  have hjl:=(List.getElem?_eq_some_iff.1 hj).1
  rw [hROW,Array.getElem?_append_left (by rw [Array.size_append,List.size_toArray]; omega),Array.getElem?_append_left (by rw [List.size_toArray]; exact hjl),List.getElem?_toArray]
  exact hj
 obtain ⟨W1,hW1⟩:∃W1,W1=w.drew.alloc (.cells ROW 27):=⟨_,rfl⟩
 rw [←hW1] at hrz
 have hN:∀j,j < G*5→(W1.cell? ⟨w.heap.size,j,none⟩).isSome=true:=fun j hj=>by
  rw [hW1,World.cell?_alloc_at (w:=w.drew) ROW _ w.heap.size j rfl,Array.getElem?_eq_getElem (by omega)]; rfl
 have hNf:∀j,W1.frozen? ⟨w.heap.size,j,none⟩=false:=fun j=>by rw [hW1]; exact World.frozen?_alloc_at (w:=w.drew) ROW _ w.heap.size j rfl
 have hOb:∀j v,w.cell? ⟨b,j,none⟩=some v→W1.cell? ⟨b,j,none⟩=some v:=fun j v h=>by rw [hW1,World.cell?_alloc_past (w:=w.drew) _ b j hbw]; exact h
 have hOv:∀j v,w.cell? ⟨vb,j,none⟩=some v→W1.cell? ⟨vb,j,none⟩=some v:=fun j v h=>by rw [hW1,World.cell?_alloc_past (w:=w.drew) _ vb j hvw]; exact h
 have hk2:Nat.min 1 (n+1 - i)=1:=by simp only [Nat.min_def]; split<;>omega
 have hk1:Nat.min (n - i) (n - i)=n - i:=by simp only [Nat.min_def]; split<;>omega
 have hcpA:∀(W:World),(∀x,W.cell? x=W1.cell? x)→(∀x,W.frozen? x=W1.frozen? x)→∀ty dc,(Builtin.copy_ #[79,79] ty #[.slice (some ⟨w.heap.size,i*5,none⟩) (n+1 - i) dc,.slice (some ⟨vb,voff,none⟩) 1 vc]).run Tryz.prog W=.ok (goInt 1) (W.setCells w.heap.size (i*5) vs):=fun W hWc hWf ty dc=>by
  have:=bH2 (P:=Tryz.prog) 5 W 79 79 ty 27 w.heap.size (i*5) (n+1 - i) dc ⟨vb,voff,none⟩ 1 vc vs Tryz.underlying79 hsz (by rw [hvl,hk2])
   (fun j v hj=>by rw [Addr.add_lit,hWc]; exact hOv _ v (hvs j v hj))
   (fun j hj=>by rw [hWc]; exact hN _ (by rw [hvl] at hj; omega)) (fun j hj=>by rw [hWf]; exact hNf _) h1v
  rw [hk2] at this
  exact this
 have hGi:¬(G=i):=by omega
 have hGim:¬(G=i+1):=by omega
 have hci:¬(c=i):=by omega
 have hbN:b≠w.heap.size:=by omega
 have hdl:(cs.drop (i*5)).length=(n - i)*5:=by rw [List.length_drop,hcl,Nat.sub_mul]
 have hcpB:∀(W:World),(∀x,W.cell? x=(W1.setCells w.heap.size (i*5) vs).cell? x)→(∀x,W.frozen? x=(W1.setCells w.heap.size (i*5) vs).frozen? x)→∀ty dc sc,(Builtin.copy_ #[79,79] ty #[.slice (some ⟨w.heap.size,(i+1)*5,none⟩) (n - i) dc,.slice (some ⟨b,off+i*5,none⟩) (n - i) sc]).run Tryz.prog W=.ok (goInt ((n - i:Nat):Int)) (W.setCells w.heap.size ((i+1)*5) (cs.drop (i*5))):=fun W hWc hWf ty dc sc=>by
  have:=bH2 (P:=Tryz.prog) 5 W 79 79 ty 27 w.heap.size ((i+1)*5) (n - i) dc ⟨b,off+i*5,none⟩ (n - i) sc (cs.drop (i*5)) Tryz.underlying79 hsz (by rw [hdl,hk1])
   (fun j v hj=>by
    rw [Addr.add_lit,hWc,World.cell?_setCells_out _ _ _ _ _ (fun h _=>absurd h hbN),Nat.add_assoc]
    exact hOb _ v (hcs (i*5+j) v (by rwa [List.getElem?_drop] at hj)))
   (fun j hj=>by rw [hWc]; exact isSome_setCells _ _ _ _ (fun t ht=>hN _ (by rw [hvl] at ht; omega)) _ (hN _ (by rw [hdl] at hj; omega)))
   (fun j hj=>by rw [hWf,World.frozen?_setCells]; exact hNf _) (fun v hv=>h1c v (List.mem_of_mem_drop hv))
  rw [hk1] at this
  exact this
 subst hW1
 have hE1:∀x,((w.alloc (.cells ROW 27)).drew).cell? x=(w.drew.alloc (.cells ROW 27)).cell? x:=fun x=>rfl
 have hE2:∀x,((w.alloc (.cells ROW 27)).drew).frozen? x=(w.drew.alloc (.cells ROW 27)).frozen? x:=fun x=>rfl
 have hw1:IntKind.i64.wrap ((i:Int)+1)=(i:Int)+1:=by rw [IntKind.wrap_i64]; omega
 have hw2:IntKind.i64.wrap ((n:Int)+1)=(n:Int)+1:=by rw [IntKind.wrap_i64]; omega
 have hb1:(0:Int)≤(i:Int)+1:=by omega
 have hin:i≤n:=by omega
 have htn:((i:Int)+1).toNat=i+1:=by omega
 have hb3:(i:Int)≤(n:Int):=by omega
 have mixed:Tryz.prog.follows .mixedOrders=true:=by kernel_rfl
 have hfin:∃(G':Nat) (R':Array Value),n+1≤G'∧G'≤maxLen∧R'.size=G'*5∧(∀(j:Nat) (v:Value),(cs.take (i*5))[j]?=some v→R'[j]?=some v)∧G'=G∧R'=ROW:=⟨G,ROW,hGn,hG63,hRs,hRc,rfl,rfl⟩
 clear hkk hik hold hROW hG hk1 hk2
 go_enter Tryz.func124,Tryz.ntmps124
 go_wp2_with (first
  |(at_builtin; refine Lib.wpList_append_run _ rfl _ _ _ _ rfl _ _ rfl rfl _ _ (hrz _) ?_)
  |(at_builtin; refine wpList_copy_runI _ rfl _ _ 79 79 rfl _ _ rfl rfl (hcpA _ hE1 hE2 _ _) ?_))
 go_region_law_o (refine step_copy_runI rfl _ _ 79 79 rfl (.slice (some ⟨w.heap.size,(i+1)*5,none⟩) (n - i) (G - (i+1))) (.slice (some ⟨b,off+i*5,none⟩) (n - i) (c - i)) (by simp [Act.eval,Act.put]) (by simp [Act.eval,Act.put]) (hcpB (((w.alloc (.cells ROW 27)).drew.setCells w.heap.size (i*5) vs).drew) (fun _=>rfl) (fun _=>rfl) _ _ _) ?_)
 go_wp2
 go_ret
 exact ⟨G,ROW,hGn,hG63,hRs,hRc,rfl,rfl⟩
set_option maxRecDepth 100000 in
theorem cX4 (l:List Me) (x:Me) (hb:Nat.ble ((l.length+[x].length)*64) 140737488355328=true):Spec Tryz.prog 124 [(1000,.row 5 (l.map J3) 27),(1032,.row 5 ([x].map J3) 27)] [.own 1000,.int l.length,.own 1032] (.own 0) [(0,.row 5 ((l++[x]).map J3) 27),(1000,.gone),(1032,.gone)] [0]:=by
 refine Spec.of u7 Tryz.func124 rfl Tryz.ntmps124 (by kernel_rfl) rfl rfl rfl fun Γ hn=>?_
 refine j6 hn ?_
 refine j6 hn ?_
 refine cK5 (b:=(l.length:Int)) (by simp) rfl rfl ?_
 refine j6 hn ?_
 refine w9 (fun _=>?_)
 refine j5.seqQ fun _ A0 X0 R0=>?_
 refine j6 hn ?_
 refine l8 hn ?_
 refine q9 hn ?_
 refine A0 _ _ ?_
 refine j6 hn ?_
 refine w9 (fun _=>?_)
 refine j5.seqQ fun _ A1 X1 R1=>?_
 refine j6 hn ?_
 refine l8 hn ?_
 refine j3 (b:=decide ((l.length:Int)=(l.length:Int))) (by simp) ?_
 refine j6 hn ?_
 refine Y2 (l2:=[x]) hb (y9 _) ?_
 refine j5.fzAll 1032 rfl ?_
 refine got hn ?_
 refine R1 _ _ ?_
 exact ⟨[(0,25)],_,fm⟩
theorem aT5 (g:Nat) {e:TypeId} {fz:Nat×Nat}:∀(vs:List Value) (o:Nat) (w:World) (cur:Array Value),w.heap[g]?=some (.cells cur e fz)→∃cur',(w.setCells g o vs).heap[g]?=some (.cells cur' e fz)∧cur'.size=cur.size
 |[],_,w,cur,h=>⟨cur,h,rfl⟩
 |v::vs,o,w,cur,h=>by
  have h1:(w.setCell ⟨g,o,none⟩ v).heap[g]?=some (.cells (cur.setIfInBounds o v) e fz):=by
   simp [World.setCell,Array.getElem?_modify,h]
  obtain ⟨cur',a,b⟩:=aT5 g vs (o+1) _ _ h1
  exact ⟨cur',a,by rw [b]; simp⟩
theorem aM4 (g:Nat):∀(vs:List Value) (o:Nat) (w:World),(w.setCells g o vs).os=w.os∧(w.setCells g o vs).tape=w.tape∧(w.setCells g o vs).output=w.output∧(w.setCells g o vs).heap.size=w.heap.size∧∀k,k≠g→(w.setCells g o vs).heap[k]?=w.heap[k]?
 |[],_,w=>⟨rfl,rfl,rfl,rfl,fun _ _=>rfl⟩
 |v::vs,o,w=>by
  obtain ⟨a,b,c,d,e⟩:=aM4 g vs (o+1) (w.setCell ⟨g,o,none⟩ v)
  refine ⟨a,b,c,by rw [World.setCells,d]; simp [World.setCell],fun k hk=>?_⟩
  rw [World.setCells,e k hk]
  simp [World.setCell,Array.getElem?_modify,Ne.symm hk]
theorem Post.eat {c c':Ctx} {w w':World} {i:Nat} {o:Obj} {upd:Os} {news:List Nat} (h:Post c w c' w' [(i,o)] upd news) (j:Nat) (oj:Obj) (hj:lk upd j=none) (hji:j≠i) :
  Post c w c' w' [(i,o),(j,oj)] (upd++[(j,.gone)]) news:=by
 have T:∀b,Touch c [(i,o)] upd b→Touch c [(i,o),(j,oj)] (upd++[(j,.gone)]) b:=by
  rintro b ⟨id,x,h1,h2,h3⟩
  have:id=i∧x=o:=by
   rw [y7] at h1
   split at h1
   ·rename_i e; cases h1; exact ⟨e.symm,rfl⟩
   ·cases h1
  obtain ⟨rfl,rfl⟩:=this
  refine ⟨id,x,p9 _ _ _,?_,h3⟩
  rw [L9]
  cases hu:lk upd id with
  |none=>rw [hu] at h2; cases h2
  |some y=>rfl
 have way:∀id x,lk (upd++[(j,Obj.gone)]) id=some x→lk upd id=some x∨x=.gone:=fun id x hl=>by
  rw [L9] at hl
  cases hu:lk upd id with
  |none =>
   rw [hu] at hl
   right
   have hl:lk [(j,Obj.gone)] id=some x:=by simpa using hl
   rw [y7] at hl
   split at hl
   ·cases hl; rfl
   ·cases hl
  |some y=>rw [hu] at hl; left; simpa using hl
 refine ⟨h.wos,h.tape,h.output,h.size,h.phi,fun b hb=>(h.phiNew b hb).imp (fun h=>h) (Or.imp (fun h=>h) (T b)),fun b hb hn=>h.keep b hb fun ht=>hn (T b ht),h.ctx,⟨fun id x hl=>?_,fun id x b hl hf=>?_,fun id id' x x' b hne hl hl' hf hf'=>?_,h.hok.phi⟩,fun id x b hl hf=>?_⟩
 ·rcases way id x hl with hl|rfl
  ·exact h.hok.rep id x hl
  ·trivial
 ·rcases way id x hl with hl|rfl
  ·exact h.hok.lt id x b hl hf
  ·exact hf.elim
 ·rcases way id x hl with hl|rfl
  ·rcases way id' x' hl' with hl'|rfl
   ·exact h.hok.sep id id' x x' b hne hl hl' hf hf'
   ·exact hf'.elim
  ·exact hf.elim
 ·rcases way id x hl with hl|rfl
  ·exact (h.feet id x b hl hf).imp (fun h=>h) (T b)
  ·exact hf.elim
theorem cI4 {w':World} {g p cap n k:Nat} {e:TypeId} {cur':Array Value} {cs vs:List Value} (hh:w'.heap[g]?=some (.cells cur' e)) (hk:k < n) (hcl:cs.length=n*5) (hvl:vs.length=5) (hcap:n+1≤cap) (hs:cur'.size=(p+cap)*5)
  (h1:∀j,j < k*5→w'.cell? ⟨g,p*5+j,none⟩=cs[j]?) (h2:∀j,j < 5→w'.cell? ⟨g,p*5+(k*5+j),none⟩=vs[j]?) (h3:∀j,k*5≤j→j < n*5→w'.cell? ⟨g,p*5+(5+j),none⟩=cs[j]?) :
  (cur'.toList.drop (p*5)).take ((n+1)*5)=cs.take (k*5)++vs++cs.drop (k*5):=by
 have hc:∀j,w'.cell? ⟨g,j,none⟩=cur'[j]?:=fun j=>by unfold World.cell?; rw [hh]; rfl
 have htl:(cs.take (k*5)).length=k*5:=by rw [List.length_take]; omega
 apply List.ext_getElem?
 intro j
 by_cases hj:j < (n+1)*5
 ·rw [List.getElem?_take_of_lt hj,List.getElem?_drop,Array.getElem?_toList,←hc]
  by_cases a:j < k*5
  ·rw [h1 j a,List.append_assoc,List.getElem?_append_left (by omega),List.getElem?_take_of_lt a]
  ·by_cases b:j < k*5+5
   ·have:=h2 (j - k*5) (by omega)
    rw [show k*5+(j - k*5)=j by omega] at this
    rw [this,List.append_assoc,List.getElem?_append_right (by omega),List.getElem?_append_left (by omega),htl]
   ·have:=h3 (j - 5) (by omega) (by omega)
    rw [show 5+(j - 5)=j by omega] at this
    rw [this,List.getElem?_append_right (by rw [List.length_append]; omega),List.getElem?_drop,List.length_append,htl,hvl]
    congr 1
    omega
 ·rw [List.getElem?_eq_none (by rw [List.length_take]; omega),List.getElem?_eq_none (by rw [List.length_append,List.length_append,htl,List.length_drop]; omega)]
theorem cE8 (k:Nat):∀(css:List (List Value)) (us:List Value),(∀x∈css,x.length=5)→(css.take k++us::css.drop k).flatten=css.flatten.take (k*5)++us++css.flatten.drop (k*5):=by
 induction k with
 |zero=>intro css us _; simp
 |succ k ih =>
  intro css us h
  cases css with
  |nil=>simp
  |cons x css =>
   have hx:=h x (by simp)
   have:=ih css us fun y hy=>h y (by simp [hy])
   have e:(k+1)*5=x.length+k*5:=by omega
   have a:x.take (x.length+k*5)=x:=List.take_of_length_le (by omega)
   have b:x.drop (x.length+k*5)=[]:=List.drop_eq_nil_of_le (by omega)
   rw [List.take_succ_cons,List.drop_succ_cons,List.cons_append,List.flatten_cons,this,List.flatten_cons,e,List.take_append,List.drop_append,a,b]
   simp
theorem cN8 {α:Type} (l:List α) (k:Nat) (x:α) (hk:k≤l.length) (i:Nat):(l.take k++x::l.drop k)[i]?=if i < k then l[i]? else if i=k then some x else l[i - 1]?:=by
 have htl:(l.take k).length=k:=by rw [List.length_take]; omega
 by_cases a:i < k
 ·rw [if_pos a,List.getElem?_append_left (by omega),List.getElem?_take_of_lt a]
 ·rw [if_neg a,List.getElem?_append_right (by omega),htl]
  by_cases b:i=k
  ·rw [if_pos b,b,Nat.sub_self]; rfl
  ·rw [if_neg b,show i - k=(i - k - 1)+1 by omega,List.getElem?_cons_succ,List.getElem?_drop]
   congr 1
   omega
set_option maxHeartbeats 4000000 in
set_option maxRecDepth 100000 in
theorem cX9 (l:List Me) (k:Nat) (x:Me) (hk:k < l.length) (hb:(l.length+1)*64≤140737488355328) :
  Spec Tryz.prog 124 [(1000,.row 5 (l.map J3) 27),(1032,.row 5 ([x].map J3) 27)] [.own 1000,.int k,.own 1032] (.own 0) [(0,.row 5 ((l.take k++x::l.drop k).map J3) 27),(1000,.gone),(1032,.gone)] [0]:=by
 refine ⟨by kernel_rfl,fun id hid=>by rw [List.mem_singleton] at hid; subst hid; rfl,fun c w args hok hr=>?_⟩
 obtain ⟨args⟩:=args
 have hr:F6 c w args [.own 1000,.int k,.own 1032]:=hr
 obtain ⟨v1,as1,rfl,r1,hr⟩:∃v r,args=v::r∧Rd c w v (.own 1000)∧F6 c w r [.int k,.own 1032]:=by cases hr with|cons a b=>exact ⟨_,_,rfl,a,b⟩
 obtain ⟨v2,as2,rfl,r2,hr⟩:∃v r,as1=v::r∧Rd c w v (.int k)∧F6 c w r [.own 1032]:=by cases hr with|cons a b=>exact ⟨_,_,rfl,a,b⟩
 obtain ⟨v3,as3,rfl,r3,hr⟩:∃v r,as2=v::r∧Rd c w v (.own 1032)∧F6 c w r []:=by cases hr with|cons a b=>exact ⟨_,_,rfl,a,b⟩
 obtain rfl:as3=[]:=by cases hr; rfl
 obtain ⟨rfl,_⟩:=r2.int_
 obtain ⟨A1,n1,cap1,rfl,h1,_,hc1⟩:=r1.own_
 obtain ⟨A3,n3,cap3,rfl,h3,_,hc3⟩:=r3.own_
 have k0:lk [(1000,Obj.row 5 (l.map J3) 27),(1032,.row 5 ([x].map J3) 27)] 1000=some (.row 5 (l.map J3) 27):=rfl
 have k2:lk [(1000,Obj.row 5 (l.map J3) 27),(1032,.row 5 ([x].map J3) 27)] 1032=some (.row 5 ([x].map J3) 27):=rfl
 obtain ⟨css,R1,L1,q1⟩:=hok.rep 1000 _ k0
 obtain ⟨css3,R3,L3,q3⟩:=hok.rep 1032 _ k2
 rw [List.length_map] at L1 L3
 rw [h1] at R1
 rw [h3] at R3
 obtain ⟨us,rfl⟩:∃us,css3=[us]:=by
  match css3,L3 with
  |[us],_=>exact ⟨us,rfl⟩
 have hul:us.length=5:=R3.len us (by simp)
 have hu1:∀u∈us,u.oneCell'=true:=R3.one us (by simp)
 have hfl:=aA6 5 css R1.len
 have hcs1:∀v∈css.flatten,v.oneCell'=true:=fun v hv=>by
  obtain ⟨y,hy,hv⟩:=List.mem_flatten.1 hv
  exact R1.one y hy v hv
 rcases R1.lies with ⟨e,h0⟩|⟨b,off,p,cap,cur,e,hh,hle,hpm,hsz,hoff,htk⟩
 ·omega
 rcases R3.lies with ⟨e3,h0⟩|⟨vb,voff,p3,cap',cur3,e3,hh3,hle3,hpm3,hsz3,hoff3,htk3⟩
 ·cases h0
 obtain ⟨rfl,rfl,rfl⟩:A1=some ⟨b,off,none⟩∧n1=css.length∧cap=cap1:=by cases e; exact ⟨rfl,rfl,rfl⟩
 obtain ⟨rfl,rfl,rfl⟩:A3=some ⟨vb,voff,none⟩∧n3=[us].length∧cap'=cap3:=by cases e3; exact ⟨rfl,rfl,rfl⟩
 simp only [List.length_cons,List.length_nil] at hle3 htk3
 obtain rfl:=hoff (by omega)
 obtain rfl:=hoff3 (by omega)
 have hbw:b < w.heap.size:=(Array.getElem?_eq_some_iff.1 hh).1
 have hvw:vb < w.heap.size:=(Array.getElem?_eq_some_iff.1 hh3).1
 have hvb:vb≠b:=by
  rintro rfl
  exact hok.sep 1000 1032 _ _ vb (by decide) k0 k2 (by show (c.hd 1000).ownBlock=some vb; rw [h1]; rfl) (by show (c.hd 1032).ownBlock=some vb; rw [h3]; rfl)
 have hcell:∀j,w.cell? ⟨b,j,none⟩=cur[j]?:=fun j=>by unfold World.cell?; rw [hh]; rfl
 have hcell3:∀j,w.cell? ⟨vb,j,none⟩=cur3[j]?:=fun j=>by unfold World.cell?; rw [hh3]; rfl
 have hcs:∀j v,css.flatten[j]?=some v→w.cell? ⟨b,p*5+j,none⟩=some v:=fun j v hj=>by
  have hjl:=(List.getElem?_eq_some_iff.1 hj).1
  have ht:((cur.toList.drop (p*5)).take (css.length*5))[j]?=(cur.toList.drop (p*5))[j]?:=List.getElem?_take_of_lt (by omega)
  rw [hcell,←Array.getElem?_toList,←List.getElem?_drop,←ht,htk]
  exact hj
 have hvs:∀j v,us[j]?=some v→w.cell? ⟨vb,p3*5+j,none⟩=some v:=fun j v hj=>by
  have hjl:=(List.getElem?_eq_some_iff.1 hj).1
  have ht:((cur3.toList.drop (p3*5)).take (1*5))[j]?=(cur3.toList.drop (p3*5))[j]?:=List.getElem?_take_of_lt (by omega)
  have e:(cur3.toList.drop (p3*5)).take (1*5)=us:=by simpa using htk3
  rw [hcell3,←Array.getElem?_toList,←List.getElem?_drop,←ht,e]
  exact hj
 have hcsN:∀j,j < css.length*5→w.cell? ⟨b,p*5+j,none⟩=css.flatten[j]?:=fun j hj=>by
  rw [List.getElem?_eq_getElem (by omega)]
  exact hcs j _ (List.getElem?_eq_getElem (by omega))
 have hfz:∀j,w.frozen? ⟨b,j,none⟩=false:=fun j=>by unfold World.frozen?; rw [hh]; simp
 have hfz3:∀j,w.frozen? ⟨vb,j,none⟩=false:=fun j=>by unfold World.frozen?; rw [hh3]; simp
 have fin:∀(w':World) (v':Value),w.grownBy w' (some b)→(v'.ownBlock=some b∨∀d,v'.ownBlock=some d→w.heap.size≤d)→M7 w' v' 5 27 (css.take k++us::css.drop k)→(∃A n cap,v'=.slice A n cap∧n≤cap∧cap≤maxLen) →
   ∃v c',Ending.returned v'=.returned v∧Post c w c' w' [(1000,.row 5 (l.map J3) 27),(1032,.row 5 ([x].map J3) 27)] [(0,.row 5 ((l.take k++x::l.drop k).map J3) 27),(1000,.gone),(1032,.gone)] [0]∧Rd c' w' v (.own 0):=by
  intro w' v' hg hat hR ⟨A',n',cp',hv',g1,g2⟩
  have hok1:P9 c w [(1000,.row 5 (l.map J3) 27)]:=hok.sub fun id o hl=>by
   rw [y7] at hl
   split at hl
   ·rename_i e; subst e; exact hl
   ·cases hl
  have hgb:∀d,(c.hd 1000).ownBlock=some d↔∃id o,lk [(1000,Obj.row 5 (l.map J3) 27)] id=some o∧foot c id o d:=fun d =>
   ⟨fun h=>⟨1000,_,p9 _ _ _,h⟩,fun ⟨id,o,hl,hf⟩=>by
    rw [y7] at hl
    split at hl
    ·rename_i e; subst e; cases hl; exact hf
    ·cases hl⟩
  have hob:(c.hd 1000).ownBlock=some b:=by rw [h1]; rfl
  have hP:=Post.append (d:=0) hok1 hgb rfl (by rw [hob]; exact hg) (by rw [hob]; exact hat) (ls:=(l.take k++x::l.drop k).map J3) hR (by simp; omega) (fun i us' cs' hu hc=>by
   rw [List.getElem?_map] at hc
   rw [cN8 css k us (by omega) i] at hu
   rw [cN8 l k x (by omega) i] at hc
   by_cases a:i < k
   ·rw [if_pos a] at hu hc
    exact q1 i us' cs' hu (by rw [List.getElem?_map]; exact hc)
   ·rw [if_neg a] at hu hc
    by_cases a2:i=k
    ·rw [if_pos a2] at hu hc
     cases hu
     cases hc
     exact q3 0 us (J3 x) rfl rfl
    ·rw [if_neg a2] at hu hc
     exact q1 (i - 1) us' cs' hu (by rw [List.getElem?_map]; exact hc))
  refine ⟨v',c.setHd 0 v',rfl,hP.eat 1032 _ rfl (by decide),?_⟩
  subst hv'
  exact .own (n:=n') (cap:=cp') (A:=A') (by simp [Ctx.setHd]) g1 g2
 have hRlen:∀y∈css.take k++us::css.drop k,y.length=5:=fun y hy=>by
  rcases List.mem_append.1 hy with hy|hy
  ·exact R1.len y (List.mem_of_mem_take hy)
  ·rcases List.mem_cons.1 hy with rfl|hy
   ·exact hul
   ·exact R1.len y (List.mem_of_mem_drop hy)
 have hRone:∀y∈css.take k++us::css.drop k,∀u∈y,u.oneCell'=true:=fun y hy=>by
  rcases List.mem_append.1 hy with hy|hy
  ·exact R1.one y (List.mem_of_mem_take hy)
  ·rcases List.mem_cons.1 hy with rfl|hy
   ·exact hu1
   ·exact R1.one y (List.mem_of_mem_drop hy)
 have hRl:(css.take k++us::css.drop k).length=css.length+1:=by simp; omega
 have hdl:(css.flatten.drop (k*5)).length=(css.length - k)*5:=by rw [List.length_drop,hfl,Nat.sub_mul]
 by_cases hroom:css.length+1≤cap
 ·refine (cM8 b (p*5) css.length cap k vb (p3*5) cap' css.flatten us w (by omega) hroom (by unfold maxLen at hpm; omega) hvb hfl hul hcs (fun j hj=>by
    rw [hcell,Array.getElem?_eq_getElem (by omega)]; rfl) (fun j _=>hfz _) hvs hcs1 hu1 27 27 cur3.size cur.size (by unfold World.shape?; rw [hh3]) (by unfold World.shape?; rw [hh]) (by omega) (hfz3 _) (hfz3 _)).mono ?_
  rintro e w' ⟨rfl,rfl⟩
  obtain ⟨c1,b1,s1⟩:=aT5 b (css.flatten.drop (k*5)) (p*5+(k+1)*5) w.drew cur hh
  obtain ⟨c2,b2,s2⟩:=aT5 b us (p*5+k*5) _ c1 b1
  obtain ⟨f1,f2,f3,f4,f5⟩:=aM4 b (css.flatten.drop (k*5)) (p*5+(k+1)*5) w.drew
  obtain ⟨g1,g2,g3,g4,g5⟩:=aM4 b us (p*5+k*5) (w.drew.setCells b (p*5+(k+1)*5) (css.flatten.drop (k*5)))
  refine fin _ _ ⟨g1.trans f1,g2.trans f2,g3.trans f3,by rw [g4,f4]; exact Nat.le_refl _,fun d _ hd=>by
   have hd:d≠b:=fun e=>hd (by rw [e])
   exact (g5 d hd).trans (f5 d hd)⟩ (.inl rfl) ⟨.inr ⟨b,p*5,p,cap,c2,by rw [hRl],b2,by omega,hpm,by rw [s2,s1,hsz],fun _=>rfl,?_⟩,hRlen,hRone⟩ ⟨_,_,_,rfl,hroom,by unfold maxLen at hpm ⊢; omega⟩
  rw [hRl,cE8 k css us R1.len]
  have hs1:∀j,j < (css.length+1)*5→((w.drew).cell? ⟨b,p*5+j,none⟩).isSome=true:=fun j hj=>by
   show (w.cell? ⟨b,p*5+j,none⟩).isSome=true
   rw [hcell,Array.getElem?_eq_getElem (by omega)]; rfl
  have hs2:∀j,j < (css.length+1)*5→((w.drew.setCells b (p*5+(k+1)*5) (css.flatten.drop (k*5))).cell? ⟨b,p*5+j,none⟩).isSome=true:=fun j hj=>isSome_setCells b _ _ _ (fun t ht=>by rw [Nat.add_assoc]; exact hs1 _ (by rw [hdl] at ht; omega)) _ (hs1 j hj)
  refine cI4 b2 (by omega) hfl hul hroom (by rw [s2,s1,hsz]) (fun j hj=>?_) (fun j hj=>?_) (fun j hj hj2=>?_)
  ·rw [World.cell?_setCells_out b _ _ _ _ (fun _ _=>by left; show p*5+j < p*5+k*5; omega),World.cell?_setCells_out b _ _ _ _ (fun _ _=>by left; show p*5+j < p*5+(k+1)*5; omega)]
   exact hcsN j (by omega)
  ·have:=World.cell?_setCells_in b us (p*5+k*5) (w.drew.setCells b (p*5+(k+1)*5) (css.flatten.drop (k*5))) (fun t ht=>by rw [Nat.add_assoc]; exact hs2 _ (by omega)) j (by omega)
   rw [←Nat.add_assoc,this,List.getElem?_eq_getElem (by omega)]
  ·rw [World.cell?_setCells_out b _ _ _ _ (fun _ _=>by right; show p*5+k*5+us.length≤p*5+(5+j); omega)]
   have:=World.cell?_setCells_in b (css.flatten.drop (k*5)) (p*5+(k+1)*5) w.drew (fun t ht=>by rw [Nat.add_assoc]; exact hs1 _ (by rw [hdl] at ht; omega)) (j - k*5) (by rw [hdl]; omega)
   rw [show p*5+(k+1)*5+(j - k*5)=p*5+(5+j) by omega] at this
   rw [this,List.getElem_drop,List.getElem?_eq_getElem (by omega)]
   congr 2
   omega
 ·refine (cS6 b (p*5) css.length cap k vb (p3*5) cap' css.flatten us w (by omega) hle (by omega) (by rw [L1]; exact hb) hbw hvw hfl hul hcs hvs hcs1 hu1).mono ?_
  rintro e w' ⟨G,ROW,z1,z2,z3,z4,rfl,rfl⟩
  have hN0:(w.alloc (.cells ROW 27)).drew.heap[w.heap.size]?=some (.cells ROW 27):=by show (w.heap.push _)[w.heap.size]?=_; rw [Array.getElem?_push,if_pos rfl]
  obtain ⟨c1,b1,s1⟩:=aT5 w.heap.size us (k*5) (w.alloc (.cells ROW 27)).drew ROW hN0
  obtain ⟨c2,b2,s2⟩:=aT5 w.heap.size (css.flatten.drop (k*5)) ((k+1)*5) (((w.alloc (.cells ROW 27)).drew.setCells w.heap.size (k*5) us).drew) c1 b1
  obtain ⟨f1,f2,f3,f4,f5⟩:=aM4 w.heap.size us (k*5) (w.alloc (.cells ROW 27)).drew
  obtain ⟨g1,g2,g3,g4,g5⟩:=aM4 w.heap.size (css.flatten.drop (k*5)) ((k+1)*5) (((w.alloc (.cells ROW 27)).drew.setCells w.heap.size (k*5) us).drew)
  refine fin _ _ ⟨g1.trans f1,g2.trans f2,g3.trans f3,by rw [g4]; show _≤((w.alloc (.cells ROW 27)).drew.setCells w.heap.size (k*5) us).heap.size; rw [f4]; show w.heap.size≤(w.heap.push _).size; rw [Array.size_push]; omega,fun d hd _=>by
   have hne:d≠w.heap.size:=by omega
   refine (g5 d hne).trans ((f5 d hne).trans ?_)
   show (w.heap.push _)[d]?=w.heap[d]?
   rw [Array.getElem?_push,if_neg hne]⟩ (.inr fun d hd=>by cases hd; exact Nat.le_refl _) ⟨.inr ⟨w.heap.size,0,0,G,c2,by rw [hRl],b2,by omega,by omega,by rw [s2,s1,z3,Nat.zero_add],fun _=>rfl,?_⟩,hRlen,hRone⟩ ⟨_,_,_,rfl,z1,z2⟩
  rw [hRl,cE8 k css us R1.len]
  have hs1:∀j,j < G*5→((w.alloc (.cells ROW 27)).drew.cell? ⟨w.heap.size,j,none⟩)=ROW[j]?:=fun j hj=>by unfold World.cell?; rw [hN0]; rfl
  have hi1:∀j,j < G*5→((w.alloc (.cells ROW 27)).drew.cell? ⟨w.heap.size,j,none⟩).isSome=true:=fun j hj=>by rw [hs1 j hj,Array.getElem?_eq_getElem (by omega)]; rfl
  have hi2:∀j,j < G*5→((((w.alloc (.cells ROW 27)).drew.setCells w.heap.size (k*5) us).drew).cell? ⟨w.heap.size,j,none⟩).isSome=true:=fun j hj=>isSome_setCells _ us (k*5) _ (fun t ht=>hi1 _ (by omega)) _ (hi1 j hj)
  refine cI4 (p:=0) (cap:=G) b2 (by omega) hfl hul z1 (by rw [s2,s1,z3,Nat.zero_add]) (fun j hj=>?_) (fun j hj=>?_) (fun j hj hj2=>?_)
  ·rw [World.cell?_setCells_out _ _ _ _ _ (fun _ _=>by left; show 0*5+j < (k+1)*5; omega)]
   show ((w.alloc (.cells ROW 27)).drew.setCells w.heap.size (k*5) us).cell? ⟨w.heap.size,0*5+j,none⟩=_
   rw [World.cell?_setCells_out _ _ _ _ _ (fun _ _=>by left; show 0*5+j < k*5; omega),Nat.zero_mul,Nat.zero_add,hs1 j (by omega)]
   have hj3:(css.flatten.take (k*5))[j]?=some css.flatten[j]:=by rw [List.getElem?_take_of_lt hj,List.getElem?_eq_getElem (by omega)]
   rw [z4 j _ hj3,List.getElem?_eq_getElem (by omega)]
  ·rw [World.cell?_setCells_out _ _ _ _ _ (fun _ _=>by left; show 0*5+(k*5+j) < (k+1)*5; omega)]
   show ((w.alloc (.cells ROW 27)).drew.setCells w.heap.size (k*5) us).cell? ⟨w.heap.size,0*5+(k*5+j),none⟩=_
   have:=World.cell?_setCells_in w.heap.size us (k*5) (w.alloc (.cells ROW 27)).drew (fun t ht=>hi1 _ (by omega)) j (by omega)
   rw [Nat.zero_mul,Nat.zero_add,this,List.getElem?_eq_getElem (by omega)]
  ·have:=World.cell?_setCells_in w.heap.size (css.flatten.drop (k*5)) ((k+1)*5) (((w.alloc (.cells ROW 27)).drew.setCells w.heap.size (k*5) us).drew) (fun t ht=>hi2 _ (by rw [hdl] at ht; omega)) (j - k*5) (by rw [hdl]; omega)
   rw [show (k+1)*5+(j - k*5)=0*5+(5+j) by omega] at this
   rw [this,List.getElem_drop,List.getElem?_eq_getElem (by omega)]
   congr 2
   omega
set_option maxRecDepth 100000 in
theorem bQ0 (N:Nat) (l:List Me) (k:Int) (v:List Me) (r:List Me) (h:aY6 N l k v=some r):Spec Tryz.prog 124 [(1000,.row 5 (l.map J3) 27),(1032,.row 5 (v.map J3) 27)] [.own 1000,.int k,.own 1032] (.own 0) [(0,.row 5 (r.map J3) 27),(1000,.gone),(1032,.gone)] [0]:=by
 unfold aY6 at h
 match v,h with
 |[x],h =>
  obtain ⟨hg,h⟩:=C8 h
  obtain rfl:=Option.some.inj h
  simp only [Bool.and_eq_true,decide_eq_true_eq] at hg
  obtain ⟨⟨h0,h1⟩,h2⟩:=hg
  obtain ⟨k,rfl⟩:∃m:Nat,k=m:=⟨k.toNat,by omega⟩
  rw [Int.toNat_natCast]
  by_cases e:k=l.length
  ·subst e
   rw [List.take_length,List.drop_length]
   exact cX4 l x h2
  ·exact cX9 l k x (by omega) (Nat.le_of_ble_eq_true h2)
end Go.Proofs.YtibjcppjfkamhaaGreatDoor
