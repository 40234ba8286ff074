/- The library's Itoa, Atoi, Cut by the shelf's contracts; strings.Builder at a struct that begins with it, by hand. -/
import Derived.Test.YtibjcppjfkamhaaGreatDoorSh
import Derived.Test.YtibjcppjfkamhaaGreatDoorHd
import Derived.Test.YtibjcppjfkamhaaGreatDoorGo
import Derived.Test.YtibjcppjfkamhaaGreatDoorM
import Derived.Lib.ItoaLen
import Derived.Lib.Builder
import Derived.Lib.UnsafeStr
import Derived.Lib.Walk
import Derived.WalkKit
import Derived.Laws.Externs
import Derived.Shelf.RegionOpenPlain
import Derived.Lib.AtoiAllCases
namespace Go.Proofs.YtibjcppjfkamhaaGreatDoor
open Go.RowKit
set_option linter.unusedVariables false
structure GLw (w:World):Prop where
 tab : Lib.TabIs Tryz.prog w "internal/strconv.uint64pow10" .u64 Lib.pow10Tab
 syn:∃ev,w.cell? ⟨1,0,none⟩=some ev∧(ev=.nilIface∨∃te pe,ev=.iface te pe)
 rng:∃ev,w.cell? ⟨2,0,none⟩=some ev∧(ev=.nilIface∨∃te pe,ev=.iface te pe)
 mx:∃m,w.cell? ⟨3,0,none⟩=some (.int .i64 m)
def GLs : List Nat:=[0,1,2,3]
def GL : Obj:=.glb GLs GLw
theorem GL.at {c:Ctx} {w:World} {id:Nat} (h:aH8 c w id GL):GLw w:=by
 obtain ⟨_,w0,⟨t,⟨s,s1,s2⟩,⟨r,r1,r2⟩,⟨m,m1⟩⟩,hb⟩:=h
 have cell:∀b∈GLs,∀v,w0.cell? ⟨b,0,none⟩=some v→w.cell? ⟨b,0,none⟩=some v:=fun b hb' v hv=>(World.cell?_of_block (w:=w0) (a:=⟨b,0,none⟩) (hb b hb')).trans hv
 refine ⟨?_,⟨s,cell _ (by simp [GLs]) s s1,s2⟩,⟨r,cell _ (by simp [GLs]) r r1,r2⟩,⟨m,cell _ (by simp [GLs]) _ m1⟩⟩
 have hg : Tryz.prog.globalNamed "internal/strconv.uint64pow10" = some 0 := by kernel_rfl
 unfold Lib.TabIs World.var? at t ⊢
 simp only [hg,Option.bind_some] at t ⊢
 rw [hb _ (by simp [GLs])]
 exact t
theorem Post.ofBelow {c:Ctx} {w w':World} {need:Os} (h:Below w.heap.size w w') (hphi:∀b,c.Φ b→b < w.heap.size):Post c w c w' need [] [] :=
 ⟨h.os,h.tape,h.output,h.size,fun _ h=>h,fun _ h=>.inl h,fun b hb _=>h.block b hb,fun _ _=>⟨rfl,rfl⟩,⟨fun _ _ h=>(by cases h),fun _ _ _ h=>(by cases h),fun _ _ _ _ _ _ h=>(by cases h),fun b hb=>Nat.lt_of_lt_of_le (hphi b hb) h.size⟩,fun _ _ _ h=>(by cases h)⟩
theorem cA8 {c:Ctx} {w:World} {args:Array Value} {a:AV} (h:F6 c w args.toList [a]):∃v,args=#[v]∧Rd c w v a:=by
 obtain ⟨l⟩:=args
 have h:F6 c w l [a]:=h
 cases h with|cons h0 t=>cases t; exact ⟨_,rfl,h0⟩
theorem dA2 {c:Ctx} {w:World} {args:Array Value} {a b:AV} (h:F6 c w args.toList [a,b]):∃u v,args=#[u,v]∧Rd c w u a∧Rd c w v b:=by
 obtain ⟨l⟩:=args
 have h:F6 c w l [a,b]:=h
 cases h with|cons h0 t=>cases t with|cons k t=>cases t; exact ⟨_,_,rfl,h0,k⟩
theorem cK9 (n:Int) (hn:Z8 n):(Lib.itoa n).length≤21:=by
 unfold Z8 at hn
 exact Lib.itoa_length_le n hn.1 hn.2
theorem bH3 (N:Nat) (n:Int) (r:ByteArray) (h:strconv_Itoa N n=some r):Spec Tryz.prog 50 [(2000,GL)] [.int n] (.str r) [] []:=by
 obtain rfl:=Option.some.inj h
 refine ⟨by kernel_rfl,fun _ h=>(by cases h),fun c w args hok hr=>?_⟩
 obtain ⟨v,rfl,hv⟩:=cA8 hr
 obtain ⟨rfl,hn⟩:=hv.int_
 refine (Tryz.strconv_Itoa n hn.1 hn.2 w (GL.at (hok.rep 2000 GL rfl)).tab).mono ?_
 rintro e w' ⟨rfl,k,os,rfl⟩
 refine ⟨_,c,rfl,Post.ofBelow ⟨rfl,rfl,rfl,by simp [Go.Sort.grow],fun b hb=>?_⟩ hok.phi,.fz (.str ?_)⟩
 ·show (w.heap++os)[b]?=_
  rw [Array.getElem?_append_left hb]
 ·have:=cK9 n hn
  show (Lib.itoa n).toArray.size≤_
  simp only [List.size_toArray,maxLen]
  omega
theorem bytesWorld_below (w:World) (e:TypeId) (s:ByteArray):Below w.heap.size w (Lib.bytesWorld w e s):=⟨rfl,rfl,rfl,by rw [Lib.bytesWorld_size]; omega,fun b hb=>Lib.bytesWorld_at_old w e s b hb⟩
theorem strconv_Atoi_ok (N:Nat) (s:ByteArray) (r:Int×Bool) (h:strconv_Atoi N s=some r):Spec Tryz.prog 87 [(2000,GL)] [.str s] (.tup [.int r.1,.ifc r.2]) [] []:=by
 unfold strconv_Atoi at h
 obtain ⟨hg,h⟩:=C8 h
 have hl:=of_decide_eq_true hg
 have h:=Option.some.inj h
 refine ⟨by kernel_rfl,fun _ h=>(by cases h),fun c w args hok hr=>?_⟩
 obtain ⟨v,rfl,hv⟩:=cA8 hr
 obtain ⟨rfl,hs⟩:=hv.str_
 have G:=GL.at (hok.rep 2000 GL rfl)
 cases hc:Lib.atoiAll s.data.toList with
 |ok x =>
  rw [hc] at h
  subst h
  refine (Tryz.strconv_Atoi_ok s (by omega) x hc w).mono ?_
  rintro e w' ⟨rfl,hw⟩
  have hb:=Lib.atoiAll_bounds hc
  refine ⟨_,c,rfl,Post.ofBelow ?_ hok.phi,.fz (Rf.tup (us:=[_,_]) (.cons (.int ⟨by omega,by omega⟩) (.cons .ifcn .nil)))⟩
  rcases hw with rfl|⟨t,rfl⟩
  ·exact Below.refl _ _
  ·exact bytesWorld_below w _ t
 |«syntax» =>
  rw [hc] at h
  subst h
  obtain ⟨ev,h1,h2⟩:=G.syn
  refine (Tryz.strconv_Atoi_syntax s hl hc ev w h1 h2).mono ?_
  rintro e w' ⟨M,rfl,_,_,hb⟩
  exact ⟨_,c,rfl,Post.ofBelow hb hok.phi,.fz (Rf.tup (us:=[_,_]) (.cons (.int ⟨by decide,by decide⟩) (.cons (.ifcs _ _) .nil)))⟩
 |range =>
  rw [hc] at h
  subst h
  obtain ⟨ev,h1,h2⟩:=G.rng
  refine (Tryz.strconv_Atoi_range s hl hc ev w h1 h2).mono ?_
  rintro e w' ⟨M,rfl,_,_,hb⟩
  have hsat:Z8 (Lib.atoiSat s.data.toList):=by unfold Lib.atoiSat Z8; split<;>omega
  exact ⟨_,c,rfl,Post.ofBelow hb hok.phi,.fz (Rf.tup (us:=[_,_]) (.cons (.int hsat) (.cons (.ifcs _ _) .nil)))⟩
theorem cW7 (s sep:List UInt8):(Lib.cut s sep).1.length≤s.length∧(Lib.cut s sep).2.1.length≤s.length:=by
 unfold Lib.cut
 split<;>simp<;>omega
theorem b27 (N:Nat) (s sep:ByteArray) (r:ByteArray×ByteArray×Bool) (h:strings_Cut N s sep=some r):Spec Tryz.prog 112 [(2000,GL)] [.str s,.str sep] (.tup [.str r.1,.str r.2.1,.bool r.2.2]) [] []:=by
 unfold strings_Cut at h
 obtain ⟨hg,h⟩:=C8 h
 have hl:=of_decide_eq_true hg
 obtain rfl:=Option.some.inj h
 refine ⟨by kernel_rfl,fun _ h=>(by cases h),fun c w args hok hr=>?_⟩
 obtain ⟨u,v,rfl,hu,hv⟩:=dA2 hr
 obtain ⟨rfl,hs⟩:=hu.str_
 obtain ⟨rfl,_⟩:=hv.str_
 obtain ⟨m,hm⟩:=(GL.at (hok.rep 2000 GL rfl)).mx
 refine (Tryz.strings_Cut s sep m w hl hm).mono ?_
 rintro e w' ⟨rfl,k,rfl⟩
 obtain ⟨c1,c2⟩:=cW7 s.data.toList sep.data.toList
 have hsz:s.data.toList.length=s.size:=by rw [Array.length_toList]; rfl
 refine ⟨_,c,rfl,Post.ofBelow ⟨rfl,rfl,rfl,Nat.le_refl _,fun _ _=>rfl⟩ hok.phi,.fz (Rf.tup (us:=[_,_,_]) (.cons (.str ?_) (.cons (.str ?_) (.cons (.bool _) .nil))))⟩
 ·show (Lib.cut s.data.toList sep.data.toList).1.toArray.size≤_
  rw [List.size_toArray]; omega
 ·show (Lib.cut s.data.toList sep.data.toList).2.1.toArray.size≤_
  rw [List.size_toArray]; omega
theorem cE0 : ∃j,Tryz.prog.info? 97=some j∧j.size=2:=Option.map_eq_some_iff.1 (show (Tryz.prog.info? 97).map (·.size)=some 2 by kernel_rfl)
theorem cS0 : liesAt Tryz.prog Tryz.prog.depth 99 (2 / Tryz.prog.cellsOf 99) 0 97 1=true:=by kernel_rfl
set_option maxHeartbeats 1000000 in
set_option maxRecDepth 100000 in
theorem b36 (b:Nat) (w:World) (h0:w.cell? ⟨b,0,none⟩=some (.pointer (some ⟨b,0,none⟩))) :
  Calls Tryz.prog 110 #[.pointer (some ⟨b,0,none⟩)] w fun e w'=>e=.returned (.tuple #[])∧w'=w:=by
 obtain ⟨j,hj,_⟩:=cE0
 go_enter Tryz.func110,Tryz.ntmps110
 go_wp2
 rw [Lib.run_neq_ptr_same w _ Tryz.underlying95 hj]
 go_wp2
 go_end0
 exact ⟨rfl,rfl⟩
set_option maxHeartbeats 1000000 in
set_option maxRecDepth 100000 in
theorem bZ0 (b:Nat) (w:World) (h0:w.cell? ⟨b,0,none⟩=some (.pointer none)) (hsh:w.shape? b=some (99,2)) (hfz:w.frozen? ⟨b,0,none⟩=false) :
  Calls Tryz.prog 110 #[.pointer (some ⟨b,0,none⟩)] w fun e w'=>e=.returned (.tuple #[])∧w'=w.setCell ⟨b,0,none⟩ (.pointer (some ⟨b,0,none⟩)):=by
 obtain ⟨j,hj,hjs⟩:=cE0
 go_enter Tryz.func110,Tryz.ntmps110
 go_wp2
 rw [Lib.run_to_unsafe w ⟨b,0,none⟩ Tryz.underlying95 Tryz.underlying228 hj (by rw [hjs]; decide) hsh (Nat.zero_lt_succ 1)]
 simp only [Result.andThen]
 rw [Oper.upon_value]
 go_wp2
 rw [run_callFunc_extern Tryz.func146 (by kernel_rfl) (by kernel_rfl) (by kernel_rfl) (e:=Extern.AbiNoEscape.same) (by kernel_rfl)]
 rw [Lib.run_noEscape]
 simp only [Result.andThen]
 rw [Oper.upon_value]
 go_wp2
 rw [Lib.run_from_unsafe w ⟨b,0,none⟩ Tryz.underlying228 Tryz.underlying95 hj hsh cS0]
 simp only [Result.andThen]
 rw [Oper.upon_value]
 go_wp2
 go_end0
 exact ⟨rfl,rfl⟩
theorem bR0 (id j:Nat):Spec Tryz.prog 110 [(id,.box [.np id,.own j] 99)] [.ptr id 0] (.tup []) [(id,.box [.np id,.own j] 99)] []:=by
 refine ⟨by kernel_rfl,fun _ h=>(by cases h),fun c w args hok hr=>?_⟩
 obtain ⟨v,rfl,hv⟩:=cA8 hr
 obtain rfl:=hv.ptr_
 obtain ⟨us,hb,hu⟩:=hok.rep id _ (p9 _ _ _)
 have hlt:=(Array.getElem?_eq_some_iff.1 hb).1
 cases hu with|cons h0 t=>cases t with|cons h1 t=>cases t with|nil =>
 rename_i p q
 have c0:w.cell? ⟨c.μ id,0,none⟩=some p:=by rw [Lib.cell_of_heap hb]; rfl
 have key:∀w':World,w'.heap[c.μ id]?=some (.cells [.pointer (some ⟨c.μ id,0,none⟩),q].toArray 99)→(∀k,k≠c.μ id→w'.heap[k]?=w.heap[k]?)→w'.heap.size=w.heap.size→w'.os=w.os→w'.tape=w.tape→w'.output=w.output →
   ∃v c',Ending.returned (Value.tuple #[])=.returned v∧Post c w c' w' [(id,.box [.np id,.own j] 99)] [(id,.box [.np id,.own j] 99)] []∧Rd c' w' v (.tup []):=fun w' a1 a2 a3 a4 a5 a6 =>
  ⟨_,c,rfl,Post.write (us':=[_,q]) hok a1 (.cons (.nps rfl) (.cons h1 .nil)) a2 a3 a4 a5 a6,.tup .nil⟩
 rcases h0.np_ with rfl|rfl
 ·refine (bZ0 (c.μ id) w c0 (by simp [World.shape?,hb]) (Lib.frozen_of_heap hb 0)).mono ?_
  rintro e w' ⟨rfl,rfl⟩
  refine key _ ?_ (fun k hk=>Below.heap_setCell w _ _ k hk) ?_ rfl rfl rfl
  ·simp [World.setCell,Array.getElem?_modify,hb]
  ·simp [World.setCell]
 ·refine (b36 (c.μ id) w c0).mono ?_
  rintro e w' ⟨rfl,rfl⟩
  exact key _ hb (fun _ _=>rfl) rfl rfl rfl rfl
theorem bS1 {P:Program} (w:World):∀(l:List Int) (a:Addr) (acc:ByteArray),(∀j x,l[j]?=some x→w.cell? (a.add j)=some (.int .u8 x))→(loadBytes a acc l.length).run P w=.ok ⟨acc.data++(l.map fun n=>UInt8.ofNat n.toNat).toArray⟩ w
 |[],a,acc,_=>by simp [loadBytes]
 |x::l,a,acc,h=>by
  have h0:w.cell? a=some (.int .u8 x):=by simpa [Addr.add] using h 0 x rfl
  have ih:=bS1 (P:=P) w l (a.add 1) (acc.push (UInt8.ofNat x.toNat)) (fun j y hy=>by
   have:=h (j+1) y (by simpa using hy)
   have e:(a.add 1).add j=a.add (j+1):=by
    unfold Addr.add
    by_cases hj:j=0
    ·subst hj; simp
    ·simp [hj]; omega
   rw [e]; exact this)
  simp only [List.length_cons,loadBytes,Sem.run_bind,run_load,h0,Result.andThen]
  rw [show x.toNat.toUInt8=UInt8.ofNat x.toNat from rfl,ih]
  congr 1
  apply ByteArray.ext
  simp [ByteArray.push]
theorem cH0 {P:Program} {e:TypeId} (hc:P.cellsOf e=1) (count off n:Nat) (hn:off+n≤count):liesAt P P.depth e count off e n=true:=by
 have hd:P.depth=(2*(P.types.size+Made.depth)+1)+1:=rfl
 rw [hd]
 simp only [liesAt,Bool.or_eq_true]
 left
 rw [hd]
 simp [rowAt,hc,hn,sameLayout,Nat.mod_one]
theorem bK1 {P:Program} (w:World) (pt it ty e:TypeId) (hp:P.underlying pt=some (.pointer e)) (hc:P.cellsOf e=1) (g x cells:Nat) (hsh:w.shape? g=some (e,cells)) (l:List Int) (h0:l.length≠0) (hn:x+l.length≤cells) (h63:l.length≤9223372036854775807)
  (hcell:∀j y,l[j]?=some y→w.cell? ((⟨g,x,none⟩:Addr).add j)=some (.int .u8 y)) :
  (Builtin.unsafeString_ #[pt,it] ty #[.pointer (some ⟨g,x,none⟩),.int .i64 l.length]).run P w=.ok (.string (strOfNums l)) (w.freeze ⟨g,x,none⟩ l.length):=by
 have hlb:=bS1 (P:=P) w l ⟨g,x,none⟩ .empty hcell
 have hlies:=cH0 (P:=P) hc (cells / P.cellsOf e) x l.length (by rw [hc]; simpa using hn)
 have h63':¬(9223372036854775807:Int) < (l.length:Int):=by omega
 have hdef:Builtin.unsafeString_ #[pt,it] ty #[.pointer (some ⟨g,x,none⟩),.int .i64 l.length] =
   (do
    let n ←asInt (.int .i64 l.length)
    if n < 0 then runtimePanic (.error "unsafe.String: len out of range")
    if n > IntKind.i64.max then unsupported (.unsafePointer "String: a length above the largest int")
    if n=0 then pure (.string .empty)
    else if ←variablesAt ⟨g,x,none⟩ (←elemOf pt) n.toNat then do
     let s ←loadBytes ⟨g,x,none⟩ .empty n.toNat
     freeze ⟨g,x,none⟩ n.toNat
     pure (.string s)
    else unsupported (.unsafePointer "String: not so many bytes at ptr")) := rfl
 rw [hdef]
 have hmax:IntKind.i64.max=9223372036854775807:=rfl
 have hneg:¬(l.length:Int) < 0:=by omega
 have e0:(⟨ByteArray.empty.data++(l.map fun n=>UInt8.ofNat n.toNat).toArray⟩:ByteArray)=strOfNums l:=by
  have he0:ByteArray.empty.data=#[]:=rfl
  rw [he0]
  simp [strOfNums]
 rw [e0] at hlb
 simp [asInt,asIntOf,hmax,h63',hneg,h0,variablesAt,hsh,elemOf,run_underlying hp,hlies,hlb]
set_option maxHeartbeats 1000000 in
set_option maxRecDepth 100000 in
theorem bT6 (b g x cap:Nat) (p:Value) (cur:Array Value) (l:List Int) (w:World) (hbk:w.heap[b]?=some (.cells #[p,.slice (some ⟨g,x,none⟩) l.length cap] 99)) (h0:l.length≠0) (hcap:l.length≤cap) (hm:l.length≤9223372036854775807)
  (hg:w.heap[g]?=some (.cells cur 5)) (hx:x+l.length≤cur.size) (hcell:∀j y,l[j]?=some y→w.cell? ((⟨g,x,none⟩:Addr).add j)=some (.int .u8 y)) :
  Calls Tryz.prog 48 #[.pointer (some ⟨b,0,none⟩)] w fun e w'=>e=.returned (.string (strOfNums l))∧w'=w.drew.freeze ⟨g,x,none⟩ l.length:=by
 have c1:w.drew.cell? ⟨b,1,none⟩=some (.slice (some ⟨g,x,none⟩) l.length cap):=by
  have:w.drew.heap[b]?=some (.cells #[p,.slice (some ⟨g,x,none⟩) l.length cap] 99 (0,0)):=hbk
  rw [Lib.cell_of_heap this]; rfl
 have hSD:(Builtin.unsafeSliceData_ #[43] 147 #[.slice (some ⟨g,x,none⟩) l.length cap]).run Tryz.prog w.drew=.ok (.pointer (some ⟨g,x,none⟩)) w.drew :=
  Lib.run_unsafeSliceData_row _ _ _ _ _ _ (by omega)
 have hUS:(Builtin.unsafeString_ #[147,3] 9 #[.pointer (some ⟨g,x,none⟩),.int .i64 l.length]).run Tryz.prog w.drew=.ok (.string (strOfNums l)) (w.drew.freeze ⟨g,x,none⟩ l.length) :=
  bK1 w.drew 147 3 9 5 Tryz.underlying147 (by kernel_rfl) g x cur.size (by have hg':w.drew.heap[g]?=some (.cells cur 5 (0,0)):=hg; simp [World.shape?,hg']) l h0 hx hm hcell
 have mixed:Tryz.prog.follows .mixedOrders=true:=by kernel_rfl
 go_enter Tryz.func48,Tryz.ntmps48
 go_wp2
 go_region_o
 all_goals (go_wp2; go_ret; exact ⟨rfl,rfl⟩)
theorem bU8 (l:List Int) (id j:Nat) (hl:(!l.isEmpty)=true) (hne:Nat.beq id j=false:=by rfl):Spec Tryz.prog 48 [(id,.box [.np id,.own j] 99),(j,.row 1 (l.map fun n=>[AV.ik .u8 n]) 5)] [.ptr id 0] (.str (strOfNums l)) [(id,.gone),(j,.gone)] []:=by
 have hne:=J2 hne
 have h0:l.length≠0:=by cases l<;>simp_all
 refine ⟨by kernel_rfl,fun _ h=>(by cases h),fun c w args hok hr=>?_⟩
 obtain ⟨v,rfl,hv⟩:=cA8 hr
 obtain rfl:=hv.ptr_
 have kj:lk [(id,Obj.box [.np id,.own j] 99),(j,.row 1 (l.map fun n=>[AV.ik .u8 n]) 5)] j=some (.row 1 (l.map fun n=>[AV.ik .u8 n]) 5):=by rw [G9 _ _ hne,p9]
 obtain ⟨us,hb,hu⟩:=hok.rep id _ (p9 _ _ _)
 obtain ⟨css,q1,q2,q3⟩:=hok.rep j _ kj
 rw [List.length_map] at q2
 cases hu with|cons hu0 t=>cases t with|cons hu1 t=>cases t with|nil =>
 rename_i p q
 obtain ⟨A,n,cap,rfl,e2,e3,e4⟩:=hu1.own_
 have el:∀i y,l[i]?=some y→css[i]?=some [Value.int .u8 y]:=fun i y hy=>by
  have hi:=(List.getElem?_eq_some_iff.1 hy).1
  have hc:css[i]?=some css[i]:=List.getElem?_eq_getElem (by omega)
  have:=q3 i css[i] [AV.ik .u8 y] hc (by simp [hy])
  rw [hc]
  generalize css[i]=u at this
  cases this with|cons h t=>cases t with|nil=>cases h with|ik=>rfl
 rcases q1.lies with ⟨_,hn⟩|⟨g,x,pp,cap',cur,hv,hg,a1,a2,a3,hx,a4⟩
 ·omega
 ·have hxp:=hx (by omega)
  rw [e2] at hv
  injection hv with v1 v2 v3
  subst v1 v2 v3
  have hcell:∀i y,l[i]?=some y→w.cell? ((⟨g,x,none⟩:Addr).add i)=some (.int .u8 y):=fun i y hy=>by
   obtain ⟨g',x',cap2,hv2,hg2,hcc⟩:=q1.cells (el i y hy)
   rw [e2] at hv2
   injection hv2 with w1 _ _
   injection w1 with w1
   injection w1 with w1 w2 _
   subst w1 w2
   have:=hcc 0 _ rfl
   rw [aF4]
   simpa using this
  rw [q2] at hb e2
  refine (bT6 (c.μ id) g x cap p cur l w hb h0 (by omega) (by simp only [maxLen] at e4; omega) hg (by omega) hcell).mono ?_
  rintro e w' ⟨rfl,rfl⟩
  have hgf:foot c j (.row 1 (l.map fun n=>[AV.ik .u8 n]) 5) g:=by show (c.hd j).ownBlock=some g; rw [e2]; rfl
  have hsz:∀m,(w.drew.freeze ⟨g,x,none⟩ m).heap.size=w.heap.size:=fun m=>by unfold World.freeze; split<;>first|rfl|simp
  refine ⟨_,c,rfl,⟨?_,?_,?_,by rw [hsz]; exact Nat.le_refl _,fun _ h=>h,fun _ h=>.inl h,fun b hb' hnt=>?_,fun _ _=>⟨rfl,rfl⟩,⟨fun i o hl=>?_,fun i o b hl hf=>?_,fun i i' o o' b _ hl _ hf=>?_,fun b hb'=>by rw [hsz]; exact hok.phi b hb'⟩,fun i o b hl hf=>?_⟩,.fz (.str ?_)⟩
  ·unfold World.freeze; split<;>rfl
  ·unfold World.freeze; split<;>rfl
  ·unfold World.freeze; split<;>rfl
  ·have hbg:b≠g:=fun e=>hnt ⟨j,_,kj,by rw [G9 _ _ hne,p9]; rfl,e▸hgf⟩
   unfold World.freeze
   split
   ·rfl
   ·simp only [Array.getElem?_modify]
    rw [if_neg (fun e=>hbg e.symm)]
    rfl
  ·rcases lk2 hl with ⟨rfl,rfl⟩|⟨_,rfl,rfl⟩<;>trivial
  ·rcases lk2 hl with ⟨rfl,rfl⟩|⟨_,rfl,rfl⟩<;>exact hf.elim
  ·rcases lk2 hl with ⟨rfl,rfl⟩|⟨_,rfl,rfl⟩<;>exact hf.elim
  ·rcases lk2 hl with ⟨rfl,rfl⟩|⟨_,rfl,rfl⟩<;>exact hf.elim
  ·rw [strOfNums_size]; omega
end Go.Proofs.YtibjcppjfkamhaaGreatDoor
