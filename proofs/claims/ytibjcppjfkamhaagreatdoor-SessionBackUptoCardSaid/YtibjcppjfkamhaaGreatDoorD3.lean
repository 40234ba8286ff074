import Derived.Test.YtibjcppjfkamhaaGreatDoorC
set_option linter.unusedVariables false
set_option linter.defProp false
set_option linter.unusedSimpArgs false
namespace Go.Proofs.YtibjcppjfkamhaaGreatDoor
open Go.RowKit Go.Proofs.Tryz
open _root_.And renaming intro->AN
open _root_.Bool renaming and_eq_true->IT
open _root_.ByteArray renaming empty->BY
open _root_.List renaming getElem?_eq_some_iff->Lx,replicate->MC,map->MF,mem_of_getElem?->MI,all_eq_true->MK,length_map->MP,getElem?_set->MQ,getElem?_append_right->MS,length_take->Mk
open _root_.Nat renaming ble->IN,le_refl->It,le_of_ble_eq_true->MR,mul_le_mul_right->Ml
open _root_.Or renaming inl->MA
section
set_option maxHeartbeats 40000000
set_option maxRecDepth 100000
def wX {N r} (h:p5 N =some r):Spec prog 30 [] [] (.agg (O3 r)) [] []:=by
 refine so func30 ntmps30 fun b hn=>?_;unfold p5 at h;refine B [3,3] fun _ a h=>?_;refine cA (BM N _ a) ?_;exact Sr [7]
def qw {N a0 r} (h:kJ N a0=some r):Spec prog 36 [] [.str a0] (.bool r) [] []:=by
 refine so func36 ntmps36 fun m hn=>?_;unfold kJ at h;refine S [3,2,2] ?_;refine Jb 11 hn h [0] [] (fun _ h g=>?_) ?_
 ·refine I [5,18] ?_ ?_<;>intro _ h
  ·exact Sj [0]
  exact Sj [0,18,0]
 intro j h;refine I [4] ?_ ?_<;>intro _ h
 ·exact Sr [3,7]
 refine S [1,2,3,18] ?_;refine j6.cc 13 rfl (fun b=>?_);refine LU e1 hn () (fun l k v=>mo N a0 l k) h (fun e v=>[(14,.int (e:Int))]) (fun e v=>[]) [0,13] [] [] (fun s=>[]) (fun s=>[]) [] [] ?_ ?_ ?_
 ·intro _ g e _ h _;rw[mo] at h;exact Sj [3,2,4,0,20]
 ·intro _ g e _ f h a _;rw[mo] at h;refine S [3,2,4,0,1,2,6,3,2] ?_;refine Jb 26 hn h [0,13,14] [] (fun _ h g=>?_) ?_
  ·refine B [5] fun _ c h=>?_;refine AS c ?_;refine I [10] ?_ ?_<;>intro _ h
   ·exact Sj [0]
   refine B [0] fun _ d h=>?_;refine AS d ?_;exact Sj [0,10,0]
  intro i h;refine I [4] ?_ ?_<;>intro _ h
  ·exact Sr [3,7]
  refine S [1,5] ?_;refine MA (AN (mA a b) ?_);exact le () []
 rintro⟨⟩ h;exact Sr [3,7]
def Ei {N a0 g1 r} (h:U6 N a0 g1=some r) {m:Nat} {a:List AV} (f:∀d n,g1 d=some n->Spec prog m [] [.agg (fu d),.fp a] (.bool n) [] []):Spec prog 123 [] [E9 a0,.fn m [.fp a]] (.int r) [] []:=by
 refine so func123 ntmps123 fun p hn=>?_;unfold U6 at h;refine S [3,2,3] ?_;refine O1 fun i=>?_;refine LR e1 hn () (fun l k v=>F6 N g1 l k) h (fun e v=>[(8,.int (e:Int))]) (fun e v=>[]) [0,1,7] [] [] (fun s=>[]) (fun s=>[]) [] [] ?_ ?_ ?_
 ·intro _ g e _ h _;rw[F6] at h;exact Sj [3,2,4,0,20]
 ·intro _ g e _ o j h _ c _;rw[F6] at h;refine S [3,2,4,0,1,2,6,3,3] ?_;refine W9 c ?_;refine B [] fun _ b h=>?_;refine cA (f _ _ b) ?_;refine I [4] ?_ ?_<;>intro _ h
  ·exact Sr [3,7]
  refine S [1,5] ?_;refine MA (AN (U9 c i) ?_);exact le () []
 rintro⟨⟩ h;exact Sr [3,7]
def Ee {N a0 g1 r} (h:J6 N a0 g1=some r) {e:Nat} {a:List AV} (c:∀b f,g1 b=some f->Spec prog e [] [.agg (fu b),.fp a] (.bool f) [] []):Spec prog 95 [] [E9 a0,.fn e [.fp a]] (.bool r) [] []:=by
 refine so func95 ntmps95 fun i hn=>?_;unfold J6 at h;refine B [3,3] fun _ d h=>?_;refine cA (Ei d c) ?_;exact Sr [7]
def kD {N a0 a1 r} (h:iJ N a0 a1=some r):Spec prog 37 [] [.agg (Q7 a0),.int a1] (.int r) [] []:=by
 refine so func37 ntmps37 fun n hn=>?_;unfold iJ at h;refine S [3,3,2,3] ?_;refine LF e0 hn (a1,(0:Int),(0:Int)) (fun l v=>oj N a0 l v.1 v.2.1 v.2.2) h (fun v=>[(1,.int v.1),(5,.int v.2.1),(6,.int v.2.2)]) (fun v=>[]) [2] [2] [] (fun s=>[(5,.int s)]) (fun s=>[]) [] [] ?_ ?_
 ·rintro _ g ⟨k,i,j⟩ e h;rw[oj] at h;refine S [2,2] ?_;refine Jb 22 hn h [1,2,5,6] [2] (fun _ h g=>?_) ?_
  ·refine I [5] ?_ ?_<;>intro _ h
   ·refine I [0,13,0] ?_ ?_<;>intro _ h
    ·exact Sj [0,13,0]
    exact Sj [0]
   exact Sj [0]
  intro f h;refine I [4] ?_ ?_<;>intro _ h
  ·refine B [1,2,6,3] fun c a h=>?_;refine H5 a ?_;refine B [12,5] fun d b h=>?_;refine H5 b ?_;refine kd [1,2,5,6] [2] ?_;refine S [5,12] ?_;exact le (d.aV,(wr (i+c.aI)),(wr (j+(1:Int)))) []
  exact Sj [20]
 intro m h;exact Sr [3,7]
def GM {N a0 r} (h:sB N a0=some r):Spec prog 108 [] [.agg (bc a0)] (.ab [.int r.1,.int r.2]) [] []:=by
 refine so func108 ntmps108 fun e hn=>?_;unfold sB at h;refine S [3,2,3,6,2,3] ?_;refine Jb 6 hn h [1,5] [1] (fun _ h g=>?_) ?_
 ·refine I [4] ?_ ?_<;>intro _ h
  ·exact Sj [1]
  refine S [3] ?_;refine Jb 6 hn h [1,5] [1] (fun _ h g=>?_) ?_
  ·refine I [4] ?_ ?_<;>intro _ h
   ·exact Sj [1]
   refine S [3] ?_;refine Jb 6 hn h [1,5] [1] (fun _ h g=>?_) ?_
   ·refine I [4] ?_ ?_<;>intro _ h
    ·exact Sj [1]
    refine S [3] ?_;refine Jb 6 hn h [1,5] [1] (fun _ h g=>?_) ?_
    ·refine I [4] ?_ ?_<;>intro _ h
     ·exact Sj [1]
     exact Sj [5]
    intro a h;exact je
   intro d h;exact je
  intro c h;exact je
 intro b h;refine I [4] ?_ ?_<;>intro _ h
 ·exact Sr [3,7]
 refine I [3,4] ?_ ?_<;>intro _ h
 ·exact Sr [3,7]
 refine I [3,4] ?_ ?_<;>intro _ h
 ·exact Sr [3,12,7]
 refine I [3,4] ?_ ?_<;>intro _ h
 ·exact Sr [3,7]
 exact Sr [1,3,7]
def As {N a0 a1 r} (h:oz N a0 a1=some r):Spec prog 76 [] [.agg (eV a0),.int a1] (.int r) [] []:=by
 refine so func76 ntmps76 fun e hn=>?_;unfold oz at h;refine S [3,2,3] ?_;refine J e1 hn h (fun s=>[]) (fun s=>[]) [] [] (fun _ h g=>?_) ?_
 ·refine S [6,2,3] ?_;refine Jb 7 hn h [1,2,6] [2] (fun _ h g=>?_) ?_
  ·refine I [4] ?_ ?_<;>intro _ h
   ·exact Sj [1]
   refine S [3] ?_;refine Jb 7 hn h [1,2,6] [2] (fun _ h g=>?_) ?_
   ·refine I [4] ?_ ?_<;>intro _ h
    ·exact Sj [1]
    exact Sj [5]
   intro d h;exact je
  intro c h;refine J e1 hn h (fun s=>[]) (fun s=>[]) [] [] (fun _ h g=>?_) ?_
  ·refine I [4] ?_ ?_<;>intro _ h
   ·refine I [3,4] ?_ ?_<;>intro _ h
    ·exact Sr [3,7]
    exact Sj [1]
   refine S [3] ?_;refine J e1 hn h (fun s=>[]) (fun s=>[]) [] [] (fun _ h g=>?_) ?_
   ·refine I [4] ?_ ?_<;>intro _ h
    ·refine S [2] ?_;refine Jb 23 hn h [] [] (fun _ h g=>?_) ?_
     ·refine I [5] ?_ ?_<;>intro _ h
      ·exact Sj [0]
      exact Sj [0]
     intro a h;refine I [4] ?_ ?_<;>intro _ h
     ·exact Sr [3,7]
     exact Sj [1]
    refine I [3,4] ?_ ?_<;>intro _ h
    ·refine S [2] ?_;refine Jb 34 hn h [] [] (fun _ h g=>?_) ?_
     ·refine I [5] ?_ ?_<;>intro _ h
      ·exact Sj [0]
      exact Sj [0]
     intro b h;refine I [4] ?_ ?_<;>intro _ h
     ·exact Sr [3,7]
     exact Sj [1]
    exact Sr [3,7]
   rintro⟨⟩ h;exact je
  rintro⟨⟩ h;exact je
 rintro⟨⟩ h;exact Sr [3,7]
def wJ {N a0 a1 a2 r} (h:pP N a0 a1 a2=some r):Spec prog 163 [] [.agg (Q7 a0),.agg (kR a1),.int a2] (.int r) [] []:=by
 refine so func163 ntmps163 fun o hn=>?_;unfold pP at h;refine B [3,2,3] fun _ j h=>?_;refine cA (qw j) ?_;refine I [4] ?_ ?_<;>intro _ h
 ·exact Sr [3,7]
 refine I [1,2,3,13,4] ?_ ?_<;>intro _ h
 ·exact Sr [3,7]
 refine S [1,2,2] ?_;refine Jb 23 hn h [3,4] [3,4] (fun _ h g=>?_) ?_
 ·refine I [5] ?_ ?_<;>intro _ h
  ·exact Sj [0]
  exact Sj [0]
 intro n h;refine I [4] ?_ ?_<;>intro _ h
 ·exact Sr [3,7]
 refine S [1,2,3] ?_;refine bS eV [a1.aU] ?_;refine A [] fun c h=>?_;refine aM c ?_;refine O1 fun d=>?_;refine LR e1 hn () (fun l k v=>nJ N a0 a1 l k) h (fun a v=>[(31,.int (a:Int))]) (fun a v=>[]) [3,29,30] [3,29] [] (fun s=>[]) (fun s=>[]) [] [] ?_ ?_ ?_
 ·intro _ g a _ h _;rw[nJ] at h;exact Sj [3,2,4,0,20]
 ·intro _ g a _ m i h _ f _;rw[nJ] at h;refine B [3,2,4,0,1,2,6,3] fun _ b h=>?_;refine X8 b ?_;refine K6 (l6 b).2 ?_;refine B [3,13] fun _ e h=>?_;refine cA (As e) ?_;refine I [3,4] ?_ ?_<;>intro _ h
  ·exact Sr [3,7]
  refine S [1,5] ?_;refine MA (AN (U9 f d) ?_);exact le () []
 rintro⟨⟩ h;exact Sr [3,7]
def kC {N a0 a1 r} (h:kH N a0 a1=some r):Spec prog 164 [] [jN a0,.agg (eV a1)] (.int r) [] []:=by
 refine so func164 ntmps164 fun d hn=>?_;unfold kH at h;refine I [3,2,3,6,3,4] ?_ ?_<;>intro _ h
 ·exact Sr [3,7]
 refine S [2,3] ?_;refine Jb 9 hn h [0,3,6] [3] (fun _ h g=>?_) ?_
 ·refine I [4] ?_ ?_<;>intro _ h
  ·exact Sj [1]
  exact Sj [5]
 intro b h;refine I [4] ?_ ?_<;>intro _ h
 ·exact Sr [3,7]
 refine I [3,4] ?_ ?_<;>intro _ h
 ·exact Sr [3,7]
 refine S [1,2,2] ?_;refine Jb 28 hn h [0,3] [3] (fun _ h g=>?_) ?_
 ·refine I [5] ?_ ?_<;>intro _ h
  ·refine I [0] ?_ ?_<;>intro _ h
   ·exact Sj [0,13,0]
   exact Sj [0]
  exact Sj [0]
 intro c h;refine I [4] ?_ ?_<;>intro _ h
 ·refine B [3] fun _ a h=>?_;refine H5 a ?_;exact Sr [7]
 exact Sr [1,3,7]
def wV {N a0 r} (h:nH N a0=some r):Spec prog 225 [] [.int a0] (.agg (eV r)) [] []:=by
 refine so func225 ntmps225 fun a hn=>?_;unfold nH at h;exact Sr [3,3,16,7]
def qx {N a0 r} (h:pK N a0=some r):Spec prog 226 [] [.bool a0] (.agg (eV r)) [] []:=by
 refine so func226 ntmps226 fun a hn=>?_;unfold pK at h;refine I [3,2,3,4] ?_ ?_<;>intro _ h
 ·exact Sr [3,7]
 exact Sr [1,3,7]
def wa {N a0 a1 a2 r} (h:sL N a0 a1 a2=some r):Spec prog 196 [] [.int a0,.agg (eV a1),.agg (eV a2)] (.ab [.agg (eV r.1),.int r.2]) [] []:=by
 refine so func196 ntmps196 fun i hn=>?_;unfold sL at h;refine S [3,2,2] ?_;refine Jb 16 hn h [0,4,5,6] [4,5,6] (fun _ h g=>?_) ?_
 ·refine I [5] ?_ ?_<;>intro _ h
  ·exact Sj [0]
  exact Sj [0]
 intro f h;refine I [4] ?_ ?_<;>intro _ h
 ·exact Sr [3,7]
 refine I [1,3,2,3,6,3,4] ?_ ?_<;>intro _ h
 ·refine B [3,12] fun _ e h=>?_;refine cA (wV e) ?_;exact Sr [7]
 refine I [3,4] ?_ ?_<;>intro _ h
 ·refine B [3,12] fun _ a h=>?_;refine cA (wV a) ?_;exact Sr [7]
 refine I [3,4] ?_ ?_<;>intro _ h
 ·refine B [3,12] fun _ b h=>?_;refine cA (wV b) ?_;exact Sr [7]
 refine I [3,4] ?_ ?_<;>intro _ h
 ·refine B [3] fun _ c h=>?_;refine cA (qx c) ?_;exact Sr [7]
 refine I [3,4] ?_ ?_<;>intro _ h
 ·refine kd [4,5,6] [4,5,6] ?_;refine B [3] fun _ d h=>?_;refine cA (qx d) ?_;exact Sr [7]
 refine S [1] ?_;refine kd [6] [6] ?_;exact Sr [3,7]
def Ey {N a0 a1 a2 r} (h:V7 N a0 a1 a2=some r) {m:Nat} {e:List AV} {n:Nat}:Spec prog 201 [(1000,mB a0 (.fn m [.fp e]) (.fn n []) 1001 1003),(1001,.box [E9 a0.w.a7,.aL 1002,.int a0.w.aB] 40),(1002,F3 a0.w.heap [] 1004),(1003,p9 a0.aG [] 1005)] [.ptr 1000 0,.ep 1003 a1 10 0,.agg (bc a2)] (.ab []) [(1000,mB r (.fn m [.fp e]) (.fn n []) 1001 1003),(1001,.box [E9 a0.w.a7,.aL 1002,.int a0.w.aB] 40),(1002,F3 a0.w.heap [] 1004),(1003,p9 r.aG [] 5),(5,.aF)] [5]:=by
 refine so func201 ntmps201 fun o hn=>?_;unfold V7 at h;refine B [15,3,2,2] fun b a h=>?_;refine gC (gD 1003 501 502 a1 8 a) ?_;refine kd [0,1,5] [5,501,502,1000,1001,1002,1003] ?_;refine S [8] ?_;refine hD a ?_;refine hD a ?_;refine B [13,12,12] fun _ k h=>?_;refine X8 k ?_;refine K6 (l6 k).2 ?_;refine B [] fun _ l h=>?_;refine cD (kC l) ?_;refine I [4] ?_ ?_<;>intro _ h
 ·refine gC (gB 1003 501 503 a1 8 a) ?_;exact Sr [7] [(5,503)]
 refine S [1,2] ?_;refine gC (gB 1003 501 504 a1 8 a) ?_;refine kd [0,1,5] [5,504,1000,1001,1002,1003] ?_;refine S [8] ?_;refine K6 a ?_;refine B [] fun _ i h=>?_;refine H5 i ?_;refine K6 a ?_;refine B [] fun d j h=>?_;refine H5 j ?_;refine gC (gD 1003 505 506 a1 7 a) ?_;refine kd [0,1,5,6] [5,505,506,1000,1001,1002,1003] ?_;refine S [8] ?_;refine hD a ?_;refine A [] fun f h=>?_;refine j8 f rfl rfl ?_;refine sD a (⟨b.aK,b.aN,false,b.code,b.aU,b.args,b.a8,b.aA,b.aJ⟩:j3) ?_;refine sD (setAt a) (⟨b.aK,b.aN,false,d.code,b.aU,b.args,b.a8,b.aA,b.aJ⟩:j3) ?_;refine hS (setAt (setAt a)) ?_;refine sD (setAt (setAt a)) (⟨b.aK,b.aN,false,d.code,b.aU,b.args,b.a8,b.aA,a2.c⟩:j3) ?_;refine gE (gA 1003 68 507 a1 7 (setAt (setAt (setAt a))) (⟨b.aK,b.aN,false,d.code,b.aU,b.args,(b.a8.take d.a8.toNat),b.aA,a2.c⟩:j3)) ?_;exact Sr [14] [(5,507)]
def oa {N a0 fr b0 r} (h:oc N a0 fr b0=some r):Spec prog 227 [(1016,.box [.ep 1019 b0 10 0] 289),(1019,p9 fr [(b0,7,1022)] 1021)] [.agg (eV a0),.ptr 1016 0] (.ab []) [(1016,.box [.ep 1019 b0 10 0] 289),(1019,p9 r [(b0,7,1022)] 21),(21,.aF)] [21]:=by
 refine so func227 ntmps227 fun d hn=>?_;unfold oc at h;refine B [15,3] fun b a h=>?_;refine gC (gD 1019 501 502 b0 8 a) ?_;refine kd [1,2] [2,501,502,1016,1019] ?_;refine S [8] ?_;refine hD a ?_;refine bS eV [a0] ?_;refine A [] fun c h=>?_;refine aM c ?_;refine hS a ?_;refine gE (gA 1019 10 503 b0 8 a (⟨b.aK,b.aN,b.aY,b.code,b.aU,b.args,b.a8,(b.aA++[a0]),b.aJ⟩:j3)) ?_;exact Sr [14] [(21,503)]
def wE {N a0 sk fr b0 r} (h:r7 N a0 sk fr b0=some r):Spec prog 227 [(1016,.box [.ep 1019 b0 10 0] 289),(1019,p9 fr [(b0,8,1022)] 1021),(1022,ia sk)] [.agg (eV a0),.ptr 1016 0] (.ab []) [(1016,.box [.ep 1019 b0 10 0] 289),(1019,p9 fr [(b0,8,22)] 1021),(22,ia r),(1022,.aF)] [22]:=by
 refine so func227 ntmps227 fun c hn=>?_;unfold r7 at h;refine B [15,3,8] fun _ a h=>?_;refine hD a ?_;refine bS eV [a0] ?_;refine A [] fun b h=>?_;refine aM b ?_;refine hS a ?_;exact Sr [14] [(22,10)]
def od {N fr a0 r} (h:oe N fr a0=some r):Spec prog 200 [(1003,p9 fr [(a0,7,1006)] 1005)] [.ep 1003 a0 10 0] (.agg (eV r.1)) [(1003,p9 r.2 [(a0,7,1006)] 5),(5,.aF)] [5]:=by
 refine so func200 ntmps200 fun e hn=>?_;unfold oe at h;refine B [3,2] fun b a h=>?_;refine gC (gD 1003 501 502 a0 8 a) ?_;refine kd [0,2] [2,501,502,1003] ?_;refine S [8] ?_;refine hD a ?_;refine hD a ?_;refine B [13,12] fun _ c h=>?_;refine X8 c ?_;refine K6 (l6 c).2 ?_;refine S [2,8] ?_;refine hD a ?_;refine hD a ?_;refine A [13,12] fun d h=>?_;refine j8 d rfl rfl ?_;refine hS a ?_;refine gC (gA 1003 27 503 a0 8 a (⟨b.aK,b.aN,b.aY,b.code,b.aU,b.args,b.a8,(b.aA.take (wr ((b.aA.length:Int)-(1:Int))).toNat),b.aJ⟩:j3)) ?_;refine kd [0,2,3] [2,3,503,1003] ?_;exact Sr [3,7] [(5,503)]
def J7 {N a0 a1 r} (h:F5 N a0 a1=some r) {b:Nat} {a:List AV} {c:Nat}:Spec prog 165 [(1000,mB a0 (.fn b [.ptr 1007 0,.fp a]) (.fn c []) 1001 1003)] [.ptr 1000 0,.int a1] (.ab []) [(1000,mB r (.fn b [.ptr 1007 0,.fp a]) (.fn c []) 1001 1003)] []:=by
 refine so func165 ntmps165 fun e hn=>?_;unfold F5 at h;refine S [15,3] ?_;refine J e0 hn h (fun s=>[]) (fun s=>[(1000,.box [.ptr 1001 0,.fn b [.ptr 1007 0,.fp a],.fn c [],.int a0.aE,.int a0.aH,.int a0.aO,.aL 1003,.int a0.back.k,.int a0.back.n,.int s] 251)]) [0] [] (fun _ h g=>?_) ?_
 ·refine I [4] ?_ ?_<;>intro _ h
  ·exact Sj [5]
  exact Sj [1]
 intro d h;exact Sr [14]
def wB {N a0 a1 r} (h:N7 N a0 a1=some r) {d:Nat} {a:List AV} {e:Nat}:Spec prog 195 [(1000,mB a0 (.fn d [.ptr 1007 0,.fp a]) (.fn e []) 1001 1003),(1003,p9 a0.aG [] 1005)] [.ptr 1000 0,.bool a1] (.bool r.1) [(1000,mB r.2 (.fn d [.ptr 1007 0,.fp a]) (.fn e []) 1001 1003),(1003,p9 a0.aG [] 1005)] []:=by
 refine so func195 ntmps195 fun w hn=>?_;unfold N7 at h;refine S [3,2] ?_;refine J e1 hn h (fun s=>[]) (fun s=>[(1000,.box [.ptr 1001 0,.fn d [.ptr 1007 0,.fp a],.fn e [],.int s.1,.int s.2.1,.int s.2.2.1,.aL 1003,.int s.2.2.2.1,.int s.2.2.2.2.1,.int s.2.2.2.2.2] 251)]) [0] [1003] (fun _ h g=>?_) ?_
 ·refine S [6,2,8] ?_;refine J e1 hn h (fun s=>[]) (fun s=>[(1000,.box [.ptr 1001 0,.fn d [.ptr 1007 0,.fp a],.fn e [],.int s.1,.int s.2.1,.int s.2.2.1,.aL 1003,.int s.2.2.2.1,.int s.2.2.2.2.1,.int s.2.2.2.2.2] 251)]) [0] [1003] (fun _ h g=>?_) ?_
  ·refine I [4] ?_ ?_<;>intro _ h
   ·refine B [5] fun _ b h=>?_;refine cA (J7 b) ?_;exact je
   refine S [2] ?_;refine Jb 24 hn h [0] [1000,1003] (fun _ h g=>?_) ?_
   ·refine I [5] ?_ ?_<;>intro _ h
    ·exact Sj [0,13,0]
    exact Sj [0]
   intro l h;refine I [4] ?_ ?_<;>intro _ h
   ·refine B [5] fun _ c h=>?_;refine cA (J7 c) ?_;exact je
   exact Sr [3,12,3,7]
  rintro⟨u,v,f,i,j,k⟩ h;exact je
 rintro⟨m,n,o,p,q,t⟩ h;exact Sr [3,7]
def zs {N a0 a1 a2 r} (h:P9 N a0 a1 a2=some r) {e:Nat} {a:List AV} {f:Nat}:Spec prog 199 [(1000,mB a0 (.fn e [.ptr 1007 0,.fp a]) (.fn f []) 1001 1003),(1003,p9 a0.aG [] 1005)] [.ptr 1000 0,.ep 1003 a1 10 0,.int a2] (.ab []) [(1000,mB r (.fn e [.ptr 1007 0,.fp a]) (.fn f []) 1001 1003),(1003,p9 r.aG [] 5),(5,.aF)] [5]:=by
 refine so func199 ntmps199 fun w hn=>?_;unfold P9 at h;refine B [15,2,3] fun b d h=>?_;refine K6 d ?_;refine J e0 hn h (fun s=>[]) (fun s=>[(1000,.box [.ptr 1001 0,.fn e [.ptr 1007 0,.fp a],.fn f [],.int s.1,.int s.2.1,.int s.2.2.1,.aL 1003,.int s.2.2.2.1,.int s.2.2.2.2.1,.int s.2.2.2.2.2] 251)]) [0,1,2] [1003] (fun _ h g=>?_) ?_
 ·refine I [4] ?_ ?_<;>intro _ h
  ·refine S [3,12,3] ?_;refine J e0 hn h (fun s=>[]) (fun s=>[(1000,.box [.ptr 1001 0,.fn e [.ptr 1007 0,.fp a],.fn f [],.int s.1,.int s.2.1,.int s.2.2.1,.aL 1003,.int s.2.2.2.1,.int s.2.2.2.2.1,.int s.2.2.2.2.2] 251)]) [0,1,2] [1003] (fun _ h g=>?_) ?_
   ·refine I [4] ?_ ?_<;>intro _ h
    ·refine kd [0,1,2] [1000,1003] ?_;refine B [5] fun _ c h=>?_;refine cA (J7 c) ?_;exact je
    exact Sj [1]
   rintro⟨i,j,k,l,m,n⟩ h;exact je
  exact Sj [1]
 rintro⟨o,p,q,t,u,v⟩ h;refine S [5] ?_;refine sD d (⟨b.aK,b.aN,b.aY,b.code,b.aU,b.args,b.a8,b.aA,a2⟩:j3) ?_;refine gE (gS 1003 501) ?_;exact Sr [14] [(5,501)]
def Et {N a0 a1 a2 r} (h:V7 N a0 a1 a2=some r) {m:Nat} {e:List AV} {n:Nat}:Spec prog 201 [(1000,mB a0 (.fn m [.ptr 1007 0,.fp e]) (.fn n []) 1001 1003),(1001,.box [E9 a0.w.a7,.aL 1002,.int a0.w.aB] 40),(1002,F3 a0.w.heap [] 1004),(1003,p9 a0.aG [] 1005)] [.ptr 1000 0,.ep 1003 a1 10 0,.agg (bc a2)] (.ab []) [(1000,mB r (.fn m [.ptr 1007 0,.fp e]) (.fn n []) 1001 1003),(1001,.box [E9 a0.w.a7,.aL 1002,.int a0.w.aB] 40),(1002,F3 a0.w.heap [] 1004),(1003,p9 r.aG [] 5),(5,.aF)] [5]:=by
 refine so func201 ntmps201 fun o hn=>?_;unfold V7 at h;refine B [15,3,2,2] fun b a h=>?_;refine gC (gD 1003 501 502 a1 8 a) ?_;refine kd [0,1,5] [5,501,502,1000,1001,1002,1003] ?_;refine S [8] ?_;refine hD a ?_;refine hD a ?_;refine B [13,12,12] fun _ k h=>?_;refine X8 k ?_;refine K6 (l6 k).2 ?_;refine B [] fun _ l h=>?_;refine cD (kC l) ?_;refine I [4] ?_ ?_<;>intro _ h
 ·refine gC (gB 1003 501 503 a1 8 a) ?_;exact Sr [7] [(5,503)]
 refine S [1,2] ?_;refine gC (gB 1003 501 504 a1 8 a) ?_;refine kd [0,1,5] [5,504,1000,1001,1002,1003] ?_;refine S [8] ?_;refine K6 a ?_;refine B [] fun _ i h=>?_;refine H5 i ?_;refine K6 a ?_;refine B [] fun d j h=>?_;refine H5 j ?_;refine gC (gD 1003 505 506 a1 7 a) ?_;refine kd [0,1,5,6] [5,505,506,1000,1001,1002,1003] ?_;refine S [8] ?_;refine hD a ?_;refine A [] fun f h=>?_;refine j8 f rfl rfl ?_;refine sD a (⟨b.aK,b.aN,false,b.code,b.aU,b.args,b.a8,b.aA,b.aJ⟩:j3) ?_;refine sD (setAt a) (⟨b.aK,b.aN,false,d.code,b.aU,b.args,b.a8,b.aA,b.aJ⟩:j3) ?_;refine hS (setAt (setAt a)) ?_;refine sD (setAt (setAt a)) (⟨b.aK,b.aN,false,d.code,b.aU,b.args,b.a8,b.aA,a2.c⟩:j3) ?_;refine gE (gA 1003 68 507 a1 7 (setAt (setAt (setAt a))) (⟨b.aK,b.aN,false,d.code,b.aU,b.args,(b.a8.take d.a8.toNat),b.aA,a2.c⟩:j3)) ?_;exact Sr [14] [(5,507)]
def Ec {N a0 g1 r} (h:M8 N a0 g1=some r) {m:Nat} {a:List AV} (f:∀d n,g1 d=some n->Spec prog m [] [.agg (hU d),.fp a] (.bool n) [] []):Spec prog 230 [] [ke a0,.fn m [.fp a]] (.int r) [] []:=by
 refine so func230 ntmps230 fun p hn=>?_;unfold M8 at h;refine S [3,2,3] ?_;refine O1 fun i=>?_;refine LR e1 hn () (fun l k v=>C9 N g1 l k) h (fun e v=>[(8,.int (e:Int))]) (fun e v=>[]) [0,1,7] [] [] (fun s=>[]) (fun s=>[]) [] [] ?_ ?_ ?_
 ·intro _ g e _ h _;rw[C9] at h;exact Sj [3,2,4,0,20]
 ·intro _ g e _ o j h _ c _;rw[C9] at h;refine S [3,2,4,0,1,2,6,3,3] ?_;refine W9 c ?_;refine B [] fun _ b h=>?_;refine cA (f _ _ b) ?_;refine I [4] ?_ ?_<;>intro _ h
  ·exact Sr [3,7]
  refine S [1,5] ?_;refine MA (AN (U9 c i) ?_);exact le () []
 rintro⟨⟩ h;exact Sr [3,7]
def GA {N a0 b0 r} (h:mw N a0 b0=some r):Spec prog 231 [] [.agg (hU a0),.fp (bW b0)] (.bool r) [] []:=by
 refine so func231 ntmps231 fun a hn=>?_;unfold mw at h;exact Sr [3,3,7]
def Aw {N a0 a1 r} (h:nK N a0 a1=some r):Spec prog 203 [] [ke a0,.agg (bW a1)] (.int r) [] []:=by
 refine so func203 ntmps203 fun c hn=>?_;unfold nK at h;refine S [3] ?_;refine j6.gh (Gh.bF 3 3 rfl rfl rfl) (fun _=>?_);refine kd [0,3] [] ?_;refine B [3] fun _ a h=>?_;refine cA (Ec a (fun _ _ b=>GA b)) ?_;exact Sr [7]
def HB {N a0 a1 a2 a3 r} (h:sR N a0 a1 a2 a3=some r):Spec prog 168 [] [ke a0,.agg (bW a1),.int a2,.int a3] (.int r) [] []:=by
 refine so func168 ntmps168 fun n hn=>?_;unfold sR at h;refine B [3,3] fun _ f h=>?_;refine cA (Aw f) ?_;refine S [2,2] ?_;refine Jb 25 hn h [0,3,9] [] (fun _ h g=>?_) ?_
 ·refine I [5] ?_ ?_<;>intro _ h
  ·exact Sj [0]
  refine B [0] fun _ i h=>?_;refine H5 i ?_;exact Sj [0]
 intro m h;refine I [4] ?_ ?_<;>intro _ h
 ·exact Sr [3,7]
 refine B [1,2,3] fun _ d h=>?_;refine H5 d ?_;refine O1 fun c=>?_;refine LR e1 hn () (fun l k v=>nE N a3 l k) h (fun a v=>[(32,.int (a:Int))]) (fun a v=>[]) [3,30,31] [] [] (fun s=>[]) (fun s=>[]) [] [] ?_ ?_ ?_
 ·intro _ g a _ h _;rw[nE] at h;exact Sj [3,2,4,0,20]
 ·intro _ g a _ j e h _ b _;rw[nE] at h;refine S [3,2,4,0,1,2,6,3] ?_;refine W9 b ?_;refine I [3,4] ?_ ?_<;>intro _ h
  ·exact Sr [3,7]
  refine S [1,5] ?_;refine MA (AN (U9 b c) ?_);exact le () []
 rintro⟨⟩ h;exact Sr [3,7]
def d44 (N:Nat) {l:List Ln} (h:Fit l.length 16):X3 N l=some l:=by
  unfold X3;rw[show IN (l.length*16) 140737488355328=true from Nat.ble_eq_true_of_le h];rfl
theorem Dt (N:Nat) (s:St):∀(l:List Ce) (k:Nat),C9 N (fun x=>mw N x s) l k=some (match l.findIdx? (fun t=>decide (t.site=s)) with|some i=>.ret ((k+i:Nat):Int)|none=>.next ())
  |[],k=>rfl
  |x::l,k=>by
    rw[C9,nV,Dt N s l (k+1)];unfold mw;rw[show dG (bW x.site) (bW s)=decide (x.site=s) from zH x.site s];by_cases e:x.site=s
    · simp[e]
    · cases l.findIdx? (fun t=>decide (t.site=s))<;>simp[e];omega
def GN (N:Nat) (l:List Ce) (s:St):nK N l s=some (fw (fun t=>decide (t.site=s)) l):=by
  unfold nK M8 fw;rw[Dt];cases l.findIdx? (fun t=>decide (t.site=s))<;>simp
def GS {N a0 b0 r} (h:sE N a0 b0=some r):Spec prog 173 [] [.agg (V5 a0),.fp [.int b0]] (.bool r) [] []:=by
 refine so func173 ntmps173 fun a hn=>?_;unfold sE at h;exact Sr [3,3,7]
def Eu {N a0 a1 a2 r} (h:V7 N a0 a1 a2=some r) {o:Nat} {e:List AV} {p:Nat} {f:List AV} {i:List AV}:Spec prog 201 [(1000,mB a0 (.fn o [.fp e]) (.fn p [.fp f,.fp i]) 1001 1003),(1001,.box [E9 a0.w.a7,.aL 1002,.int a0.w.aB] 40),(1002,F3 a0.w.heap [] 1004),(1003,p9 a0.aG [] 1005)] [.ptr 1000 0,.ep 1003 a1 10 0,.agg (bc a2)] (.ab []) [(1000,mB r (.fn o [.fp e]) (.fn p [.fp f,.fp i]) 1001 1003),(1001,.box [E9 a0.w.a7,.aL 1002,.int a0.w.aB] 40),(1002,F3 a0.w.heap [] 1004),(1003,p9 r.aG [] 5),(5,.aF)] [5]:=by
 refine so func201 ntmps201 fun q hn=>?_;unfold V7 at h;refine B [15,3,2,2] fun b a h=>?_;refine gC (gD 1003 501 502 a1 8 a) ?_;refine kd [0,1,5] [5,501,502,1000,1001,1002,1003] ?_;refine S [8] ?_;refine hD a ?_;refine hD a ?_;refine B [13,12,12] fun _ m h=>?_;refine X8 m ?_;refine K6 (l6 m).2 ?_;refine B [] fun _ n h=>?_;refine cD (kC n) ?_;refine I [4] ?_ ?_<;>intro _ h
 ·refine gC (gB 1003 501 503 a1 8 a) ?_;exact Sr [7] [(5,503)]
 refine S [1,2] ?_;refine gC (gB 1003 501 504 a1 8 a) ?_;refine kd [0,1,5] [5,504,1000,1001,1002,1003] ?_;refine S [8] ?_;refine K6 a ?_;refine B [] fun _ k h=>?_;refine H5 k ?_;refine K6 a ?_;refine B [] fun d l h=>?_;refine H5 l ?_;refine gC (gD 1003 505 506 a1 7 a) ?_;refine kd [0,1,5,6] [5,505,506,1000,1001,1002,1003] ?_;refine S [8] ?_;refine hD a ?_;refine A [] fun j h=>?_;refine j8 j rfl rfl ?_;refine sD a (⟨b.aK,b.aN,false,b.code,b.aU,b.args,b.a8,b.aA,b.aJ⟩:j3) ?_;refine sD (setAt a) (⟨b.aK,b.aN,false,d.code,b.aU,b.args,b.a8,b.aA,b.aJ⟩:j3) ?_;refine hS (setAt (setAt a)) ?_;refine sD (setAt (setAt a)) (⟨b.aK,b.aN,false,d.code,b.aU,b.args,b.a8,b.aA,a2.c⟩:j3) ?_;refine gE (gA 1003 68 507 a1 7 (setAt (setAt (setAt a))) (⟨b.aK,b.aN,false,d.code,b.aU,b.args,(b.a8.take d.a8.toNat),b.aA,a2.c⟩:j3)) ?_;exact Sr [14] [(5,507)]
def A4 {N a0 a1 a2 a3 r} (h:jS N a0 a1 a2 a3=some r) {l:Nat} {c:List AV} {m:Nat} {d:List AV} {e:List AV}:Spec prog 229 [(1000,mB a0 (.fn l [.fp c]) (.fn m [.fp d,.fp e]) 1001 1003),(1001,.box [E9 a0.w.a7,.aL 1002,.int a0.w.aB] 40),(1002,F3 a0.w.heap [] 1004)] [.ptr 1000 0,.agg (eV a1),.int a2,.agg (eV a3)] (.ab []) [(1000,mB r (.fn l [.fp c]) (.fn m [.fp d,.fp e]) 1001 1003),(1001,.box [E9 a0.w.a7,.aL 1002,.int a0.w.aB] 40),(1002,F3 r.w.heap [] 3),(3,.aF)] [3]:=by
 refine so func229 ntmps229 fun t hn=>?_;unfold jS at h;refine S [15,3,2] ?_;refine J e0 hn h (fun s=>[(40,.bool s)]) (fun s=>[(501,.aF),(1002,F3 a0.w.heap [] 501)]) [0,2,5,7] [5,7,1000,1001] (fun _ h g=>?_) ?_
 ·rcases qP h with⟨b,h⟩|⟨q,b,h⟩
  ·refine kd [0,2,5,7] [5,7,1000,1001,1002] ?_;refine I [8] ?_ ?_<;>intro _ h
   ·refine I [0,13,0] ?_ ?_<;>intro _ h
    ·cases h
    refine S [0] ?_;refine gE (gS 1002 501) ?_;exact je
   refine S [0] ?_;refine gE (gS 1002 502) ?_;exact je [(501,502)]
  refine gC (gD 1002 503 504 a1.n.toNat 1 b) ?_;refine kd [0,2,5,7] [5,7,503,504,1000,1001,1002] ?_;refine I [8] ?_ ?_<;>intro _ h
  ·refine I [0,13,0] ?_ ?_<;>intro _ h
   ·refine B [0] fun _ i h=>?_;refine iD i ?_;refine S [0] ?_;refine hD b ?_;refine S [0,13,0] ?_;refine gE (gB 1002 503 505 a1.n.toNat 1 b) ?_;exact je [(501,505)]
   refine S [0] ?_;refine gE (gB 1002 503 506 a1.n.toNat 1 b) ?_;exact je [(501,506)]
  refine S [0] ?_;refine gE (gB 1002 503 507 a1.n.toNat 1 b) ?_;exact je [(501,507)]
 intro p h;refine J e0 hn h (fun s=>[]) (fun s=>[(508,.aF),(1002,F3 s [] 508)]) [0] [1000,1001] (fun _ h g=>?_) ?_
 ·refine I [4] ?_ ?_<;>intro _ h
  ·rcases qP h with⟨a,h⟩|⟨k,a,h⟩
   ·cases h
   refine gC (gD 1002 508 509 a1.n.toNat 1 a) ?_;refine kd [0,2,5,7] [5,7,508,509,1000,1001,1002] ?_;refine B [8] fun _ j h=>?_;refine iD j ?_;refine hD a ?_;refine B [] fun _ f h=>?_;refine X8 f ?_;refine sM (l6 f).2 a3 ?_;refine gE (gA 1002 508 510 a1.n.toNat 1 a (⟨k.cls,(k.aI.set a2.toNat a3)⟩:Ob)) ?_;exact je [(508,510)]
  exact Sj [1] [(508,501)]
 intro o h;exact Sr [14] [(3,508)]
def HF {N a0 r} (h:uT N a0=some r):Spec prog 40 [] [.fp (Q7 a0)] (.int r) [] []:=by
 refine so func40 ntmps40 fun u hn=>?_;unfold uT at h;refine S [3,2,3] ?_;refine O1 fun n=>?_;refine LR e1 hn () (fun l k v=>nC N a0 l k) h (fun j v=>[(13,.int (j:Int))]) (fun j v=>[]) [0,11,12] [] [] (fun s=>[]) (fun s=>[]) [] [] ?_ ?_ ?_
 ·intro _ g j _ h _;rw[nC] at h;exact Sj [3,2,4,0,20]
 ·intro _ g j _ t o h _ i _;rw[nC] at h;refine S [3,2,4,0,1,2,6,3] ?_;refine W9 i ?_;refine S [2,2] ?_;refine Jb 46 hn h [0,4,11,12,13] [4] (fun _ h g=>?_) ?_
  ·refine kd [0,4,11,12,13] [4] ?_;refine I [8] ?_ ?_<;>intro _ h
   ·refine I [0] ?_ ?_<;>intro _ h
    ·exact Sj [0]
    refine I [0,13,0] ?_ ?_<;>intro _ h
    ·exact Sj [0]
    refine B [0,13,0] fun _ d h=>?_;refine cA (kD d) ?_;exact Sj [0]
   refine B [0,13] fun _ e h=>?_;refine cA (kD e) ?_;exact je
  intro p h;refine I [4] ?_ ?_<;>intro _ h
  ·exact Sr [3,7]
  refine S [1,3] ?_;refine O1 fun c=>?_;refine LR e1 hn () (fun l k v=>nD N a0 l k) h (fun a v=>[(50,.int (a:Int))]) (fun a v=>[]) [0,11,12,13,48,49] [] [] (fun s=>[]) (fun s=>[]) [0,11,12,13] [] ?_ ?_ ?_
  ·intro _ g a _ h _;rw[nD] at h;exact Sj [3,2,4,0,20]
  ·intro _ g a _ q m h _ b _;rw[nD] at h;refine S [3,2,4,0,1,2,6,3] ?_;refine W9 b ?_;refine B [2,8,13] fun _ f h=>?_;refine cA (As f) ?_;refine kd [0,7,11,12,13,48,49,50] [] ?_;refine I [3,4] ?_ ?_<;>intro _ h
   ·exact Sr [3,7]
   refine S [1,5] ?_;refine MA (AN (U9 b c) ?_);exact le () []
  rintro⟨⟩ h;refine S [5] ?_;refine MA (AN (U9 i n) ?_);exact le () []
 rintro⟨⟩ h;exact Sr [3,7]
def Fu {N a0 a1 r} (h:rN N a0 a1=some r):Spec prog 56 [] [oT a0,oT a1] (.bool r) [] []:=by
 refine so func56 ntmps56 fun i hn=>?_;unfold rN at h;refine I [3,2,3,13,13,4] ?_ ?_<;>intro _ h
 ·exact Sr [3,7]
 refine S [1,2,3] ?_;refine O1 fun d=>?_;refine LR e1 hn () (fun l k v=>mb N a1 l k) h (fun c v=>[(13,.int (c:Int))]) (fun c v=>[]) [0,1,12] [] [] (fun s=>[]) (fun s=>[]) [] [] ?_ ?_ ?_
 ·intro _ g c _ h _;rw[mb] at h;exact Sj [3,2,4,0,20]
 ·intro _ g c _ f e h _ a _;rw[mb] at h;refine S [3,2,4,0,1,2,6,3,2,8] ?_;refine W9 a ?_;refine B [] fun _ b h=>?_;refine H5 b ?_;refine I [4] ?_ ?_<;>intro _ h
  ·exact Sr [3,7]
  refine S [1,5] ?_;refine MA (AN (U9 a d) ?_);exact le () []
 rintro⟨⟩ h;exact Sr [3,7]
end
end Go.Proofs.YtibjcppjfkamhaaGreatDoor
