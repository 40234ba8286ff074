import Derived.Test.YtibjcppjfkamhaaGreatDoorC
set_option linter.unusedVariables false
set_option linter.defProp false
set_option linter.unusedSimpArgs false
namespace Go.Proofs.YtibjcppjfkamhaaGreatDoor
open Go.RowKit Go.Proofs.Tryz
open _root_.And renaming intro->A5
open _root_.List renaming replicate->AG
open _root_.Or renaming inl->A9
section
set_option maxHeartbeats 40000000
set_option maxRecDepth 100000
def mL {N a0 r} (h:hX N a0=some r):Sp 36 [.str a0] (.bool r):=by
 refine so func36 ntmps36 fun m hn=>?_;refine S [3,2,2] ?_;refine Jb 11 hn h [0] [] (fun _ h g=>?_) ?_
 ·exact E8 [5,18] [0] [0,18,0]
 intro j h;refine Ir [4] [3,7] fun _ h=>?_;refine S [1,2,3,18] ?_;refine j4.bC 13 rfl (fun b=>?_);refine LU e1 hn () (fun l k v=>Y0 N a0 l k) h (fun e v=>[(14,.int (e:Int))]) (fun e v=>[]) [0,13] [] [] nl nl [] [] ?_ ?_ ?_
 ·intro _ g e _ h _;rw[Y0] at h;exact Sj [3,2,4,0,20]
 ·intro _ g e _ f h a _;rw[Y0] at h;refine S [3,2,4,0,1,2,6,3,2] ?_;refine Jb 26 hn h [0,13,14] [] (fun _ h g=>?_) ?_
  ·refine B [5] fun _ c h=>?_;refine jm c ?_;refine Ij [10] [0] fun _ h=>?_;refine B [0] fun _ d h=>?_;refine jm d ?_;exact Sj [0,10,0]
  intro i h;refine Ir [4] [3,7] fun _ h=>?_;refine S [1,5] ?_;refine A9 (A5 (ct a b) ?_);exact le () []
 rintro⟨⟩ h;exact Sr [3,7]
def kF {N a0 a1 r} (h:gQ N a0 a1=some r):Sp 37 [.agg (ba a0),.int a1] (.int r):=by
 refine so func37 ntmps37 fun n hn=>?_;refine S [3,3,2,3] ?_;refine LF e0 hn (a1,(0:Int),(0:Int)) (fun l v=>hM N a0 l v.1 v.2.1 v.2.2) h (fun v=>[(1,.int v.1),(5,.int v.2.1),(6,.int v.2.2)]) (fun v=>[]) [2] [2] [] (fun s=>[(5,.int s)]) nl [] [] ?_ ?_
 ·rintro _ g ⟨k,i,j⟩ e h;rw[hM] at h;refine S [2,2] ?_;refine Jb 22 hn h [1,2,5,6] [2] (fun _ h g=>?_) ?_
  ·refine I [5] ?_ ?_<;>intro _ h
   ·exact E8 [0,13,0] [0,13,0] [0]
   exact Sj [0]
  intro f h;refine I [4] ?_ ?_<;>intro _ h
  ·refine B [1,2,6,3] fun c a h=>?_;refine Q9 a ?_;refine B [12,5] fun d b h=>?_;refine Q9 b ?_;refine kd [1,2,5,6] [2] ?_;refine S [5,12] ?_;exact le (d.aH,(wr (i+c.aC)),(wr (j+(1:Int)))) []
  exact Sj [20]
 intro m h;exact Sr [3,7]
def Y6 {N a0 a1 r} (h:Q3 N a0 a1=some r):Sp 107 [.int a0,.int a1] (.bool r):=by
 refine so func107 ntmps107 fun b hn=>?_;refine S [3,2] ?_;refine Jb 4 hn h [] [] (fun _ h g=>?_) ?_
 ·exact E8 [5] [0] [0]
 intro a h;exact Sr [7]
def tJ {N a0 a1 a2 a3 r} (h:kM N a0 a1 a2 a3=some r):Sp 74 [.fp (ba a0),.int a1,.fp (X7 a2),.agg (dF a3)] (.int r):=by
 refine so func74 ntmps74 fun q hn=>?_;refine S [3,3,3,2,3] ?_;refine J e1 hn h (fun s=>[(10,.bool s.1),(11,.bool s.2)]) nl [7] [7] (fun _ h g=>?_) ?_
 ·refine S [6,2,3] ?_;refine Jb 14 hn h [0,1,2,7,9,11,13] [7] (fun _ h g=>?_) ?_
  ·refine Ij [4] [1] fun _ h=>?_;refine S [3] ?_;refine cK 14 hn h [0,1,2,7,9,11,13] [7] [] fun _ h g=>?_;refine Ij [4] [1] fun _ h=>?_;refine S [3] ?_;refine cK 14 hn h [0,1,2,7,9,11,13] [7] [] fun _ h g=>?_;refine Ij [4] [1] fun _ h=>?_;refine S [3] ?_;refine cK 14 hn h [0,1,2,7,9,11,13] [7] [] fun _ h g=>?_;refine Ij [4] [1] fun _ h=>?_;refine S [3] ?_;refine cK 14 hn h [0,1,2,7,9,11,13] [7] [] fun _ h g=>?_;refine Ij [4] [1] fun _ h=>?_;refine kd [0,1,2,7,9,11,13] [7] ?_;refine S [3] ?_;refine cK 14 hn h [0,1,2,7,9,11,13] [7] [] fun _ h g=>?_;exact E8 [4] [1] [5]
  intro p h;refine Jk e1 hn h (fun s=>[(10,.bool s.1),(11,.bool s.2)]) nl [7] [7] [] fun _ h g=>?_;refine Ij [4] [5] fun _ h=>?_;refine S [3] ?_;refine Jk e1 hn h (fun s=>[(10,.bool s.1),(11,.bool s.2)]) nl [7] [7] [] fun _ h g=>?_;refine I [4] ?_ ?_<;>intro _ h
  ·refine B [8] fun _ a h=>?_;refine cA (Y6 a) ?_;exact je
  refine S [2,3] ?_;refine Jb 35 hn h [0,1,2,7,9,11,13] [7] (fun _ h g=>?_) ?_
  ·exact E8 [4] [1] [5]
  intro j h;refine Jk e1 hn h (fun s=>[(10,.bool s.1),(11,.bool s.2)]) nl [7] [7] [] fun _ h g=>?_;refine I [4] ?_ ?_<;>intro _ h
  ·refine B [8] fun _ b h=>?_;refine cA (Y6 b) ?_;exact je
  refine S [2,3] ?_;refine Jb 46 hn h [0,1,2,7,9,11,13] [7] (fun _ h g=>?_) ?_
  ·exact E8 [4] [1] [5]
  intro k h;refine Jk e1 hn h (fun s=>[(10,.bool s.1),(11,.bool s.2)]) nl [7] [7] [] fun _ h g=>?_;refine I [4] ?_ ?_<;>intro _ h
  ·refine B [8] fun _ c h=>?_;refine cA (kF c) ?_;refine B [] fun _ d h=>?_;refine cA (Y6 d) ?_;exact je
  refine S [3] ?_;refine Jk e1 hn h (fun s=>[(10,.bool s.1),(11,.bool s.2)]) nl [7] [7] [] fun _ h g=>?_;refine I [4] ?_ ?_<;>intro _ h
  ·refine cK 10 hn h [7,11] [7] [] fun _ h g=>?_;exact E8 [5] [0] [0]
  refine S [3] ?_;refine Jk e1 hn h (fun s=>[(10,.bool s.1),(11,.bool s.2)]) nl [7] [7] [] fun _ h g=>?_;refine I [4] ?_ ?_<;>intro _ h
  ·refine cK 10 hn h [7,11] [7] [] fun _ h g=>?_;refine kd [0,7,11] [7] ?_;refine Ij [8] [0] fun _ h=>?_;exact E8 [0] [0,13,0] [0]
  refine S [3] ?_;refine Jk e1 hn h (fun s=>[(10,.bool s.1),(11,.bool s.2)]) nl [7] [7] [] fun _ h g=>?_;refine I [4] ?_ ?_<;>intro _ h
  ·refine B [5] fun _ e h=>?_;refine cA (Y6 e) ?_;exact je
  refine S [2,3] ?_;refine Jb 94 hn h [2,7,9,11] [7] (fun _ h g=>?_) ?_
  ·exact E8 [4] [1] [5]
  intro l h;refine I [4] ?_ ?_<;>intro _ h
  ·refine B [8,13] fun _ f h=>?_;refine cA (Y6 f) ?_;exact je
  exact Sr [3,7]
 rintro⟨n,o⟩ h;refine Ir [2,6,3,4] [3,7] fun _ h=>?_;refine S [2] ?_;refine Jb 109 hn h [] [] (fun _ h g=>?_) ?_
 ·refine I [5] ?_ ?_<;>intro _ h
  ·refine B [0] fun _ i h=>?_;refine cA (mL i) ?_;refine Ij [0] [0] fun _ h=>?_;refine I [0] ?_ ?_<;>intro _ h
   ·refine Ij [0] [0] fun _ h=>?_;exact E8 [0] [0] [0]
   exact E8 [0] [0] [0]
  refine I [0] ?_ ?_<;>intro _ h
  ·refine Ij [0] [0] fun _ h=>?_;exact E8 [0] [0] [0]
  exact E8 [0] [0] [0]
 intro m h;exact fB [4] [3,7] [1,3,7]
def tX {N a0 r} (h:kS N a0=some r):Sp 108 [.agg (dF a0)] (.aS [.int r.1,.int r.2]):=by
 refine so func108 ntmps108 fun b hn=>?_;refine S [3,2,3,6,2,3] ?_;refine Jb 6 hn h [1,5] [1] (fun _ h g=>?_) ?_
 ·refine Ij [4] [1] fun _ h=>?_;refine S [3] ?_;refine cK 6 hn h [1,5] [1] [] fun _ h g=>?_;refine Ij [4] [1] fun _ h=>?_;refine S [3] ?_;refine cK 6 hn h [1,5] [1] [] fun _ h g=>?_;refine Ij [4] [1] fun _ h=>?_;refine S [3] ?_;refine cK 6 hn h [1,5] [1] [] fun _ h g=>?_;exact E8 [4] [1] [5]
 intro a h;refine Ir [4] [3,7] fun _ h=>?_;refine Ir [3,4] [3,7] fun _ h=>?_;refine Ir [3,4] [3,12,7] fun _ h=>?_;exact fB [3,4] [3,7] [1,3,7]
def tE {N a0 r} (h:kN N a0=some r):Sq 75 [] [.agg (X7 a0)] (.aS [.aG 0,.agg (kr r.2)]) [(0,w3 r.1)] [0]:=by
 refine so func75 ntmps75 fun W hn=>?_;refine A [3,3,13] fun z h=>?_;refine sA (enc:=Q0) (x:=(0:Int)) z aT ?_;refine S [2,3,13] ?_;refine j4.bC 17 rfl (fun u=>?_);refine LU e0 hn (AG (a0.code.length:Int).toNat (0:Int)) (fun l k v=>O6 N l k v) h (fun y v=>[(18,.int (y:Int))]) (fun y v=>[(15,w3 v)]) [1,3,4,17] [1,3] [] nl (fun s=>[(15,w3 s)]) [1,3,4] [1,3] ?_ ?_ ?_
 ·intro _ g y G h _;rw[O6] at h;exact Sj [3,2,4,0,20]
 ·intro _ g y G H h m _;rw[O6] at h;refine B [3,2,4,0,1,2,6,3,5] fun _ c h=>?_;refine cT c ?_;refine sM (K3 c).2 (-1:Int) ?_;refine S [5] ?_;refine A9 (A5 (ct m u) ?_);exact le (G.set ((y:Int).toNat) (-1:Int)) []
 intro V h;refine S [3] ?_;refine bS kq [(⟨(0:Int),(0:Int)⟩:M9)] ?_;refine S [2] ?_;refine LF e1 hn (V,[(⟨(0:Int),(0:Int)⟩:M9)]) (fun l v=>R6 N a0 l v.1 v.2) h (fun v=>[]) (fun v=>[(15,w3 v.1),(26,kk v.2)]) [1,3,4,6] [1,3] [] nl (fun s=>[(15,w3 s)]) [3,4] [3] ?_ ?_
 ·rintro _ g ⟨L,M⟩ K h;rw[R6] at h;refine I [2,3,13,4] ?_ ?_<;>intro _ h
  ·refine S [1] ?_;refine J e1 hn h (fun s=>[(6,.aG 39)]) (fun s=>[(15,w3 s.1),(39,kk s.2)]) [1,3,4] [1,3] (fun _ h g=>?_) ?_
   ·refine B [6,2,8] fun E d h=>?_;refine cT d ?_;refine S [17] ?_;refine dV (K3 d).2 ?_;refine B [] fun n e h=>?_;refine cT e ?_;refine S [17] ?_;refine dV (K3 e).2 ?_;refine kd [1,3,4,6,7,8] [1,3,15,26] ?_;refine A [3] fun o h=>?_;refine x8 o rfl rfl ?_;refine S [2,2] ?_;refine Jb 48 hn h [1,3,4,6,7,8] [1,3,15,39] (fun _ h g=>?_) ?_
    ·exact E8 [5] [0] [0,13,0]
    intro P h;refine I [4] ?_ ?_<;>intro _ h
    ·refine S [2,8,13] ?_;refine nR 2 202 1 3 ?_;exact Sr [7] [(0,202)]
    refine B [1,2,3] fun _ f h=>?_;refine cT f ?_;refine dV (K3 f).2 ?_;refine I [4] ?_ ?_<;>intro _ h
    ·refine B [2,3] fun _ i h=>?_;refine cT i ?_;refine dV (K3 i).2 ?_;refine I [4] ?_ ?_<;>intro _ h
     ·refine kd [3,7] [3] ?_;refine S [3] ?_;refine nR 2 202 1 3 ?_;exact Sr [7] [(0,202)]
     exact Sj [1,20]
    refine B [1,3] fun _ j h=>?_;refine cT j ?_;refine sM (K3 j).2 n.f1 ?_;refine B [3] fun F w h=>?_;refine Q9 w ?_;refine kd [1,3,4,6,7,8,9] [1,3,9,15,39] ?_;refine B [3] fun b t h=>?_;refine cA (tX t) ?_;refine S [2,2] ?_;refine Jb 91 hn h [1,3,4,6,7,8,9,10,11] [1,3,9,15,39] (fun _ h g=>?_) ?_
    ·refine Ij [5] [0] fun _ h=>?_;exact E8 [0] [0] [0]
    intro Q h;refine I [4] ?_ ?_<;>intro _ h
    ·refine S [3] ?_;refine nR 2 202 1 3 ?_;exact Sr [7] [(0,202)]
    refine I [1,3,12,12,2,3,4] ?_ ?_<;>intro _ h
    ·refine kd [3,7] [3] ?_;refine S [3] ?_;refine nR 2 202 1 3 ?_;exact Sr [7] [(0,202)]
    refine S [1,2,2] ?_;refine Jb 110 hn h [1,3,4,6,7,8,9] [1,3,9,15,39] (fun _ h g=>?_) ?_
    ·refine kd [1,3,4,6,7,8,9] [1,3,9,15,39] ?_;exact E8 [5] [0] [0]
    intro R h;refine J e0 hn h (fun s=>[(6,.aG 117)]) (fun s=>[(117,kk s)]) [1,3,4,8,9] [1,3,9,15] (fun _ h g=>?_) ?_
    ·refine I [4] ?_ ?_<;>intro _ h
     ·refine S [5,12] ?_;refine bS kq [(⟨(wr (E.f0+(1:Int))),(wr (n.f1+(wr (b.2-b.1))))⟩:M9)] ?_;refine A [] fun p h=>?_;refine aM p ?_;exact je
     exact Sj [1] [(117,39)]
    intro T h;refine S [2] ?_;refine Jb 125 hn h [1,3,4,6,8,9] [1,3,9,15,117] (fun _ h g=>?_) ?_
    ·exact E8 [5] [0] [0]
    intro U h;refine Jk e0 hn h (fun s=>[(6,.aG 132)]) (fun s=>[(132,kk s)]) [1,3,4] [1,3,15] [(39,132)] fun _ h g=>?_;refine I [4] ?_ ?_<;>intro _ h
    ·refine S [5] ?_;refine bS kq [(⟨F.a,(wr (n.f1+(wr (b.2-b.1))))⟩:M9)] ?_;refine A [] fun q h=>?_;refine aM q ?_;exact je
    exact Sj [1] [(132,117)]
   rintro⟨C,D⟩ h;exact le (C,D) [(26,39)]
  exact Sj [20]
 intro O h;exact Sr [3,7] [(0,15)]
def tb {N a0 a1 a2 r} (h:kX N a0 a1 a2=some r):Sp 39 [.agg (ba a0),.int a1,.agg (X7 a2)] (.agg (kr r)):=by
 refine so func39 ntmps39 fun p hn=>?_;refine S [3,2,6,2] ?_;refine Jb 12 hn h [1,3,5,6] [3,5,6] (fun _ h g=>?_) ?_
 ·exact E8 [5] [0] [0,13,0]
 intro n h;refine Ir [4] [3,7] fun _ h=>?_;refine B [3] fun _ i h=>?_;refine cA (mL i) ?_;refine Ir [4] [3,7] fun _ h=>?_;refine S [2] ?_;refine Jb 29 hn h [1,3,5,6] [3,5,6] (fun _ h g=>?_) ?_
 ·refine Ij [5] [0] fun _ h=>?_;refine Ij [0] [0] fun _ h=>?_;exact E8 [0] [0] [0]
 intro o h;refine Ir [4] [3,7] fun _ h=>?_;refine Ir [3,4] [3,7] fun _ h=>?_;refine S [2] ?_;refine Jb 54 hn h [1,3,5,6] [3,5,6] (fun _ h g=>?_) ?_
 ·exact E8 [5,13] [0] [0,13,0]
 intro j h;refine Ir [4] [3,7] fun _ h=>?_;refine S [1,2,3] ?_;refine M8 fun c=>?_;refine j4.gh (Gh.bz 3 3 rfl rfl rfl) (fun _=>?_);refine j4.gh (Gh.bz 5 5 rfl rfl rfl) (fun _=>?_);refine LR e1 hn () (fun l k v=>Y5 N a0 a1 a2 l k) h (fun a v=>[(69,.int (a:Int))]) (fun a v=>[]) [1,3,5,6,67,68] [6] [] nl nl [5,6] [6] ?_ ?_ ?_
 ·intro _ g a _ h _;rw[Y5] at h;exact Sj [3,2,4,0,20]
 ·intro _ g a _ m f h _ b _;rw[Y5] at h;refine S [3,2,4,0,1,2,6,3] ?_;refine P9 b ?_;refine B [3] fun _ d h=>?_;refine cA (tJ d) ?_;refine kd [1,3,5,6,7,9,67,68,69] [6] ?_;refine Ir [3,4] [3,7] fun _ h=>?_;refine S [1,5] ?_;refine A9 (A5 (O4 b c) ?_);exact le () []
 rintro⟨⟩ h;refine B [3] fun _ e h=>?_;refine cA ((tE e).sw 0 85) ?_;exact Sr [3,7]
def W9 {N a0 a1 g2 r} (h:o9 N a0 a1 g2=some r) {o:Nat} (c:∀j k p,g2 j k=some p->Sp o [.agg (X7 j),.str k] (.int p)):Sp 106 [xx a0,.str a1,.fn o []] (.aS [.int r.1,.bool r.2]):=by
 refine so func106 ntmps106 fun y hn=>?_;refine S [3,3,13,3,2] ?_;refine LF e0 hn ((0:Int),(a0.length:Int)) (fun l v=>l5 N a0 a1 g2 l v.1 v.2) h (fun v=>[(9,.int v.1),(10,.int v.2)]) (fun v=>[]) [0,1,2,8] [] [] (fun s=>[(9,.int s)]) nl [0,1,2,8] [] ?_ ?_
 ·rintro _ g ⟨w,x⟩ q h;rw[l5] at h;refine I [2,3,4] ?_ ?_<;>intro _ h
  ·refine S [1] ?_;refine J e0 hn h (fun s=>[(9,.int s.1),(10,.int s.2)]) nl [0,1,2,8] [] (fun _ h g=>?_) ?_
   ·refine A [6,3,12] fun a h=>?_;refine dx a ?_;refine A [10,10] fun b h=>?_;refine dx b ?_;refine B [3] fun _ f h=>?_;refine Q9 f ?_;refine B [] fun _ d h=>?_;refine cA (c _ _ _ d) ?_;refine Jk e0 hn h (fun s=>[(9,.int s.1),(10,.int s.2)]) nl [0,1,2,8] [] [] fun _ h g=>?_;refine I [4] ?_ ?_<;>intro _ h
    ·refine kd [0,1,2,8,10,11] [] ?_;exact Sj [5,12]
    refine kd [0,1,2,8,9,11] [] ?_;exact Sj [5]
   rintro⟨m,n⟩ h;exact le (m,n) []
  exact Sj [20]
 intro u h;refine S [2] ?_;refine J e0 hn h (fun s=>[(6,.int u),(7,.bool s)]) nl [] [] (fun _ h g=>?_) ?_
 ·refine I [5] ?_ ?_<;>intro _ h
  ·refine B [0] fun _ i h=>?_;refine Q9 i ?_;refine B [0] fun _ e h=>?_;refine cA (c _ _ _ e) ?_;exact Sj [0]
  exact Sj [0]
 intro t h;exact Sr [7]
def oy {N a0 r} (h:cmp_isNaN_string N a0=some r):Sp 145 [.str a0] (.bool r):=by
 refine so func145 ntmps145 fun a hn=>?_;exact Sr [3,3,7]
def sK {N a0 a1 r} (h:mD N a0 a1=some r):Sp 105 [.str a0,.str a1] (.int r):=by
 refine so func105 ntmps105 fun c hn=>?_;refine B [3,3] fun _ a h=>?_;refine cA (oy a) ?_;refine B [3] fun _ b h=>?_;refine cA (oy b) ?_;refine I [2,3,4] ?_ ?_<;>intro _ h
 ·exact fB [2,3,4] [3,7] [1,3,7]
 refine Ir [1,2,3,4] [3,7] fun _ h=>?_;refine Ir [1,2,3,4] [3,7] fun _ h=>?_;refine I [1,2,3,4] ?_ ?_<;>intro _ h
 ·refine kd [] [] ?_;exact Sr [3,7]
 refine S [1] ?_;refine kd [] [] ?_;exact Sr [3,7]
def tQ {N a0 a1 r} (h:Z4 N a0 a1=some r):Sp 72 [.agg (X7 a0),.str a1] (.int r):=by
 refine so func72 ntmps72 fun b hn=>?_;refine B [3,3] fun _ a h=>?_;refine cA (sK a) ?_;exact Sr [7]
def tS {N a0 a1 r} (h:kQ N a0 a1=some r):Sp 76 [.agg (eV a0),.int a1] (.int r):=by
 refine so func76 ntmps76 fun d hn=>?_;refine S [3,2,3] ?_;refine J e1 hn h nl nl [] [] (fun _ h g=>?_) ?_
 ·refine S [6,2,3] ?_;refine Jb 7 hn h [1,2,6] [2] (fun _ h g=>?_) ?_
  ·refine Ij [4] [1] fun _ h=>?_;refine S [3] ?_;refine cK 7 hn h [1,2,6] [2] [] fun _ h g=>?_;exact E8 [4] [1] [5]
  intro c h;refine Jk e1 hn h nl nl [] [] [] fun _ h g=>?_;refine I [4] ?_ ?_<;>intro _ h
  ·refine Ir [3,4] [3,7] fun _ h=>?_;exact Sj [1]
  refine S [3] ?_;refine Jk e1 hn h nl nl [] [] [] fun _ h g=>?_;refine I [4] ?_ ?_<;>intro _ h
  ·refine S [2] ?_;refine Jb 23 hn h [] [] (fun _ h g=>?_) ?_
   ·exact E8 [5] [0] [0]
   intro a h;refine Ir [4] [3,7] fun _ h=>?_;exact Sj [1]
  refine I [3,4] ?_ ?_<;>intro _ h
  ·refine S [2] ?_;refine Jb 34 hn h [] [] (fun _ h g=>?_) ?_
   ·exact E8 [5] [0] [0]
   intro b h;refine Ir [4] [3,7] fun _ h=>?_;exact Sj [1]
  exact Sr [3,7]
 rintro⟨⟩ h;exact Sr [3,7]
def tn {N a0 a1 a2 r} (h:kY N a0 a1 a2=some r):Sp 73 [.agg (ba a0),.int a1,.str a2] (.aS [.int r.1,.int r.2]):=by
 refine so func73 ntmps73 fun m hn=>?_;refine S [3,2,3] ?_;refine LF e1 hn (a1,(0:Int)) (fun l v=>Y3 N a0 a2 l v.1 v.2) h (fun v=>[(1,.int v.1),(8,.int v.2)]) (fun v=>[]) [2,3] [3] [] nl nl [] [] ?_ ?_
 ·rintro _ g ⟨k,i⟩ j h;rw[Y3] at h;refine S [2,2] ?_;refine Jb 26 hn h [1,2,3,8] [3] (fun _ h g=>?_) ?_
  ·refine I [5] ?_ ?_<;>intro _ h
   ·exact E8 [0,13,0] [0,13,0] [0]
   exact Sj [0]
  intro f h;refine I [4] ?_ ?_<;>intro _ h
  ·refine B [1,2,6,2,3] fun _ b h=>?_;refine Q9 b ?_;refine B [] fun _ a h=>?_;refine cA (W9 a (fun _ _ _ e=>tQ e)) ?_;refine kd [1,2,3,8,9,10] [3] ?_;refine Ir [3,4] [3,7] fun _ h=>?_;refine B [1,5] fun d c h=>?_;refine Q9 c ?_;refine S [5,12] ?_;exact le (d.aH,(wr (i+(1:Int)))) []
  exact Sj [20]
 rintro⟨⟩ h;exact Sr [3,7]
def sH {N a0 a1 r} (h:X4 N a0 a1=some r):Sq 80 [(1000,.box [.np 1000,.aG 1001] 99),(1001,w5 a0)] [.ptr 1000 0,.str a1] (.aS [.int r.1,.br r.2.1]) [(1000,.box [.np 1000,.aG 2] 99),(2,w5 r.2.2),(1001,.aI)] [2]:=by
 refine so func80 ntmps80 fun b hn=>?_;refine rB 1000 1 1001 320 ?_;refine S [3,3] ?_;refine cA (qP 1000 320) ?_;refine A [3] fun a h=>?_;refine uK a ?_;exact Sr [3,18,7] [(2,14)]
def sI {N a0 a1 r} (h:Y8 N a0 a1=some r):Sq 81 [(1000,.box [.np 1000,.aG 1001] 99),(1001,w5 a0)] [.ptr 1000 0,.ik .u8 a1] (.br r.1) [(1000,.box [.np 1000,.aG 2] 99),(2,w5 r.2),(1001,.aI)] [2]:=by
 refine so func81 ntmps81 fun b hn=>?_;refine rB 1000 1 1001 320 ?_;refine S [3,3] ?_;refine cA (qP 1000 320) ?_;refine S [3] ?_;refine bS (lb .u8) [a1] ?_;refine A [] fun a h=>?_;refine aM a ?_;exact Sr [3,7] [(2,14)]
def k5 {N a0 a1 r} (h:P5 N a0 a1=some r):Sq 46 [(1000,.box [.np 1000,.aG 1001] 99),(1001,w5 a0)] [.ptr 1000 0,.str a1] (.aS []) [(1000,.box [.np 1000,.aG 2] 99),(2,w5 r),(1001,.aI)] [2]:=by
 refine so func46 ntmps46 fun c hn=>?_;refine rB 1000 1 1001 320 ?_;refine B [15,3] fun _ a h=>?_;refine cA (((sH a).sw 1001 320).sw 2 501) ?_;refine B [5] fun _ b h=>?_;refine cA (((sI b).sw 1001 501).sw 2 502) ?_;exact Sr [14] [(2,502)]
def M4 {N a0 a1 r} (h:J3 N a0 a1=some r):Sq 45 [(1000,.box [.np 1000,.aG 1001] 99),(1001,w5 a0),(2000,GL)] [.ptr 1000 0,s3 a1] (.aS []) [(1000,.box [.np 1000,.aG 2] 99),(2,w5 r),(1001,.aI),(2000,GL)] [2]:=by
 refine so func45 ntmps45 fun o hn=>?_;refine rB 1000 1 1001 320 ?_;refine S [15,3] ?_;refine M8 fun e=>?_;refine LR e0 hn a0 (fun l k v=>J6 N l k v) h (fun d v=>[(8,.int (d:Int))]) (fun d v=>[(320,w5 v)]) [0,6,7] [1000,1001,2000] [] nl (fun s=>[(320,w5 s)]) [0] [1000,1001,2000] ?_ ?_ ?_
 ·intro _ g d j h _;rw[J6] at h;exact Sj [3,2,4,0,20]
 ·intro _ g d j m i h _ a _;rw[J6] at h;refine S [3,2,4,0,1,2,6,3] ?_;refine P9 a ?_;refine B [5] fun _ b h=>?_;refine cA (kB N _ _ b) ?_;refine B [] fun f c h=>?_;refine cA (((k5 c).sw 1001 320).sw 2 501) ?_;refine S [5] ?_;refine A9 (A5 (O4 a e) ?_);exact le f [(320,501)]
 intro n h;exact Sr [14] [(2,320)]
def sJ {N a0 a1 r} (h:k7 N a0 a1=some r):Sq 47 [(1000,.box [.np 1000,.aG 1001] 99),(1001,w5 a0),(2000,GL)] [.ptr 1000 0,.fp (X7 a1)] (.aS []) [(1000,.box [.np 1000,.aG 2] 99),(2,w5 r),(1001,.aI),(2000,GL)] [2]:=by
 refine so func47 ntmps47 fun u hn=>?_;refine rB 1000 1 1001 320 ?_;refine B [15,3] fun _ m h=>?_;refine cA (((k5 m).sw 1001 320).sw 2 501) ?_;refine S [2] ?_;refine kd [0,1] [501,1000,1001,2000] ?_;refine S [8,13] ?_;refine bS Q0 [a1.args,a1.aJ,a1.aO,(a1.code.length:Int)] ?_;refine B [] fun p n h=>?_;refine cF (((M4 n).sw 1001 501).sw 2 502) ?_;refine kd [0,1] [502,1000,1001,2000] ?_;refine S [3] ?_;refine M8 fun j=>?_;refine LR e0 hn p (fun l k v=>G9 N l k v) h (fun f v=>[(37,.int (f:Int))]) (fun f v=>[(502,w5 v)]) [0,35,36] [1000,1001,2000] [] nl (fun s=>[(502,w5 s)]) [0] [1000,1001,2000] ?_ ?_ ?_
 ·intro _ g f t h _;rw[G9] at h;exact Sj [3,2,4,0,20]
 ·intro _ g f t e i h _ b _;rw[G9] at h;refine S [3,2,4,0,1,2] ?_;refine J e0 hn h nl (fun s=>[(504,w5 s),(1000,.box [.np 1000,.aG 504] 99)]) [0,35,36,37] [1001,2000] (fun _ h g=>?_) ?_
  ·refine S [6,3] ?_;refine P9 b ?_;refine S [3] ?_;refine bS Q0 [e.op,e.a] ?_;refine B [] fun _ c h=>?_;refine cF (((M4 c).sw 1001 502).sw 2 503) ?_;refine S [3] ?_;refine Jk e0 hn h nl (fun s=>[(504,w5 s),(1000,.box [.np 1000,.aG 504] 99)]) [0,35,36,37] [1001,2000] [] fun _ h g=>?_;refine I [4] ?_ ?_<;>intro _ h
   ·refine kd [0,5,35,36,37] [5,503,1000,1001,2000] ?_;refine B [5] fun _ d h=>?_;refine cA (((k5 d).sw 1001 503).sw 2 504) ?_;exact je
   exact Sj [1] [(504,503)]
  intro o h;refine S [5] ?_;refine A9 (A5 (O4 b j) ?_);exact le o [(502,504)]
 intro q h;exact Sr [14] [(2,502)]
def tc {N a0 r} (h:kZ N a0=some r):Sq 22 [(2000,GL)] [.agg (ba a0)] (s5 r) [(2000,GL)] []:=by
 refine so func22 ntmps22 fun Γ hn=>?_;refine S [3,3] ?_;refine j4.ca 13 [.np 13,.a8] rfl aT ?_;refine nB 13 1 501 1 5 ?_;refine kd [1,3] [1,13,501,2000] ?_;refine S [3,13] ?_;refine bS Q0 [a0.aN,(a0.a7.length:Int)] ?_;refine B [] fun Y K h=>?_;refine cF ((((M4 K).sw 1000 13).sw 1001 501).sw 2 502) ?_;refine S [2,3] ?_;refine M8 fun J=>?_;refine LR e0 hn Y (fun l k v=>U5 N l k v) h (fun E v=>[(25,.int (E:Int))]) (fun E v=>[(502,w5 v)]) [1,3,23,24] [1,13,2000] [] nl (fun s=>[(502,w5 s)]) [1,3] [1,13,2000] ?_ ?_ ?_
 ·intro _ g E Z h _;rw[U5] at h;exact Sj [3,2,4,0,20]
 ·intro _ g E Z j F h _ d _;rw[U5] at h;refine S [3,2,4,0,1,2,6,3] ?_;refine P9 d ?_;refine B [3] fun _ t h=>?_;refine cA ((((k5 t).sw 1000 13).sw 1001 502).sw 2 503) ?_;refine S [3,13] ?_;refine bS Q0 [j.aH,j.aC,(j.aB.length:Int)] ?_;refine B [] fun L u h=>?_;refine cF ((((M4 u).sw 1000 13).sw 1001 503).sw 2 504) ?_;refine kd [1,3,5,23,24,25] [1,5,13,504,2000] ?_;refine S [3] ?_;refine M8 fun o=>?_;refine LR e0 hn L (fun l k v=>U8 N l k v) h (fun a v=>[(46,.int (a:Int))]) (fun a v=>[(504,w5 v)]) [1,3,23,24,25,44,45] [1,13,2000] [] nl (fun s=>[(504,w5 s)]) [1,3,23,24,25] [1,13,2000] ?_ ?_ ?_
  ·intro _ g a R h _;rw[U8] at h;exact Sj [3,2,4,0,20]
  ·intro _ g a R x30 G h _ e _;rw[U8] at h;refine S [3,2,4,0,1,2,6,3] ?_;refine P9 e ?_;refine j4.gh (Gh.bz 7 7 rfl rfl rfl) (fun _=>?_);refine kd [1,3,7,23,24,25,44,45,46] [1,13,504,2000] ?_;refine B [5] fun M w h=>?_;refine cA ((((sJ w).sw 1000 13).sw 1001 504).sw 2 505) ?_;refine S [5] ?_;refine A9 (A5 (O4 e o) ?_);exact le M [(504,505)]
  intro T h;refine S [5] ?_;refine A9 (A5 (O4 d J) ?_);exact le T [(502,504)]
 intro v8 h;refine S [3,13] ?_;refine bS Q0 [(a0.heap.length:Int)] ?_;refine B [] fun O x h=>?_;refine cF ((((M4 x).sw 1000 13).sw 1001 502).sw 2 506) ?_;refine S [2,3] ?_;refine M8 fun p=>?_;refine LR e0 hn O (fun l k v=>U6 N l k v) h (fun b v=>[(63,.int (b:Int))]) (fun b v=>[(506,w5 v)]) [3,61,62] [13,2000] [] nl (fun s=>[(506,w5 s)]) [3] [13,2000] ?_ ?_ ?_
 ·intro _ g b U h _;rw[U6] at h;exact Sj [3,2,4,0,20]
 ·intro _ g b U C H h _ f _;rw[U6] at h;refine S [3,2,4,0,1,2,6,3] ?_;refine P9 f ?_;refine S [3,13] ?_;refine bS Q0 [C.cls,(C.aC.length:Int)] ?_;refine B [] fun P y h=>?_;refine cF ((((M4 y).sw 1000 13).sw 1001 506).sw 2 507) ?_;refine S [3] ?_;refine M8 fun q=>?_;refine LR e0 hn P (fun l k v=>U7 N l k v) h (fun c v=>[(78,.int (c:Int))]) (fun c v=>[(507,w5 v)]) [3,61,62,63,76,77] [13,2000] [] nl (fun s=>[(507,w5 s)]) [3,61,62,63] [13,2000] ?_ ?_ ?_
  ·intro _ g c W h _;rw[U7] at h;exact Sj [3,2,4,0,20]
  ·intro _ g c W D I h _ i _;rw[U7] at h;refine S [3,2,4,0,1,2,6,3] ?_;refine P9 i ?_;refine S [5] ?_;refine bS Q0 [D.k,D.n] ?_;refine B [] fun Q z h=>?_;refine cF ((((M4 z).sw 1000 13).sw 1001 507).sw 2 508) ?_;refine kd [3,61,62,63,76,77,78] [13,508,2000] ?_;refine S [5] ?_;refine A9 (A5 (O4 i q) ?_);exact le Q [(507,508)]
  intro X h;refine S [5] ?_;refine A9 (A5 (O4 f p) ?_);exact le X [(506,507)]
 intro V h;refine A [3] fun m h=>?_;refine cA (sq V 13 506 m) ?_;exact Sr [7]
def k6 {N a0 r} (h:G8 N a0=some r):Sq 85 [(1000,.box (H6 a0) 107),(2000,GL)] [.ptr 1000 0] (.str r.1) [(1000,.box (H6 r.2) 107),(2000,GL)] []:=by
 refine so func85 ntmps85 fun c hn=>?_;refine B [3,3] fun _ a h=>?_;refine cA (tU N _ _ _ a) ?_;refine S [2,2] ?_;refine Jb 20 hn h [0,3,4] [1000,2000] (fun _ h g=>?_) ?_
 ·exact E8 [5] [0] [0]
 intro b h;exact fB [4] [3,3,7] [1,3,3,7]
def C8 {N a0 r} (h:j6 N a0=some r):Sq 83 [(1000,.box (H6 a0) 107),(2000,GL)] [.ptr 1000 0] (.int r.1) [(1000,.box (H6 r.2) 107),(2000,GL)] []:=by
 refine so func83 ntmps83 fun f hn=>?_;refine B [3,3] fun _ a h=>?_;refine cA (k6 a) ?_;refine B [3] fun _ b h=>?_;refine cA (strconv_Atoi_ok N _ _ b) ?_;refine S [2,2] ?_;refine Jb 20 hn h [0,4] [1000,2000] (fun _ h g=>?_) ?_
 ·refine Ij [5,10] [0] fun _ h=>?_;refine B [0] fun _ c h=>?_;refine cA (kB N _ _ c) ?_;exact Sj [0]
 intro e h;refine J e0 hn h nl (fun s=>[(1000,.box (H6 s) 107)]) [0,4] [2000] (fun _ h g=>?_) ?_
 ·exact E8 [4] [5] [1]
 intro d h;exact Sr [3,7]
def R4 {N a0 a1 r} (h:D9 N a0 a1=some r):Sq 84 [(1000,.box (H6 a0) 107),(2000,GL)] [.ptr 1000 0,.int a1] (.int r.1) [(1000,.box (H6 r.2) 107),(2000,GL)] []:=by
 refine so func84 ntmps84 fun c hn=>?_;refine B [3,3] fun _ a h=>?_;refine cA (C8 a) ?_;refine S [2,2] ?_;refine Jb 14 hn h [0,5] [1000,2000] (fun _ h g=>?_) ?_
 ·exact E8 [5] [0] [0]
 intro b h;exact fB [4] [3,3,7] [1,3,7]
def sL {N a0 r} (h:Q5 N a0=some r):Sq 86 [(1000,.box (H6 a0) 107),(2000,GL)] [.ptr 1000 0] (.agg (X7 r.1)) [(1000,.box (H6 r.2) 107),(2000,GL)] []:=by
 refine so func86 ntmps86 fun F hn=>?_;refine B [3,3] fun _ q h=>?_;refine cA (k6 q) ?_;refine B [] fun _ t h=>?_;refine cA (C8 t) ?_;refine B [] fun _ u h=>?_;refine cA (C8 u) ?_;refine B [] fun _ w h=>?_;refine cA (C8 w) ?_;refine B [2,3] fun C i h=>?_;refine cA (R4 i) ?_;refine nB 3 4 501 5 55 ?_;refine j4.bC 15 rfl (fun c=>?_);refine LU e0 hn (C.2,([]:List Ins)) (fun l k v=>E9 N l k v.1 v.2) h (fun a v=>[(16,.int (a:Int))]) (fun a v=>[(501,lp v.2),(1000,.box (H6 v.1) 107)]) [0,2,3,15] [2,3,2000] [] nl (fun s=>[(501,lp s.2),(1000,.box (H6 s.1) 107)]) [0,2,3] [2,3,2000] ?_ ?_ ?_
 ·rintro _ g a ⟨x,o⟩ h _;rw[E9] at h;exact Sj [3,2,4,0,20]
 ·rintro _ g a ⟨x,o⟩ z h b _;rw[E9] at h;refine B [3,2,4,0,1,2,6,3] fun d j h=>?_;refine cA (C8 j) ?_;refine B [] fun e m h=>?_;refine cA (C8 m) ?_;refine S [2,3] ?_;refine J e0 hn h nl (fun s=>[(4,.box [.int d.1,.int e.1,.int (0:Int),.int (0:Int),.str s.2] 55),(1000,.box (H6 s.1) 107)]) [0,2,3,4,15,16] [2,3,501,2000] (fun _ h g=>?_) ?_
  ·refine I [4] ?_ ?_<;>intro _ h
   ·refine B [5] fun _ n h=>?_;refine cA (k6 n) ?_;exact je
   exact Sj [1]
  rintro⟨y,p⟩ h;refine S [5] ?_;refine bS dF [(⟨d.1,e.1,(0:Int),(0:Int),p⟩:Ins)] ?_;refine A [] fun f h=>?_;refine aM f ?_;refine S [5] ?_;refine A9 (A5 (ct b c) ?_);exact le (y,(o++[(⟨d.1,e.1,(0:Int),(0:Int),p⟩:Ins)])) [(501,33)]
 rintro⟨D,E⟩ h;refine S [3] ?_;refine j4.au 501 rfl ?_;exact Sr [7]
def sG {N a0 r} (h:k9 N a0=some r):Sq 51 [(1000,.box (H6 a0) 107),(2000,GL)] [.ptr 1000 0] (.agg (ba r.1)) [(1000,.box (H6 r.2) 107),(2000,GL)] []:=by
 refine so func51 ntmps51 fun Γ hn=>?_;refine B [3,3] fun _ Y h=>?_;refine cA (C8 Y) ?_;refine B [2,3] fun r3 Z h=>?_;refine cA (R4 Z) ?_;refine nB 3 0 501 4 81 ?_;refine j4.bC 10 rfl (fun J=>?_);refine LU e0 hn (r3.2,([]:List Cl)) (fun l k v=>F6 N l k v.1 v.2) h (fun X v=>[(11,.int (X:Int))]) (fun X v=>[(501,lq v.2),(1000,.box (H6 v.1) 107)]) [0,2,3,10] [2,3,2000] [] nl (fun s=>[(501,lq s.2),(1000,.box (H6 s.1) 107)]) [0,2,3] [2,3,2000] ?_ ?_ ?_
 ·rintro _ g X ⟨v6,v7⟩ h _;rw[F6] at h;exact Sj [3,2,4,0,20]
 ·rintro _ g X ⟨v6,v7⟩ n15 h d _;rw[F6] at h;refine B [3,2,4,0,1,2,6,3] fun K x h=>?_;refine cA (k6 x) ?_;refine B [] fun L y h=>?_;refine cA (C8 y) ?_;refine B [] fun M z h=>?_;refine cA (C8 z) ?_;refine B [2,3] fun r25 C h=>?_;refine cA (R4 C) ?_;refine nB 4 3 502 5 27 ?_;refine j4.bC 21 rfl (fun j=>?_);refine LU e0 hn (r25.2,([]:List Me)) (fun l k v=>x9 N l k v.1 v.2) h (fun a v=>[(22,.int (a:Int))]) (fun a v=>[(502,ll v.2),(1000,.box (H6 v.1) 107)]) [0,2,3,4,10,11,21] [2,3,4,501,2000] [] nl (fun s=>[(502,ll s.2),(1000,.box (H6 s.1) 107)]) [0,2,3,4,10,11] [2,3,4,501,2000] ?_ ?_ ?_
  ·rintro _ g a ⟨v28,Q⟩ h _;rw[x9] at h;exact Sj [3,2,4,0,20]
  ·rintro _ g a ⟨v28,Q⟩ n37 h e _;rw[x9] at h;refine B [3,2,4,0,1,2,6,8] fun o D h=>?_;refine cA (sL D) ?_;refine bS X7 [o.1] ?_;refine A [] fun q h=>?_;refine aM q ?_;refine S [5] ?_;refine A9 (A5 (ct e j) ?_);exact le (o.2,(Q++[o.1])) [(502,29)]
  rintro⟨v32,R⟩ h;refine S [5,12] ?_;refine bS gB [(⟨K.1,L.1,M.1,R⟩:Cl)] ?_;refine A [] fun t h=>?_;refine aM t ?_;refine S [5] ?_;refine A9 (A5 (ct d J) ?_);exact le (v32,(v7++[(⟨K.1,L.1,M.1,R⟩:Cl)])) [(501,36)]
 rintro⟨v10,v11⟩ h;refine B [2,3] fun r45 E h=>?_;refine cA (R4 E) ?_;refine nB 3 1 503 2 92 ?_;refine j4.bC 40 rfl (fun m=>?_);refine LU e0 hn (r45.2,([]:List Ob)) (fun l k v=>F5 N l k v.1 v.2) h (fun b v=>[(41,.int (b:Int))]) (fun b v=>[(503,lr v.2),(1000,.box (H6 v.1) 107)]) [0,2,3,40] [2,3,501,2000] [] nl (fun s=>[(503,lr s.2),(1000,.box (H6 s.1) 107)]) [0,2,3] [2,3,501,2000] ?_ ?_ ?_
 ·rintro _ g b ⟨v48,T⟩ h _;rw[F5] at h;exact Sj [3,2,4,0,20]
 ·rintro _ g b ⟨v48,T⟩ n57 h f _;rw[F5] at h;refine B [3,2,4,0,1,2,6,3] fun O F h=>?_;refine cA (C8 F) ?_;refine B [2,3] fun r63 G h=>?_;refine cA (R4 G) ?_;refine nB 5 1 504 2 29 ?_;refine j4.bC 47 rfl (fun n=>?_);refine LU e0 hn (r63.2,([]:List V)) (fun l k v=>y8 N l k v.1 v.2) h (fun c v=>[(48,.int (c:Int))]) (fun c v=>[(504,ln v.2),(1000,.box (H6 v.1) 107)]) [0,2,3,5,40,41,47] [2,3,5,501,503,2000] [] nl (fun s=>[(504,ln s.2),(1000,.box (H6 s.1) 107)]) [0,2,3,5,40,41] [2,3,5,501,503,2000] ?_ ?_ ?_
  ·rintro _ g c ⟨v66,U⟩ h _;rw[y8] at h;exact Sj [3,2,4,0,20]
  ·rintro _ g c ⟨v66,U⟩ n75 h i _;rw[y8] at h;refine B [3,2,4,0,1,2,6,8] fun P H h=>?_;refine cA (C8 H) ?_;refine B [] fun p I h=>?_;refine cA (C8 I) ?_;refine bS eV [(⟨P.1,p.1⟩:V)] ?_;refine A [] fun u h=>?_;refine aM u ?_;refine kd [0,2,3,5,40,41,47,48] [2,3,5,58,501,503,1000,2000] ?_;refine S [5] ?_;refine A9 (A5 (ct i n) ?_);exact le (p.2,(U++[(⟨P.1,p.1⟩:V)])) [(504,58)]
  rintro⟨v70,W⟩ h;refine S [5,12] ?_;refine bS ig [(⟨O.1,W⟩:Ob)] ?_;refine A [] fun w h=>?_;refine aM w ?_;refine S [5] ?_;refine A9 (A5 (ct f m) ?_);exact le (v70,(T++[(⟨O.1,W⟩:Ob)])) [(503,65)]
 rintro⟨v52,v53⟩ h;refine S [3] ?_;refine j4.au 501 rfl ?_;refine j4.au 503 rfl ?_;exact Sr [7]
def sS {N a0 a1 r} (h:jF N a0 a1=some r):Sp 38 [.fp (ba a0),.fp (X7 a1)] (.bool r):=by
 refine so func38 ntmps38 fun e hn=>?_;refine B [3,2,8] fun _ a h=>?_;refine cA (tn a) ?_;refine S [2] ?_;refine Jb 4 hn h [] [] (fun _ h g=>?_) ?_
 ·refine kd [0,1,6] [] ?_;refine I [8] ?_ ?_<;>intro _ h
  ·refine B [0] fun _ b h=>?_;refine Q9 b ?_;refine B [0] fun _ c h=>?_;refine Q9 c ?_;refine I [0] ?_ ?_<;>intro _ h
   ·refine I [0] ?_ ?_<;>intro _ h
    ·exact E8 [0] [0,13,0] [0]
    exact Sj [0]
   exact Sj [0]
  exact Sj [0]
 intro d h;exact Sr [7]
def sR {N a0 r} (h:nA N a0=some r):Sp 40 [.fp (ba a0)] (.int r):=by
 refine so func40 ntmps40 fun t hn=>?_;refine S [3,2,3] ?_;refine M8 fun n=>?_;refine LR e1 hn () (fun l k v=>gO N a0 l k) h (fun j v=>[(13,.int (j:Int))]) (fun j v=>[]) [0,11,12] [] [] nl nl [] [] ?_ ?_ ?_
 ·intro _ g j _ h _;rw[gO] at h;exact Sj [3,2,4,0,20]
 ·intro _ g j _ s o h _ i _;rw[gO] at h;refine S [3,2,4,0,1,2,6,3] ?_;refine P9 i ?_;refine S [2,2] ?_;refine Jb 46 hn h [0,4,11,12,13] [4] (fun _ h g=>?_) ?_
  ·refine kd [0,4,11,12,13] [4] ?_;refine I [8] ?_ ?_<;>intro _ h
   ·refine Ij [0] [0] fun _ h=>?_;refine Ij [0,13,0] [0] fun _ h=>?_;refine B [0,13,0] fun _ d h=>?_;refine cA (kF d) ?_;exact Sj [0]
   refine B [0,13] fun _ e h=>?_;refine cA (kF e) ?_;exact je
  intro p h;refine Ir [4] [3,7] fun _ h=>?_;refine S [1,3] ?_;refine M8 fun c=>?_;refine LR e1 hn () (fun l k v=>gP N a0 l k) h (fun a v=>[(50,.int (a:Int))]) (fun a v=>[]) [0,11,12,13,48,49] [] [] nl nl [0,11,12,13] [] ?_ ?_ ?_
  ·intro _ g a _ h _;rw[gP] at h;exact Sj [3,2,4,0,20]
  ·intro _ g a _ q m h _ b _;rw[gP] at h;refine S [3,2,4,0,1,2,6,3] ?_;refine P9 b ?_;refine B [2,8,13] fun _ f h=>?_;refine cA (tS f) ?_;refine kd [0,7,11,12,13,48,49,50] [] ?_;refine Ir [3,4] [3,7] fun _ h=>?_;refine S [1,5] ?_;refine A9 (A5 (O4 b c) ?_);exact le () []
  rintro⟨⟩ h;refine S [5] ?_;refine A9 (A5 (O4 i n) ?_);exact le () []
 rintro⟨⟩ h;exact Sr [3,7]
def qH {N a0 r} (h:hZ N a0=some r):Sp 20 [.agg (ba a0)] (.int r):=by
 refine so func20 ntmps20 fun T hn=>?_;refine B [3,3] fun F E h=>?_;refine cA (sQ N _ E) ?_;refine S [2,2] ?_;refine Jb 31 hn h [1,3] [1,3] (fun _ h g=>?_) ?_
 ·refine Ij [5,13,13] [0] fun _ h=>?_;exact E8 [0,13,0] [0] [0,13,0]
 intro R h;refine Ir [4] [3,7] fun _ h=>?_;refine S [1,2,2] ?_;refine Jb 39 hn h [1,3] [1,3] (fun _ h g=>?_) ?_
 ·exact E8 [5] [0] [0]
 intro K h;refine Ir [4] [3,7] fun _ h=>?_;refine S [1,3,2,3] ?_;refine M8 fun o=>?_;refine LR e1 hn ([]:(List (ByteArray×Bool))) (fun l k v=>Y2 N F l k v) h (fun b v=>[(44,.int (b:Int))]) (fun b v=>[(40,.ax (List.map fr v))]) [1,3,4,42,43] [1,3] [] nl nl [1,3] [1,3] ?_ ?_ ?_
 ·intro _ g b y h _;rw[Y2] at h;exact Sj [3,2,4,0,20]
 ·intro _ g b y G z h _ d _;rw[Y2] at h;refine S [3,2,4,0,1,2,6,3] ?_;refine P9 d ?_;refine S [2,2] ?_;refine Jb 76 hn h [1,3,4,5,6,42,43,44] [1,3,6,40] (fun _ h g=>?_) ?_
  ·refine kd [1,3,4,5,6,42,43,44] [1,3,6,40] ?_;refine B [8] fun _ s h=>?_;refine cA (mL s) ?_;refine Ij [] [0] fun _ h=>?_;refine S [0] ?_;refine xf rfl rfl rfl rfl ?_;refine Ij [0] [0] fun _ h=>?_;refine I [0,13,0] ?_ ?_<;>intro _ h
   ·refine B [0] fun _ u h=>?_;refine Q9 u ?_;exact Sj [0]
   exact Sj [0]
  intro L h;refine Ir [4] [3,7] fun _ h=>?_;refine A [1,3] fun n h=>?_;refine uC rfl rfl n ?_;refine S [2] ?_;refine Jb 138 hn h [1,3,4,42,43,44] [1,3,40] (fun _ h g=>?_) ?_
  ·refine kd [1,3,4,5,6,42,43,44] [1,3,6,40] ?_;refine I [8,13] ?_ ?_<;>intro _ h
   ·refine B [0] fun _ w h=>?_;refine Q9 w ?_;refine Ij [0] [0] fun _ h=>?_;refine Ij [0] [0] fun _ h=>?_;refine I [0,13,0] ?_ ?_<;>intro _ h
    ·refine Ij [0] [0] fun _ h=>?_;refine Ij [0] [0] fun _ h=>?_;refine I [0] ?_ ?_<;>intro _ h
     ·refine Ij [0] [0] fun _ h=>?_;exact E8 [0] [0] [0]
     exact E8 [0] [0] [0]
    exact E8 [0] [0] [0]
   refine I [0,13] ?_ ?_<;>intro _ h
   ·refine Ij [0] [0] fun _ h=>?_;refine Ij [0] [0] fun _ h=>?_;refine I [0] ?_ ?_<;>intro _ h
    ·refine Ij [0] [0] fun _ h=>?_;exact E8 [0] [0] [0]
    exact E8 [0] [0] [0]
   exact E8 [0] [0] [0]
  intro M h;refine Ir [4] [3,7] fun _ h=>?_;refine S [1,5] ?_;refine A9 (A5 (O4 d o) ?_);exact le (c7 G.name true y) []
 rintro⟨⟩ h;refine S [2,3] ?_;refine M8 fun p=>?_;refine j4.gh (Gh.bz 3 3 rfl rfl rfl) (fun _=>?_);refine LR e1 hn () (fun l k v=>Y4 N a0 F l k) h (fun a v=>[(143,.int (a:Int))]) (fun a v=>[]) [1,3,141,142] [1] [] nl nl [1] [1] ?_ ?_ ?_
 ·intro _ g a _ h _;rw[Y4] at h;exact Sj [3,2,4,0,20]
 ·intro _ g a _ H C h _ e _;rw[Y4] at h;refine S [3,2,4,0,1,2,6,3] ?_;refine P9 e ?_;refine B [2,3] fun _ t h=>?_;refine cA (kF t) ?_;refine Ir [4] [3,7] fun _ h=>?_;refine I [1,2,3,13,4] ?_ ?_<;>intro _ h
  ·refine kd [] [] ?_;exact Sr [3,7]
  refine S [1] ?_;refine kd [1,3,7,8,141,142,143] [1,8] ?_;refine S [3] ?_;refine M8 fun q=>?_;refine LR e1 hn () (fun l k v=>Y1 N a0 F a H l k) h (fun c v=>[(159,.int (c:Int))]) (fun c v=>[]) [1,3,7,8,141,142,143,157,158] [1,8] [] nl nl [1,3,141,142,143] [1] ?_ ?_ ?_
  ·intro _ g c _ h _;rw[Y1] at h;exact Sj [3,2,4,0,20]
  ·intro _ g c _ Q D h _ f _;rw[Y1] at h;refine S [3,2,4,0,1,2] ?_;refine J e1 hn h nl nl [1,3,7,8,141,142,143,157,158,159] [1,8] (fun _ h g=>?_) ?_
   ·refine S [6,3] ?_;refine P9 f ?_;refine S [2,2] ?_;refine Jb 177 hn h [1,3,7,8,10,141,142,143,157,158,159] [1,8,10] (fun _ h g=>?_) ?_
    ·refine I [8] ?_ ?_<;>intro _ h
     ·refine B [0,12,0] fun _ x h=>?_;refine Q9 x ?_;exact Sj [0]
     exact Sj [0]
    intro O h;refine Ir [4] [3,7] fun _ h=>?_;refine S [1,2,2] ?_;refine j4.gh (Gh.bz 10 10 rfl rfl rfl) (fun _=>?_);refine Jb 187 hn h [1,3,7,8,10,141,142,143,157,158,159] [1,8] (fun _ h g=>?_) ?_
    ·refine I [5] ?_ ?_<;>intro _ h
     ·refine I [0] ?_ ?_<;>intro _ h
      ·refine B [] fun _ i h=>?_;refine cA (sS i) ?_;exact Sj [0]
      exact Sj [0]
     exact Sj [0]
    intro P h;refine Ij [4] [20] fun _ h=>?_;refine B [1,3] fun _ j h=>?_;refine cA (tb j) ?_;refine kd [1,3,7,8,11,141,142,143,157,158,159] [1,8,11] ?_;refine Ir [3,4] [3,7] fun _ h=>?_;exact Sj [1]
   rintro⟨⟩ h;refine S [5] ?_;refine A9 (A5 (O4 f q) ?_);exact le () []
  rintro⟨⟩ h;refine S [5] ?_;refine A9 (A5 (O4 e p) ?_);exact le () []
 rintro⟨⟩ h;refine j4.gh (Gh.bz 1 1 rfl rfl rfl) (fun _=>?_);refine kd [1] [] ?_;refine B [3] fun _ m h=>?_;refine cA (sR m) ?_;exact Sr [7]
def th {N a0 r} (h:kV N a0=some r):Sq 24 [(2000,GL)] [s5 a0] (.aS [.agg (ba r.1),.int r.2]) [(2000,GL)] []:=by
 refine so func24 ntmps24 fun d hn=>?_;refine S [3,3] ?_;refine Exists.intro a0 (A5 rfl ?_);refine B [3] fun _ a h=>?_;refine cA ((sG a).sw 1000 10) ?_;refine S [2,2] ?_;refine Jb 24 hn h [2,5] [2,5,2000] (fun _ h g=>?_) ?_
 ·exact E8 [5] [0] [0]
 intro c h;refine Ir [4] [3,7] fun _ h=>?_;refine B [1,2,3] fun _ b h=>?_;refine cA (qH b) ?_;exact fB [3,4] [3,7] [1,3,7]
def mI {N a0 r} (h:hW N a0=some r):Sp 41 [.str a0] (.bool r):=by
 refine so func41 ntmps41 fun j hn=>?_;refine S [3,2,3,18] ?_;refine j4.bC 5 rfl (fun b=>?_);refine LU e1 hn () (fun l k v=>V4 N a0 l k) h (fun e v=>[(6,.int (e:Int))]) (fun e v=>[]) [0,5] [] [] nl nl [0] [] ?_ ?_ ?_
 ·intro _ g e _ h _;rw[V4] at h;exact Sj [3,2,4,0,20]
 ·intro _ g e _ n6 h a _;rw[V4] at h;refine S [3,2,4,0,1,2,6,3,2] ?_;refine Jb 18 hn h [0,5,6] [] (fun _ h g=>?_) ?_
  ·refine B [5] fun _ c h=>?_;refine jm c ?_;refine Ij [10] [0] fun _ h=>?_;refine B [0] fun _ d h=>?_;refine jm d ?_;exact Sj [0,10,0]
  intro f h;refine Ir [4] [3,7] fun _ h=>?_;refine S [1,5] ?_;refine A9 (A5 (ct a b) ?_);exact le () []
 rintro⟨⟩ h;refine S [2] ?_;refine Jb 2 hn h [] [] (fun _ h g=>?_) ?_
 ·exact E8 [5,18] [0,18,0] [0]
 intro i h;exact Sr [7]
def tz {N a0 a1 r} (h:ka N a0 a1=some r):Sq 77 [] [.agg (ba a0),.int a1] (.aG 0) [(0,w3 r)] [0]:=by
 refine so func77 ntmps77 fun k hn=>?_;refine S [3,3,2] ?_;refine nR 5 205 1 3 ?_;refine LF e0 hn (a1,([]:List Int)) (fun l v=>hO N a0 l v.1 v.2) h (fun v=>[(1,.int v.1)]) (fun v=>[(205,w3 v.2)]) [2,5] [2] [] nl (fun s=>[(205,w3 s)]) [5] [] ?_ ?_
 ·rintro _ g ⟨d,i⟩ e h;rw[hO] at h;refine S [2,2] ?_;refine Jb 22 hn h [1,2,5] [2,205] (fun _ h g=>?_) ?_
  ·refine I [5] ?_ ?_<;>intro _ h
   ·exact E8 [0,13,0] [0,13,0,13,0] [0]
   exact Sj [0]
  intro f h;refine I [4] ?_ ?_<;>intro _ h
  ·refine S [1,6,3] ?_;refine bS Q0 [d] ?_;refine A [] fun a h=>?_;refine aM a ?_;refine B [5] fun c b h=>?_;refine Q9 b ?_;exact le (c.aH,(i++[d])) [(205,26)]
  exact Sj [20]
 intro j h;exact Sr [3,7] [(0,205)]
def kC {N a0 a1 r} (h:gM N a0 a1=some r):Sp 42 [.agg (ba a0),.int a1] (.int r):=by
 refine so func42 ntmps42 fun q hn=>?_;refine B [3,3,2,3] fun n f h=>?_;refine cA ((tz f).sw 0 10) ?_;refine M8 fun e=>?_;refine LR e0 hn (0:Int) (fun l k v=>R9 N a0 n l k v) h (fun d v=>[(5,.int v),(12,.int (d:Int))]) (fun d v=>[]) [2,10,11] [2,10] [] (fun s=>[(5,.int s)]) nl [] [] ?_ ?_ ?_
 ·intro _ g d m h _;rw[R9] at h;exact Sj [3,2,4,0,20]
 ·intro _ g d m o i h _ b _;rw[R9] at h;refine B [3,2,4,0,1,2,6,3] fun _ a h=>?_;refine cT a ?_;refine dV (K3 a).2 ?_;refine B [5] fun j c h=>?_;refine Q9 c ?_;refine S [12] ?_;refine kd [2,5,10,11,12] [2,10] ?_;refine S [5] ?_;refine A9 (A5 (O4 b e) ?_);exact le (wr (m+j.aC)) []
 intro p h;exact Sr [3,7]
def sn {N a0 a1 a2 a3 r} (h:Z8 N a0 a1 a2 a3=some r):Sp 78 [.agg (ba a0),.int a1,.agg (X7 a2),.agg (dF a3)] (.int r):=by
 refine so func78 ntmps78 fun n hn=>?_;refine S [3,3,2,3] ?_;refine J e1 hn h (fun s=>[(9,.int s.1),(10,.int s.2)]) nl [7] [7] (fun _ h g=>?_) ?_
 ·refine S [6,2,3] ?_;refine Jb 13 hn h [1,4,6,7,9,10,12] [4,6,7] (fun _ h g=>?_) ?_
  ·refine Ij [4] [1] fun _ h=>?_;refine S [3] ?_;refine cK 13 hn h [1,4,6,7,9,10,12] [4,6,7] [] fun _ h g=>?_;refine Ij [4] [1] fun _ h=>?_;refine S [3] ?_;refine cK 13 hn h [1,4,6,7,9,10,12] [4,6,7] [] fun _ h g=>?_;refine Ij [4] [1] fun _ h=>?_;refine S [3] ?_;refine cK 13 hn h [1,4,6,7,9,10,12] [4,6,7] [] fun _ h g=>?_;refine Ij [4] [1] fun _ h=>?_;refine kd [1,4,6,7,9,10,12] [4,6,7] ?_;refine S [3] ?_;refine cK 13 hn h [1,4,6,7,9,10,12] [4,6,7] [] fun _ h g=>?_;refine Ij [4] [1] fun _ h=>?_;refine S [3] ?_;refine cK 13 hn h [1,4,6,7,9,10,12] [4,6,7] [] fun _ h g=>?_;exact E8 [4] [1] [5]
  intro m h;refine Jk e1 hn h (fun s=>[(9,.int s.1),(10,.int s.2)]) nl [7] [7] [] fun _ h g=>?_;refine Ij [4] [1] fun _ h=>?_;refine S [3] ?_;refine Jk e1 hn h (fun s=>[(9,.int s.1),(10,.int s.2)]) nl [7] [7] [] fun _ h g=>?_;refine Ij [4] [5,12] fun _ h=>?_;refine S [2,3] ?_;refine Jb 26 hn h [1,4,6,7,9,12] [4,6,7] (fun _ h g=>?_) ?_
  ·exact E8 [4] [1] [5]
  intro c h;refine Jk e1 hn h (fun s=>[(9,.int s.1),(10,.int s.2)]) nl [7] [7] [] fun _ h g=>?_;refine Ij [4] [5,12] fun _ h=>?_;refine S [2,3] ?_;refine Jb 32 hn h [1,4,6,7,9,12] [4,6,7] (fun _ h g=>?_) ?_
  ·exact E8 [4] [1] [5]
  intro d h;refine Jk e1 hn h (fun s=>[(9,.int s.1),(10,.int s.2)]) nl [7] [7] [] fun _ h g=>?_;refine I [4] ?_ ?_<;>intro _ h
  ·refine B [5] fun _ a h=>?_;refine cA (kC a) ?_;exact Sj [12]
  refine S [3] ?_;refine Jk e1 hn h (fun s=>[(9,.int s.1),(10,.int s.2)]) nl [7] [7] [] fun _ h g=>?_;refine Ij [4] [5] fun _ h=>?_;refine S [3] ?_;refine Jk e1 hn h (fun s=>[(10,.int s)]) nl [7,9] [7] [] fun _ h g=>?_;refine I [4] ?_ ?_<;>intro _ h
  ·refine S [3,13,12,2] ?_;refine Jb 54 hn h [7,9,10] [7] (fun _ h g=>?_) ?_
   ·exact E8 [5] [0] [0]
   intro e h;refine Ir [4] [3,7] fun _ h=>?_;exact Sj [1]
  refine S [3] ?_;refine Jk e1 hn h (fun s=>[(10,.int s)]) nl [7,9] [7] [] fun _ h g=>?_;refine Ij [4] [5] fun _ h=>?_;refine S [2,3] ?_;refine Jb 57 hn h [6,7,9] [6,7] (fun _ h g=>?_) ?_
  ·exact E8 [4] [1] [5]
  intro f h;refine Ij [4] [5,13,12] fun _ h=>?_;exact Sr [3,7]
 rintro⟨k,l⟩ h;refine S [2,2] ?_;refine Jb 73 hn h [7] [7] (fun _ h g=>?_) ?_
 ·exact E8 [5] [0] [0]
 intro i h;refine Ir [4] [3,7] fun _ h=>?_;refine S [1,2,2] ?_;refine Jb 102 hn h [] [] (fun _ h g=>?_) ?_
 ·refine I [5] ?_ ?_<;>intro _ h
  ·refine B [0] fun _ b h=>?_;refine cA (mI b) ?_;refine Ij [0] [0] fun _ h=>?_;refine I [0] ?_ ?_<;>intro _ h
   ·refine Ij [0] [0] fun _ h=>?_;exact E8 [0] [0] [0]
   exact E8 [0] [0] [0]
  refine I [0] ?_ ?_<;>intro _ h
  ·refine Ij [0] [0] fun _ h=>?_;exact E8 [0] [0] [0]
  exact E8 [0] [0] [0]
 intro j h;exact fB [4] [3,7] [1,3,7]
def tR {N a0 a1 r} (h:kT N a0 a1=some r):Sq 109 [] [.agg (dF a0),.int a1] (.aS [.int r.1,.int r.2.1,.aG 0]) [(0,w3 r.2.2)] [0]:=by
 refine so func109 ntmps109 fun d hn=>?_;refine S [3,2,3,6,2,3] ?_;refine Jb 9 hn h [1,2,8] [2] (fun _ h g=>?_) ?_
 ·refine Ij [4] [1] fun _ h=>?_;refine S [3] ?_;refine cK 9 hn h [1,2,8] [2] [] fun _ h g=>?_;exact E8 [4] [1] [5]
 intro c h;refine I [4] ?_ ?_<;>intro _ h
 ·refine S [3,12] ?_;refine bS Q0 [(wr (a1+(1:Int)))] ?_;exact Sr [7] [(0,15)]
 refine I [3,4] ?_ ?_<;>intro _ h
 ·refine S [3,12] ?_;refine bS Q0 [(wr (a1+(1:Int)))] ?_;exact Sr [7] [(0,20)]
 refine I [3,4] ?_ ?_<;>intro _ h
 ·refine A [2,8,12] fun b h=>?_;refine dx b ?_;refine S [12] ?_;refine bS Q0 [(wr (a1+(1:Int)))] ?_;exact Sr [7] [(0,31)]
 refine I [3,4] ?_ ?_<;>intro _ h
 ·refine S [2,8] ?_;refine bS Q0 [a0.a] ?_;exact Sr [7] [(0,36)]
 refine I [3,4] ?_ ?_<;>intro _ h
 ·refine S [2,8,12] ?_;refine bS Q0 [(wr (a1+(1:Int))),a0.a] ?_;exact Sr [7] [(0,43)]
 refine I [3,4] ?_ ?_<;>intro _ h
 ·refine S [3] ?_;refine nR 6 206 1 3 ?_;exact Sr [7] [(0,206)]
 refine S [1,3,12] ?_;refine bS Q0 [(wr (a1+(1:Int)))] ?_;exact Sr [7] [(0,48)]
def su {N a0 r} (h:kE N a0=some r):Sq 79 [] [.agg (X7 a0)] (.aS [.aG 0,.agg (kr r.2)]) [(0,w3 r.1)] [0]:=by
 refine so func79 ntmps79 fun Γ hn=>?_;refine A [3,3,13] fun K h=>?_;refine sA (enc:=Q0) (x:=(0:Int)) K aT ?_;refine S [2,3,13] ?_;refine j4.bC 21 rfl (fun w=>?_);refine LU e0 hn (AG (a0.code.length:Int).toNat (0:Int)) (fun l k v=>L6 N l k v) h (fun D v=>[(22,.int (D:Int))]) (fun D v=>[(19,w3 v)]) [1,3,4,21] [1,3] [] nl (fun s=>[(19,w3 s)]) [1,3,4] [1,3] ?_ ?_ ?_
 ·intro _ g D T h _;rw[L6] at h;exact Sj [3,2,4,0,20]
 ·intro _ g D T U h n _;rw[L6] at h;refine B [3,2,4,0,1,2,6,3,5] fun _ c h=>?_;refine cT c ?_;refine sM (K3 c).2 (-1:Int) ?_;refine S [5] ?_;refine A9 (A5 (ct n w) ?_);exact le (T.set ((D:Int).toNat) (-1:Int)) []
 intro v7 h;refine S [3] ?_;refine bS Q0 [(0:Int)] ?_;refine bS Q0 [(0:Int)] ?_;refine S [2,3] ?_;refine LF e1 hn (v7,[(0:Int)],[(0:Int)],(0:Int)) (fun l v=>O3 N a0 l v.1 v.2.1 v.2.2.1 v.2.2.2) h (fun v=>[(8,.int v.2.2.2)]) (fun v=>[(19,w3 v.1),(29,w3 v.2.1),(30,w3 v.2.2.1)]) [1,3,4,6,7] [1,3] [] nl (fun s=>[(19,w3 s)]) [3,4] [3] ?_ ?_
 ·rintro _ g ⟨W,L,M,O⟩ V h;rw[O3] at h;refine I [2,3,13,4] ?_ ?_<;>intro _ h
  ·refine S [1,2] ?_;refine J e1 hn h nl (fun s=>[(19,w3 s.1),(29,w3 s.2.1),(30,w3 s.2.2)]) [1,3,4,6,7,8] [1,3] (fun _ h g=>?_) ?_
   ·refine B [6,2,8] fun _ d h=>?_;refine cT d ?_;refine dV (K3 d).2 ?_;refine B [] fun b e h=>?_;refine cT e ?_;refine dV (K3 e).2 ?_;refine S [2,2] ?_;refine Jb 53 hn h [1,3,4,6,7,8,9,10] [1,3,19,29,30] (fun _ h g=>?_) ?_
    ·refine kd [1,3,4,6,7,8,9,10] [1,3,19,29,30] ?_;exact E8 [5,13] [0] [0]
    intro Y h;refine I [4] ?_ ?_<;>intro _ h
    ·refine S [2,8,13] ?_;refine nR 2 202 1 3 ?_;exact Sr [7] [(0,202)]
    refine B [1,2,3] fun _ f h=>?_;refine cT f ?_;refine dV (K3 f).2 ?_;refine I [4] ?_ ?_<;>intro _ h
    ·refine B [2,3] fun _ i h=>?_;refine cT i ?_;refine dV (K3 i).2 ?_;refine I [4] ?_ ?_<;>intro _ h
     ·refine kd [3,9] [3] ?_;refine S [3] ?_;refine nR 2 202 1 3 ?_;exact Sr [7] [(0,202)]
     exact Sj [1,20]
    refine B [1,3] fun _ j h=>?_;refine cT j ?_;refine sM (K3 j).2 b ?_;refine kd [1,3,4,6,7,8,9,10] [1,3,19,29,30] ?_;refine B [3] fun _ y h=>?_;refine Q9 y ?_;refine B [] fun o u h=>?_;refine cA ((tR u).sw 0 82) ?_;refine S [2,2] ?_;refine Jb 101 hn h [1,3,4,6,7,8,9,10,12,13] [1,3,19,29,30,82] (fun _ h g=>?_) ?_
    ·refine kd [1,3,4,6,7,8,9,10,11,12,13] [1,3,19,29,30,82] ?_;refine Ij [5] [0] fun _ h=>?_;refine B [0] fun _ z h=>?_;refine Q9 z ?_;exact E8 [0] [0] [0]
    intro Z h;refine I [4] ?_ ?_<;>intro _ h
    ·refine S [3] ?_;refine nR 2 202 1 3 ?_;exact Sr [7] [(0,202)]
    refine I [1,2,3,12,4] ?_ ?_<;>intro _ h
    ·refine S [3] ?_;refine nR 2 202 1 3 ?_;exact Sr [7] [(0,202)]
    refine S [1,3] ?_;refine M8 fun t=>?_;refine LR e0 hn (L,M) (fun l k v=>K9 N b o l k v.1 v.2) h (fun a v=>[(112,.int (a:Int))]) (fun a v=>[(29,w3 v.1),(30,w3 v.2)]) [1,3,4,6,7,8,10,12,110,111] [1,3,19,82] [] nl (fun s=>[(29,w3 s.1),(30,w3 s.2)]) [1,3,4,6,7,8] [1,3,19] ?_ ?_ ?_
    ·rintro _ g a ⟨E,F⟩ h _;rw[K9] at h;exact Sj [3,2,4,0,20]
    ·rintro _ g a ⟨E,F⟩ x79 H h _ C _;rw[K9] at h;refine B [3,2,4,0,1,2,6,3] fun G m h=>?_;refine cT m ?_;refine dV (K3 m).2 ?_;refine S [5] ?_;refine bS Q0 [G] ?_;refine A [] fun p h=>?_;refine aM p ?_;refine S [12] ?_;refine bS Q0 [(wr (b+o.2.1))] ?_;refine A [] fun q h=>?_;refine aM q ?_;refine kd [1,3,4,6,7,8,10,12,110,111,112] [1,3,19,82,119,125] ?_;refine S [5] ?_;refine A9 (A5 (O4 C t) ?_);exact le ((E++[G]),(F++[(wr (b+o.2.1))])) [(29,119),(30,125)]
    rintro⟨v73,v74⟩ h;exact je
   rintro⟨P,Q,R⟩ h;refine S [5,12] ?_;exact le (P,Q,R,(wr (O+(1:Int)))) []
  exact Sj [20]
 intro X h;exact Sr [3,7] [(0,19)]
def tB {N a0 a1 a2 r} (h:kP N a0 a1 a2=some r):Sp 43 [.agg (ba a0),.int a1,.agg (X7 a2)] (.agg (kr r)):=by
 refine so func43 ntmps43 fun p hn=>?_;refine S [3,2,2] ?_;refine Jb 20 hn h [1,3,5,6] [3,5,6] (fun _ h g=>?_) ?_
 ·exact E8 [5] [0] [0,13,0]
 intro n h;refine Ir [4] [3,7] fun _ h=>?_;refine B [1,2,3] fun _ i h=>?_;refine cA (mI i) ?_;refine Ir [4] [3,7] fun _ h=>?_;refine S [1,2,2] ?_;refine Jb 44 hn h [1,3,5,6] [3,5,6] (fun _ h g=>?_) ?_
 ·refine Ij [5] [0] fun _ h=>?_;refine Ij [0] [0] fun _ h=>?_;exact E8 [0] [0] [0]
 intro o h;refine Ir [4] [3,7] fun _ h=>?_;refine Ir [1,2,3,4] [3,7] fun _ h=>?_;refine S [1,2,2] ?_;refine Jb 59 hn h [1,3,5,6] [3,5,6] (fun _ h g=>?_) ?_
 ·exact E8 [5,13] [0] [0,13,0]
 intro j h;refine Ir [4] [3,7] fun _ h=>?_;refine S [1,2,3] ?_;refine M8 fun c=>?_;refine LR e1 hn () (fun l k v=>R3 N a0 a1 a2 l k) h (fun a v=>[(64,.int (a:Int))]) (fun a v=>[]) [1,3,5,6,62,63] [3,5,6] [] nl nl [5,6] [5,6] ?_ ?_ ?_
 ·intro _ g a _ h _;rw[R3] at h;exact Sj [3,2,4,0,20]
 ·intro _ g a _ m f h _ b _;rw[R3] at h;refine S [3,2,4,0,1,2,6,3] ?_;refine P9 b ?_;refine B [3] fun _ d h=>?_;refine cA (sn d) ?_;refine kd [1,3,5,6,7,9,62,63,64] [3,5,6] ?_;refine Ir [3,4] [3,7] fun _ h=>?_;refine S [1,5] ?_;refine A9 (A5 (O4 b c) ?_);exact le () []
 rintro⟨⟩ h;refine B [3] fun _ e h=>?_;refine cA ((su e).sw 0 82) ?_;exact Sr [3,7]
def tG {N a0 a1 r} (h:kL N a0 a1=some r):Sp 44 [.agg (eV a0),.int a1] (.int r):=by
 refine so func44 ntmps44 fun e hn=>?_;refine S [3,2,2] ?_;refine Jb 12 hn h [1,2] [2] (fun _ h g=>?_) ?_
 ·exact E8 [5] [0] [0]
 intro b h;refine Ir [4] [3,7] fun _ h=>?_;refine S [1,2,2] ?_;refine Jb 20 hn h [1,2] [2] (fun _ h g=>?_) ?_
 ·exact E8 [5] [0] [0]
 intro c h;refine Ir [4] [3,7] fun _ h=>?_;refine S [1,2,2] ?_;refine Jb 33 hn h [1,2] [2] (fun _ h g=>?_) ?_
 ·refine I [5] ?_ ?_<;>intro _ h
  ·exact E8 [0] [0] [0]
  exact Sj [0]
 intro d h;refine Ir [4] [3,7] fun _ h=>?_;refine S [1,2,2] ?_;refine Jb 47 hn h [] [] (fun _ h g=>?_) ?_
 ·refine I [5] ?_ ?_<;>intro _ h
  ·exact E8 [0] [0] [0]
  exact Sj [0]
 intro a h;exact fB [4] [3,7] [1,3,7]
def mG {N a0 r} (h:gN N a0=some r):Sp 21 [.agg (ba a0)] (.int r):=by
 refine so func21 ntmps21 fun Γ hn=>?_;refine B [3,3] fun r1 hr2 h=>?_;refine cA (tg N _ hr2) ?_;refine S [2,2] ?_;refine Jb 39 hn h [1,3] [1,3] (fun _ h g=>?_) ?_
 ·refine Ij [5,13] [0] fun _ h=>?_;exact E8 [0,13,0] [0] [0,13,0]
 intro v3 h;refine Ir [4] [3,7] fun _ h=>?_;refine S [1,2,2] ?_;refine Jb 47 hn h [1,3] [1,3] (fun _ h g=>?_) ?_
 ·exact E8 [5] [0] [0]
 intro v11 h;refine Ir [4] [3,7] fun _ h=>?_;refine S [1,2,3] ?_;refine M8 fun E=>?_;refine LR e1 hn () (fun l k v=>R5 N a0 r1 l k) h (fun i v=>[(51,.int (i:Int))]) (fun i v=>[]) [1,3,49,50] [1,3] [] nl nl [1,3] [1,3] ?_ ?_ ?_
 ·intro _ g i _ h _;rw[R5] at h;exact Sj [3,2,4,0,20]
 ·intro _ g i _ x21 W h _ o _;rw[R5] at h;refine S [3,2,4,0,1,2,6,3] ?_;refine P9 o ?_;refine S [2,2] ?_;refine Jb 74 hn h [1,3,4,5,49,50,51] [1,3,5] (fun _ h g=>?_) ?_
  ·refine kd [1,3,4,5,49,50,51] [1,3,5] ?_;refine B [8] fun _ L h=>?_;refine cA (mI L) ?_;refine Ij [] [0] fun _ h=>?_;refine I [0] ?_ ?_<;>intro _ h
   ·refine B [0] fun _ O h=>?_;refine Q9 O ?_;exact Sj [0]
   exact Sj [0]
  intro v24 h;refine Ir [4] [3,7] fun _ h=>?_;refine A [1,2,3] fun D h=>?_;refine xg D rfl rfl ?_;refine M8 fun F=>?_;refine LR e1 hn () (fun l k v=>U2 N x21 l k) h (fun j v=>[(80,.int (j:Int))]) (fun j v=>[]) [1,3,4,5,49,50,51,78,79] [1,3,5] [] nl nl [1,3,4,5,49,50,51] [1,3,5] ?_ ?_ ?_
  ·intro _ g j _ h _;rw[U2] at h;exact Sj [3,2,4,0,20]
  ·intro _ g j _ x40 X h _ p _;rw[U2] at h;refine S [3,2,4,0,1,2,6,3] ?_;refine P9 p ?_;refine I [3,4] ?_ ?_<;>intro _ h
   ·refine kd [] [] ?_;exact Sr [3,7]
   refine S [1] ?_;refine kd [1,3,4,5,49,50,51,78,79,80] [1,3,5] ?_;refine S [5] ?_;refine A9 (A5 (O4 p F) ?_);exact le () []
  rintro⟨⟩ h;refine S [3,2,3] ?_;refine J e1 hn h (fun s=>[(9,.int s)]) nl [1,3,5,8,49,50,51] [1,3,5] (fun _ h g=>?_) ?_
  ·refine I [4] ?_ ?_<;>intro _ h
   ·refine B [3,2,8] fun _ P h=>?_;refine Q9 P ?_;refine I [4] ?_ ?_<;>intro _ h
    ·refine kd [] [] ?_;exact Sr [3,7]
    exact Sj [1]
   refine S [2] ?_;refine Jb 119 hn h [1,3,5,8,9,49,50,51] [1,3,5] (fun _ h g=>?_) ?_
   ·refine Ij [5] [0] fun _ h=>?_;refine Ij [0] [0] fun _ h=>?_;exact E8 [0] [0] [0]
   intro v50 h;refine Ir [4] [3,7] fun _ h=>?_;exact Sj [1]
  intro v44 h;refine S [2] ?_;refine Jb 129 hn h [1,3,49,50,51] [1,3] (fun _ h g=>?_) ?_
  ·exact E8 [5] [0] [0]
  intro v56 h;refine Ir [4] [3,7] fun _ h=>?_;refine S [1,5] ?_;refine A9 (A5 (O4 o E) ?_);exact le () []
 rintro⟨⟩ h;refine S [2,3] ?_;refine M8 fun G=>?_;refine LR e1 hn () (fun l k v=>R7 N a0 r1 l k) h (fun c v=>[(134,.int (c:Int))]) (fun c v=>[]) [1,3,132,133] [1,3] [] nl nl [1] [1] ?_ ?_ ?_
 ·intro _ g c _ h _;rw[R7] at h;exact Sj [3,2,4,0,20]
 ·intro _ g c _ x66 Y h _ q _;rw[R7] at h;refine S [3,2,4,0,1,2,6,3] ?_;refine P9 q ?_;refine B [2,3] fun _ M h=>?_;refine cA (kC M) ?_;refine Ir [4] [3,7] fun _ h=>?_;refine I [1,2,3,13,4] ?_ ?_<;>intro _ h
  ·refine kd [] [] ?_;exact Sr [3,7]
  refine S [1] ?_;refine kd [1,3,10,11,132,133,134] [1,3,11] ?_;refine S [3] ?_;refine M8 fun H=>?_;refine LR e1 hn () (fun l k v=>U1 N a0 r1 c x66 l k) h (fun m v=>[(150,.int (m:Int))]) (fun m v=>[]) [1,3,10,11,132,133,134,148,149] [1,3,11] [] nl nl [1,3,132,133,134] [1,3] ?_ ?_ ?_
  ·intro _ g m _ h _;rw[U1] at h;exact Sj [3,2,4,0,20]
  ·intro _ g m _ x80 Z h _ t _;rw[U1] at h;refine S [3,2,4,0,1,2,6,3] ?_;refine P9 t ?_;refine S [2,2] ?_;refine Jb 168 hn h [1,3,10,11,13,132,133,134,148,149,150] [1,3,11,13] (fun _ h g=>?_) ?_
   ·refine I [8] ?_ ?_<;>intro _ h
    ·refine B [0,12,0] fun _ Q h=>?_;refine Q9 Q ?_;exact Sj [0]
    exact Sj [0]
   intro v83 h;refine Ir [4] [3,7] fun _ h=>?_;refine B [1,3,2,3] fun _ R h=>?_;refine Q9 R ?_;refine M8 fun K=>?_;refine LR e0 hn false (fun l k v=>M5 N c x80 l k v) h (fun n v=>[(14,.bool v),(175,.int (n:Int))]) (fun n v=>[]) [1,3,10,11,13,132,133,134,148,149,150,173,174] [1,3,11,13] [] (fun s=>[(14,.bool s)]) nl [1,3,10,11,13,132,133,134,148,149,150] [1,3,11,13] ?_ ?_ ?_
   ·intro _ g n v93 h _;rw[M5] at h;exact Sj [3,2,4,0,20]
   ·intro _ g n v93 x100 rest97 h _ d _;rw[M5] at h;refine S [3,2,4,0,1,2] ?_;refine Jb 14 hn h [1,3,10,11,13,132,133,134,148,149,150,173,174,175] [1,3,11,13] (fun _ h g=>?_) ?_
    ·refine S [6,3] ?_;refine P9 d ?_;refine cK 14 hn h [1,3,10,11,13,132,133,134,148,149,150,173,174,175] [1,3,11,13] [] fun _ h g=>?_;refine kd [1,3,10,11,13,14,16,132,133,134,148,149,150,173,174,175] [1,3,11,13,16] ?_;refine Ij [5] [0] fun _ h=>?_;refine I [0] ?_ ?_<;>intro _ h
     ·refine I [0] ?_ ?_<;>intro _ h
      ·refine I [0] ?_ ?_<;>intro _ h
       ·refine I [0] ?_ ?_<;>intro _ h
        ·exact E8 [0] [0,13,0] [0]
        exact Sj [0]
       exact Sj [0]
      exact Sj [0]
     exact Sj [0]
    intro V h;refine S [5] ?_;refine A9 (A5 (O4 d K) ?_);exact le V []
   intro v95 h;refine B [3] fun _ x h=>?_;refine cA (tB x) ?_;refine S [2] ?_;refine Jb 225 hn h [1,3,10,11,17,132,133,134,148,149,150] [1,3,11,17] (fun _ h g=>?_) ?_
   ·refine kd [1,3,10,11,14,17,132,133,134,148,149,150] [1,3,11,17] ?_;exact E8 [5] [0] [0]
   intro v116 h;refine Ir [4] [3,7] fun _ h=>?_;refine S [1,5] ?_;refine A9 (A5 (O4 t H) ?_);exact le () []
  rintro⟨⟩ h;refine S [5] ?_;refine A9 (A5 (O4 q G) ?_);exact le () []
 rintro⟨⟩ h;refine S [2,3] ?_;refine M8 fun u=>?_;refine LR e1 hn () (fun l k v=>R8 N a0 l k) h (fun a v=>[(233,.int (a:Int))]) (fun a v=>[]) [1,231,232] [1] [] nl nl [] [] ?_ ?_ ?_
 ·intro _ g a _ h _;rw[R8] at h;exact Sj [3,2,4,0,20]
 ·intro _ g a _ x126 T h _ e _;rw[R8] at h;refine S [3,2,4,0,1,2,6,3] ?_;refine P9 e ?_;refine S [2,2] ?_;refine Jb 267 hn h [1,19,231,232,233] [1,19] (fun _ h g=>?_) ?_
  ·refine kd [1,19,231,232,233] [1,19] ?_;refine Ij [8] [0] fun _ h=>?_;refine I [0] ?_ ?_<;>intro _ h
   ·refine Ij [0] [0] fun _ h=>?_;refine Ij [0,13,0] [0] fun _ h=>?_;refine B [0,13,0] fun _ y h=>?_;refine cA (kC y) ?_;exact Sj [0]
   refine Ij [0,13] [0] fun _ h=>?_;refine B [0,13,0] fun _ z h=>?_;refine cA (kC z) ?_;exact Sj [0]
  intro v129 h;refine Ir [4] [3,7] fun _ h=>?_;refine S [1,3] ?_;refine M8 fun w=>?_;refine LR e1 hn () (fun l k v=>T9 N a0 l k) h (fun b v=>[(271,.int (b:Int))]) (fun b v=>[]) [1,231,232,233,269,270] [1] [] nl nl [1,231,232,233] [1] ?_ ?_ ?_
  ·intro _ g b _ h _;rw[T9] at h;exact Sj [3,2,4,0,20]
  ·intro _ g b _ x151 U h _ f _;rw[T9] at h;refine S [3,2,4,0,1,2,6,3] ?_;refine P9 f ?_;refine B [3,13] fun _ C h=>?_;refine cA (tG C) ?_;refine kd [1,22,231,232,233,269,270,271] [1] ?_;refine Ir [3,4] [3,7] fun _ h=>?_;refine S [1,5] ?_;refine A9 (A5 (O4 f w) ?_);exact le () []
  rintro⟨⟩ h;refine S [5] ?_;refine A9 (A5 (O4 e u) ?_);exact le () []
 rintro⟨⟩ h;exact Sr [3,7]
def P6 {N a0 b0 r} (h:J7 N a0 b0=some r):Sq 49 [(1016,.box [.str b0] 9),(2000,GL)] [s3 a0,.ptr 1016 0] (.aS []) [(1016,.box [.str r] 9),(2000,GL)] []:=by
 refine so func49 ntmps49 fun p hn=>?_;refine S [15,3] ?_;refine M8 fun f=>?_;refine LR e0 hn b0 (fun l k v=>K4 N l k v) h (fun e v=>[(7,.int (e:Int))]) (fun e v=>[(1016,.box [.str v] 9)]) [1,5,6] [2000] [] nl (fun s=>[(1016,.box [.str s] 9)]) [1] [2000] ?_ ?_ ?_
 ·intro _ g e m h _;rw[K4] at h;exact Sj [3,2,4,0,20]
 ·intro _ g e m n j h _ a _;rw[K4] at h;refine S [3,2,4,0,1,2,6,3] ?_;refine P9 a ?_;refine B [8] fun i d h=>?_;refine cA (kB N _ _ d) ?_;refine A [] fun b h=>?_;refine dx b ?_;refine A [] fun c h=>?_;refine dx c ?_;refine S [5] ?_;refine A9 (A5 (O4 a f) ?_);exact le ((m++i)++(⟨#[32]⟩:ByteArray)) []
 intro o h;exact Sr [14]
def tY {N a0 r} (h:kU N a0=some r):Sq 23 [(2000,GL)] [.agg (ba a0)] (.str r) [(2000,GL)] []:=by
 refine so func23 ntmps23 fun Γ hn=>?_;refine S [3,3,3,3,13] ?_;refine bS Q0 [a0.aN,(a0.a7.length:Int)] ?_;refine B [] fun r2 hr3 h=>?_;refine cF ((P6 hr3).sw 1016 3) ?_;refine S [2,3] ?_;refine M8 fun Z=>?_;refine LR e0 hn r2 (fun l k v=>O0 N l k v) h (fun T v=>[(27,.int (T:Int))]) (fun T v=>[(3,.box [.str v] 9)]) [1,3,4,25,26] [1,2000] [] nl (fun s=>[(3,.box [.str s] 9)]) [1,3,4] [1,2000] ?_ ?_ ?_
 ·intro _ g T v6 h _;rw[O0] at h;exact Sj [3,2,4,0,20]
 ·intro _ g T v6 q U h _ i _;rw[O0] at h;refine S [3,2,4,0,1,2,6,3] ?_;refine P9 i ?_;refine A [3] fun t h=>?_;refine dx t ?_;refine A [] fun u h=>?_;refine dx u ?_;refine S [3,13] ?_;refine bS Q0 [q.aH,q.aC,(q.aB.length:Int)] ?_;refine B [] fun r19 G h=>?_;refine cF ((P6 G).sw 1016 3) ?_;refine kd [1,3,4,6,25,26,27] [1,3,6,2000] ?_;refine S [3] ?_;refine M8 fun C=>?_;refine LR e0 hn r19 (fun l k v=>K8 N l k v) h (fun b v=>[(49,.int (b:Int))]) (fun b v=>[(3,.box [.str v] 9)]) [1,3,4,25,26,27,47,48] [1,2000] [] nl (fun s=>[(3,.box [.str s] 9)]) [1,3,4,25,26,27] [1,2000] ?_ ?_ ?_
  ·intro _ g b v23 h _;rw[K8] at h;exact Sj [3,2,4,0,20]
  ·intro _ g b v23 f V h _ j _;rw[K8] at h;refine S [3,2,4,0,1,2,6,3] ?_;refine P9 j ?_;refine A [3] fun w h=>?_;refine dx w ?_;refine A [] fun x h=>?_;refine dx x ?_;refine kd [1,3,4,8,25,26,27,47,48,49] [1,3,8,2000] ?_;refine S [3,13] ?_;refine bS Q0 [f.args,f.aJ,f.aO,(f.code.length:Int)] ?_;refine B [] fun r36 H h=>?_;refine cF ((P6 H).sw 1016 3) ?_;refine kd [1,3,4,8,25,26,27,47,48,49] [1,3,8,2000] ?_;refine S [3] ?_;refine M8 fun D=>?_;refine LR e0 hn r36 (fun l k v=>N9 N l k v) h (fun c v=>[(73,.int (c:Int))]) (fun c v=>[(3,.box [.str v] 9)]) [1,3,4,25,26,27,47,48,49,71,72] [1,2000] [] nl (fun s=>[(3,.box [.str s] 9)]) [1,3,4,25,26,27,47,48,49] [1,2000] ?_ ?_ ?_
   ·intro _ g c v40 h _;rw[N9] at h;exact Sj [3,2,4,0,20]
   ·intro _ g c v40 P W h _ m _;rw[N9] at h;refine S [3,2,4,0,1,2] ?_;refine J e0 hn h nl (fun s=>[(3,.box [.str s] 9)]) [1,3,4,25,26,27,47,48,49,71,72,73] [1,2000] (fun _ h g=>?_) ?_
    ·refine S [6,3] ?_;refine P9 m ?_;refine S [3] ?_;refine bS Q0 [P.op,P.a] ?_;refine B [] fun _ K h=>?_;refine cF ((P6 K).sw 1016 3) ?_;refine kd [1,3,4,10,25,26,27,47,48,49,71,72,73] [1,3,10,2000] ?_;refine S [3] ?_;refine Jk e0 hn h nl (fun s=>[(3,.box [.str s] 9)]) [1,3,4,25,26,27,47,48,49,71,72,73] [1,2000] [] fun _ h g=>?_;refine I [4] ?_ ?_<;>intro _ h
     ·refine A [5] fun y h=>?_;refine dx y ?_;refine A [] fun z h=>?_;refine dx z ?_;exact je
     exact Sj [1]
    intro v50 h;refine S [5] ?_;refine A9 (A5 (O4 m D) ?_);exact le v50 []
   intro v42 h;refine S [5] ?_;refine A9 (A5 (O4 j C) ?_);exact le v42 []
  intro v25 h;refine S [5] ?_;refine A9 (A5 (O4 i Z) ?_);exact le v25 []
 intro v8 h;refine S [3,13] ?_;refine bS Q0 [(a0.heap.length:Int)] ?_;refine B [] fun r60 L h=>?_;refine cF ((P6 L).sw 1016 3) ?_;refine S [2,3] ?_;refine M8 fun E=>?_;refine LR e0 hn r60 (fun l k v=>Q6 N l k v) h (fun d v=>[(104,.int (d:Int))]) (fun d v=>[(3,.box [.str v] 9)]) [3,4,102,103] [2000] [] nl (fun s=>[(3,.box [.str s] 9)]) [3] [2000] ?_ ?_ ?_
 ·intro _ g d v64 h _;rw[Q6] at h;exact Sj [3,2,4,0,20]
 ·intro _ g d v64 Q X h _ o _;rw[Q6] at h;refine S [3,2,4,0,1,2,6,3] ?_;refine P9 o ?_;refine S [3,13] ?_;refine bS Q0 [Q.cls,(Q.aC.length:Int)] ?_;refine B [] fun r75 M h=>?_;refine cF ((P6 M).sw 1016 3) ?_;refine kd [3,4,12,102,103,104] [3,12,2000] ?_;refine S [3] ?_;refine M8 fun F=>?_;refine LR e0 hn r75 (fun l k v=>Q4 N l k v) h (fun e v=>[(119,.int (e:Int))]) (fun e v=>[(3,.box [.str v] 9)]) [3,4,102,103,104,117,118] [2000] [] nl (fun s=>[(3,.box [.str s] 9)]) [3,4,102,103,104] [2000] ?_ ?_ ?_
  ·intro _ g e v79 h _;rw[Q4] at h;exact Sj [3,2,4,0,20]
  ·intro _ g e v79 R Y h _ p _;rw[Q4] at h;refine S [3,2,4,0,1,2,6,3] ?_;refine P9 p ?_;refine S [5] ?_;refine bS Q0 [R.k,R.n] ?_;refine B [] fun r89 O h=>?_;refine cF ((P6 O).sw 1016 3) ?_;refine kd [3,4,102,103,104,117,118,119] [3,2000] ?_;refine S [5] ?_;refine A9 (A5 (O4 p F) ?_);exact le r89 []
  intro v81 h;refine S [5] ?_;refine A9 (A5 (O4 o E) ?_);exact le v81 []
 intro v66 h;exact Sr [3,7]
def tI {N a0 r} (h:hU N a0=some r):Sq 52 [] [.str a0] (.aS [.aG 0,.bool r.2]) [(0,w9 r.1)] [0]:=by
 refine so func52 ntmps52 fun u hn=>?_;refine S [3,3,3,2,3,18] ?_;refine nR 4 204 1 9 ?_;refine j4.bC 8 rfl (fun b=>?_);refine LU e1 hn (([]:List ByteArray),(⟨#[]⟩:ByteArray)) (fun l k v=>I6 N a0 l k v.1 v.2) h (fun i v=>[(5,.str v.2),(9,.int (i:Int))]) (fun i v=>[(204,w9 v.1)]) [0,4,8] [] [] (fun s=>[(5,.str s.2)]) (fun s=>[(204,w9 s.1)]) [4] [] ?_ ?_ ?_
 ·rintro _ g i ⟨p,n⟩ h _;rw[I6] at h;exact Sj [3,2,4,0,20]
 ·rintro _ g i ⟨p,n⟩ o h a _;rw[I6] at h;refine S [3,2,4,0,1,2] ?_;refine J e1 hn h (fun s=>[(5,.str s.2)]) (fun s=>[(204,w9 s.1)]) [0,4,8,9] [] (fun _ h g=>?_) ?_
  ·refine B [6,3,2,3] fun _ f h=>?_;refine jm f ?_;refine I [10,4] ?_ ?_<;>intro _ h
   ·refine S [3] ?_;refine A9 (A5 (ct a b) ?_);refine A [] fun c h=>?_;refine uE c rfl ?_;refine A [] fun d h=>?_;refine dx d ?_;exact Sj [20]
   refine I [1,2,3,4] ?_ ?_<;>intro _ h
   ·refine S [3] ?_;refine nR 2 202 1 9 ?_;exact Sr [7] [(0,202)]
   refine S [1,3] ?_;refine bS fE [n] ?_;refine A [] fun e h=>?_;refine aM e ?_;refine kd [0,4,8,9] [28] ?_;exact Sj [5] [(204,28)]
  rintro⟨j,m⟩ h;refine S [5] ?_;refine A9 (A5 (ct a b) ?_);exact le (j,m) []
 rintro⟨q,t⟩ h;exact Sr [3,7] [(0,204)]
def kH {N a0 r} (h:K7 N a0=some r):Sq 55 [(1000,.box (cM a0) 113)] [.ptr 1000 0] (.str r.1) [(1000,.box (cM r.2) 113)] []:=by
 refine so func55 ntmps55 fun c hn=>?_;refine Ir [3,2,3,13,4] [3,3,7] fun _ h=>?_;refine B [1,3] fun _ b h=>?_;refine Q9 b ?_;refine A [3] fun a h=>?_;refine xr a rfl rfl ?_;refine kd [0,3] [1000] ?_;exact Sr [3,7]
def H8 {N a0 r} (h:l7 N a0=some r):Sq 53 [(1000,.box (cM a0) 113),(2000,GL)] [.ptr 1000 0] (.int r.1) [(1000,.box (cM r.2) 113),(2000,GL)] []:=by
 refine so func53 ntmps53 fun f hn=>?_;refine B [3,3] fun _ a h=>?_;refine cA (kH a) ?_;refine B [3] fun _ b h=>?_;refine cA (strconv_Atoi_ok N _ _ b) ?_;refine S [2,2] ?_;refine Jb 20 hn h [0,4] [1000,2000] (fun _ h g=>?_) ?_
 ·refine Ij [5,10] [0] fun _ h=>?_;refine B [0] fun _ c h=>?_;refine cA (kB N _ _ c) ?_;exact Sj [0]
 intro e h;refine J e0 hn h nl (fun s=>[(1000,.box (cM s) 113)]) [0,4] [2000] (fun _ h g=>?_) ?_
 ·exact E8 [4] [5] [1]
 intro d h;exact Sr [3,7]
def j8 {N a0 a1 r} (h:F4 N a0 a1=some r):Sq 54 [(1000,.box (cM a0) 113),(2000,GL)] [.ptr 1000 0,.int a1] (.int r.1) [(1000,.box (cM r.2) 113),(2000,GL)] []:=by
 refine so func54 ntmps54 fun c hn=>?_;refine B [3,3] fun _ a h=>?_;refine cA (H8 a) ?_;refine S [2,2] ?_;refine Jb 21 hn h [0,5] [1000,2000] (fun _ h g=>?_) ?_
 ·refine Ij [5] [0] fun _ h=>?_;exact E8 [0] [0] [0]
 intro b h;exact fB [4] [3,3,7] [1,3,7]
def tK {N a0 r} (h:kK N a0=some r):Sq 25 [(2000,GL)] [s5 a0] (.aS [.agg (ba r.1),.int r.2]) [(2000,GL)] []:=by
 refine so func25 ntmps25 fun Γ hn=>?_;refine S [3,3] ?_;refine Exists.intro a0 (A5 rfl ?_);refine B [] fun _ hr2 h=>?_;refine cA ((tI hr2).sw 0 16) ?_;refine Ir [2,3,4] [3,7] fun _ h=>?_;refine S [1,3] ?_;refine j4.au 16 rfl ?_;refine kd [2,6] [2,24,2000] ?_;refine B [3] fun _ hr5 h=>?_;refine cA ((H8 hr5).sw 1000 24) ?_;refine B [2,3] fun r6 hr7 h=>?_;refine cA ((j8 hr7).sw 1000 24) ?_;refine nB 7 0 501 4 81 ?_;refine j4.bC 29 rfl (fun hrn8=>?_);refine LU e0 hn (r6.2,([]:List Cl)) (fun l k v=>H9 N l k v.1 v.2) h (fun k8 v=>[(30,.int (k8:Int))]) (fun k8 v=>[(24,.box (cM v.1) 113),(501,lq v.2)]) [2,6,7,29] [2,7,2000] [] nl (fun s=>[(24,.box (cM s.1) 113),(501,lq s.2)]) [2,6,7] [2,7,2000] ?_ ?_ ?_
 ·rintro _ g k8 ⟨v9,v10⟩ h _;rw[H9] at h;exact Sj [3,2,4,0,20]
 ·rintro _ g k8 ⟨v9,v10⟩ n18 h q _;rw[H9] at h;refine B [3,2,4,0,1,2,6,3] fun r22 O h=>?_;refine cA ((kH O).sw 1000 24) ?_;refine B [] fun r24 P h=>?_;refine cA ((H8 P).sw 1000 24) ?_;refine B [] fun r26 Q h=>?_;refine cA ((H8 Q).sw 1000 24) ?_;refine B [2,3] fun r28 R h=>?_;refine cA ((j8 R).sw 1000 24) ?_;refine nB 8 3 502 5 27 ?_;refine j4.bC 40 rfl (fun D=>?_);refine LU e0 hn (r28.2,([]:List Me)) (fun l k v=>I1 N l k v.1 v.2) h (fun e v=>[(41,.int (e:Int))]) (fun e v=>[(24,.box (cM v.1) 113),(502,ll v.2)]) [2,6,7,8,29,30,40] [2,7,8,501,2000] [] nl (fun s=>[(24,.box (cM s.1) 113),(502,ll s.2)]) [2,6,7,8,29,30] [2,7,8,501,2000] ?_ ?_ ?_
  ·rintro _ g e ⟨v31,v32⟩ h _;rw[I1] at h;exact Sj [3,2,4,0,20]
  ·rintro _ g e ⟨v31,v32⟩ n40 h t _;rw[I1] at h;refine B [3,2,4,0,1,2,6,3] fun r44 T h=>?_;refine cA ((kH T).sw 1000 24) ?_;refine B [] fun r46 U h=>?_;refine cA ((H8 U).sw 1000 24) ?_;refine B [] fun r48 W h=>?_;refine cA ((H8 W).sw 1000 24) ?_;refine B [] fun r50 X h=>?_;refine cA ((H8 X).sw 1000 24) ?_;refine S [2] ?_;refine kd [2,6,7,8,9,29,30,40,41] [2,7,8,9,24,501,502,2000] ?_;refine B [3] fun r52 Y h=>?_;refine cA ((j8 Y).sw 1000 24) ?_;refine nB 9 4 503 5 55 ?_;refine j4.bC 53 rfl (fun E=>?_);refine LU e0 hn (r52.2,([]:List Ins)) (fun l k v=>I9 N l k v.1 v.2) h (fun f v=>[(54,.int (f:Int))]) (fun f v=>[(24,.box (cM v.1) 113),(503,lp v.2)]) [2,6,7,8,9,29,30,40,41,53] [2,7,8,9,501,502,2000] [] nl (fun s=>[(24,.box (cM s.1) 113),(503,lp s.2)]) [2,6,7,8,9,29,30,40,41] [2,7,8,9,501,502,2000] ?_ ?_ ?_
   ·rintro _ g f ⟨v55,v56⟩ h _;rw[I9] at h;exact Sj [3,2,4,0,20]
   ·rintro _ g f ⟨v55,v56⟩ n64 h u _;rw[I9] at h;refine B [3,2,4,0,1,2,6,3] fun G Z h=>?_;refine cA ((H8 Z).sw 1000 24) ?_;refine B [] fun H hr71 h=>?_;refine cA ((H8 hr71).sw 1000 24) ?_;refine S [2] ?_;refine kd [2,6,7,8,9,10,29,30,40,41,53,54] [2,7,8,9,10,24,501,502,503,2000] ?_;refine S [3] ?_;refine J e0 hn h nl (fun s=>[(10,.box [.int G.1,.int H.1,.int (0:Int),.int (0:Int),.str s.2] 55),(24,.box (cM s.1) 113)]) [2,6,7,8,9,10,29,30,40,41,53,54] [2,7,8,9,501,502,503,2000] (fun _ h g=>?_) ?_
    ·refine I [4] ?_ ?_<;>intro _ h
     ·refine B [5] fun _ hr77 h=>?_;refine cA ((kH hr77).sw 1000 24) ?_;exact je
     exact Sj [1]
    rintro⟨v72,v73⟩ h;refine S [5] ?_;refine bS dF [(⟨G.1,H.1,(0:Int),(0:Int),v73⟩:Ins)] ?_;refine A [] fun K h=>?_;refine aM K ?_;refine kd [2,6,7,8,9,29,30,40,41,53,54] [2,7,8,9,24,71,501,502,2000] ?_;refine S [5] ?_;refine A9 (A5 (ct u E) ?_);exact le (v72,(v56++[(⟨G.1,H.1,(0:Int),(0:Int),v73⟩:Ins)])) [(503,71)]
   rintro⟨v59,v60⟩ h;refine S [5] ?_;refine bS X7 [(⟨r44.1,r46.1,r48.1,r50.1,v60⟩:Me)] ?_;refine A [] fun L h=>?_;refine aM L ?_;refine S [5] ?_;refine A9 (A5 (ct t D) ?_);exact le (v59,(v32++[(⟨r44.1,r46.1,r48.1,r50.1,v60⟩:Me)])) [(502,78)]
  rintro⟨v35,v36⟩ h;refine S [5,12] ?_;refine bS gB [(⟨r22.1,r24.1,r26.1,v36⟩:Cl)] ?_;refine A [] fun M h=>?_;refine aM M ?_;refine S [5] ?_;refine A9 (A5 (ct q hrn8) ?_);exact le (v35,(v10++[(⟨r22.1,r24.1,r26.1,v36⟩:Cl)])) [(501,85)]
 rintro⟨v13,v14⟩ h;refine B [2,3] fun r81 hr82 h=>?_;refine cA ((j8 hr82).sw 1000 24) ?_;refine nB 7 1 504 2 92 ?_;refine j4.bC 89 rfl (fun F=>?_);refine LU e0 hn (r81.2,([]:List Ob)) (fun l k v=>I8 N l k v.1 v.2) h (fun i v=>[(90,.int (i:Int))]) (fun i v=>[(24,.box (cM v.1) 113),(504,lr v.2)]) [2,6,7,89] [2,7,501,2000] [] nl (fun s=>[(24,.box (cM s.1) 113),(504,lr s.2)]) [2,6,7] [2,7,501,2000] ?_ ?_ ?_
 ·rintro _ g i ⟨v84,v85⟩ h _;rw[I8] at h;exact Sj [3,2,4,0,20]
 ·rintro _ g i ⟨v84,v85⟩ n93 h w _;rw[I8] at h;refine B [3,2,4,0,1,2,6,3] fun r97 hr98 h=>?_;refine cA ((H8 hr98).sw 1000 24) ?_;refine B [2,3] fun r99 x h=>?_;refine cA ((j8 x).sw 1000 24) ?_;refine nB 11 1 505 2 29 ?_;refine j4.bC 96 rfl (fun d=>?_);refine LU e0 hn (r99.2,([]:List V)) (fun l k v=>I7 N l k v.1 v.2) h (fun a v=>[(97,.int (a:Int))]) (fun a v=>[(24,.box (cM v.1) 113),(505,ln v.2)]) [2,6,7,11,89,90,96] [2,7,11,501,504,2000] [] nl (fun s=>[(24,.box (cM s.1) 113),(505,ln s.2)]) [2,6,7,11,89,90] [2,7,11,501,504,2000] ?_ ?_ ?_
  ·rintro _ g a ⟨v102,m⟩ h _;rw[I7] at h;exact Sj [3,2,4,0,20]
  ·rintro _ g a ⟨v102,m⟩ n111 h c _;rw[I7] at h;refine B [3,2,4,0,1,2,6,8] fun j y h=>?_;refine cA ((H8 y).sw 1000 24) ?_;refine B [] fun b z h=>?_;refine cA ((H8 z).sw 1000 24) ?_;refine bS eV [(⟨j.1,b.1⟩:V)] ?_;refine A [] fun o h=>?_;refine aM o ?_;refine kd [2,6,7,11,89,90,96,97] [2,7,11,24,107,501,504,2000] ?_;refine S [5] ?_;refine A9 (A5 (ct c d) ?_);exact le (b.2,(m++[(⟨j.1,b.1⟩:V)])) [(505,107)]
  rintro⟨v106,n⟩ h;refine S [5,12] ?_;refine bS ig [(⟨r97.1,n⟩:Ob)] ?_;refine A [] fun p h=>?_;refine aM p ?_;refine S [5] ?_;refine A9 (A5 (ct w F) ?_);exact le (v106,(v85++[(⟨r97.1,n⟩:Ob)])) [(504,114)]
 rintro⟨v88,v89⟩ h;refine S [2,2] ?_;refine Jb 129 hn h [2,7] [2,7,501,504,2000] (fun _ h g=>?_) ?_
 ·exact E8 [5] [0] [0,13,0]
 intro v121 h;refine Ir [4] [3,7] fun _ h=>?_;refine B [1,2,3] fun _ C h=>?_;refine cL (mG C) ?_;refine Ir [3,4] [3,7] fun _ h=>?_;refine S [1,3] ?_;refine j4.au 501 rfl ?_;refine j4.au 504 rfl ?_;exact Sr [7]
def sk {N a0 a1 r} (h:kD N a0 a1=some r):Sp 56 [sD a0,sD a1] (.bool r):=by
 refine so func56 ntmps56 fun i hn=>?_;refine Ir [3,2,3,13,13,4] [3,7] fun _ h=>?_;refine S [1,2,3] ?_;refine M8 fun d=>?_;refine LR e1 hn () (fun l k v=>N7 N a1 l k) h (fun c v=>[(13,.int (c:Int))]) (fun c v=>[]) [0,1,12] [] [] nl nl [] [] ?_ ?_ ?_
 ·intro _ g c _ h _;rw[N7] at h;exact Sj [3,2,4,0,20]
 ·intro _ g c _ f e h _ a _;rw[N7] at h;refine S [3,2,4,0,1,2,6,3,2,8] ?_;refine P9 a ?_;refine B [] fun _ b h=>?_;refine Q9 b ?_;refine Ir [4] [3,7] fun _ h=>?_;refine S [1,5] ?_;refine A9 (A5 (O4 a d) ?_);exact le () []
 rintro⟨⟩ h;exact Sr [3,7]
def si {N a0 a1 r} (h:kA N a0 a1=some r):Sp 26 [.agg (ba a0),.agg (ba a1)] (.bool r):=by
 refine so func26 ntmps26 fun P hn=>?_;refine S [3,2,2] ?_;refine Jb 36 hn h [2,3] [2,3] (fun _ h g=>?_) ?_
 ·refine Ij [5] [0] fun _ h=>?_;exact E8 [0,13,0,13,0] [0] [0,13,0,13,0]
 intro O h;refine Ir [4] [3,7] fun _ h=>?_;refine S [1,2,3] ?_;refine M8 fun m=>?_;refine LR e1 hn () (fun l k v=>M3 N a1 l k) h (fun b v=>[(40,.int (b:Int))]) (fun b v=>[]) [2,3,38,39] [2,3] [] nl nl [2,3] [2,3] ?_ ?_ ?_
 ·intro _ g b _ h _;rw[M3] at h;exact Sj [3,2,4,0,20]
 ·intro _ g b _ J z h _ e _;rw[M3] at h;refine S [3,2,4,0,1,2,6,3] ?_;refine P9 e ?_;refine B [3] fun E s h=>?_;refine Q9 s ?_;refine S [2,2] ?_;refine Jb 77 hn h [2,3,6,7,38,39,40] [2,3,6,7] (fun _ h g=>?_) ?_
  ·refine kd [2,3,6,7,38,39,40] [2,3,6,7] ?_;refine Ij [5] [0] fun _ h=>?_;refine Ij [0] [0] fun _ h=>?_;exact E8 [0] [0] [0,13,0,13,0]
  intro F h;refine Ir [4] [3,7] fun _ h=>?_;refine S [1,3] ?_;refine M8 fun n=>?_;refine LR e1 hn () (fun l k v=>M0 N E l k) h (fun c v=>[(81,.int (c:Int))]) (fun c v=>[]) [2,3,7,38,39,40,79,80] [2,3,7] [] nl nl [2,3,38,39,40] [2,3] ?_ ?_ ?_
  ·intro _ g c _ h _;rw[M0] at h;exact Sj [3,2,4,0,20]
  ·intro _ g c _ K A h _ f _;rw[M0] at h;refine S [3,2,4,0,1,2,6,3] ?_;refine P9 f ?_;refine B [3] fun _ t h=>?_;refine Q9 t ?_;refine S [2] ?_;refine Jb 124 hn h [2,3,7,38,39,40,79,80,81] [2,3,7] (fun _ h g=>?_) ?_
   ·refine kd [2,3,7,9,10,38,39,40,79,80,81] [2,3,7,9,10] ?_;refine Ij [5] [0] fun _ h=>?_;refine Ij [0] [0] fun _ h=>?_;refine Ij [0] [0] fun _ h=>?_;refine Ij [0] [0] fun _ h=>?_;refine B [0] fun _ q h=>?_;refine cA (sk q) ?_;exact Sj [0]
   intro G h;refine Ir [4] [3,7] fun _ h=>?_;refine S [1,5] ?_;refine A9 (A5 (O4 f n) ?_);exact le () []
  rintro⟨⟩ h;refine S [5] ?_;refine A9 (A5 (O4 e m) ?_);exact le () []
 rintro⟨⟩ h;refine S [2,3] ?_;refine M8 fun o=>?_;refine LR e1 hn () (fun l k v=>L9 N a1 l k) h (fun a v=>[(130,.int (a:Int))]) (fun a v=>[]) [3,128,129] [3] [] nl nl [] [] ?_ ?_ ?_
 ·intro _ g a _ h _;rw[L9] at h;exact Sj [3,2,4,0,20]
 ·intro _ g a _ L C h _ i _;rw[L9] at h;refine S [3,2,4,0,1,2,6,3] ?_;refine P9 i ?_;refine S [2,2] ?_;refine Jb 156 hn h [3,11,12,128,129,130] [3,12] (fun _ h g=>?_) ?_
  ·refine kd [3,11,12,128,129,130] [3,12] ?_;refine B [8] fun _ u h=>?_;refine Q9 u ?_;refine Ij [] [0] fun _ h=>?_;refine B [0,13,0] fun _ w h=>?_;refine Q9 w ?_;exact Sj [0,13,0]
  intro H h;refine Ir [4] [3,7] fun _ h=>?_;refine S [1,3] ?_;refine M8 fun p=>?_;refine LR e1 hn () (fun l k v=>L8 N a1 a l k) h (fun d v=>[(160,.int (d:Int))]) (fun d v=>[]) [3,11,12,128,129,130,159] [3,12] [] nl nl [3,128,129,130] [3] ?_ ?_ ?_
  ·intro _ g d _ h _;rw[L8] at h;exact Sj [3,2,4,0,20]
  ·intro _ g d _ M D h _ j _;rw[L8] at h;refine S [3,2,4,0,1,2,6,3,2,8] ?_;refine P9 j ?_;refine B [] fun _ x h=>?_;refine Q9 x ?_;refine B [] fun _ y h=>?_;refine Q9 y ?_;refine I [4] ?_ ?_<;>intro _ h
   ·refine kd [] [] ?_;exact Sr [3,7]
   refine S [1] ?_;refine kd [3,11,12,128,129,130,159,160] [3,12] ?_;refine S [5] ?_;refine A9 (A5 (O4 j p) ?_);exact le () []
  rintro⟨⟩ h;refine S [5] ?_;refine A9 (A5 (O4 i o) ?_);exact le () []
 rintro⟨⟩ h;exact Sr [3,7]
def sg {N a0 a1 r} (h:mF N a0 a1=some r):Sq 5 [(2000,GL)] [.agg (ba a0),s5 a1] (.bool r) [(2000,GL)] []:=by
 refine so func5 ntmps5 fun n hn=>?_;refine B [3,2,2,8] fun _ f h=>?_;refine cA (qH f) ?_;refine B [] fun _ i h=>?_;refine cA (mG i) ?_;refine Ir [4] [3,7] fun _ h=>?_;refine S [1,2,2] ?_;refine Jb 24 hn h [1] [2000] (fun _ h g=>?_) ?_
 ·refine B [8] fun _ j h=>?_;refine cA (mG j) ?_;refine I [] ?_ ?_<;>intro _ h
  ·refine B [0] fun k a h=>?_;refine cA (tc a) ?_;refine S [0] ?_;refine Exists.intro k (A5 rfl ?_);refine B [0] fun _ b h=>?_;refine cA (tY b) ?_;exact Sj [0]
  exact Sj [0]
 intro m h;refine Ir [4] [3,7] fun _ h=>?_;refine B [1,3] fun _ c h=>?_;refine cA (th c) ?_;refine B [3] fun _ d h=>?_;refine cA (tK d) ?_;refine S [2] ?_;refine Jb 4 hn h [] [2000] (fun _ h g=>?_) ?_
 ·refine I [5] ?_ ?_<;>intro _ h
  ·refine B [0] fun _ e h=>?_;refine cA (si e) ?_;exact Sj [0]
  exact Sj [0]
 intro l h;exact Sr [7]
end
end Go.Proofs.YtibjcppjfkamhaaGreatDoor
