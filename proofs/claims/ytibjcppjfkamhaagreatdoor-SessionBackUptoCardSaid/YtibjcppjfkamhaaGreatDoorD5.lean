import Derived.Test.YtibjcppjfkamhaaGreatDoorD1
import Derived.Test.YtibjcppjfkamhaaGreatDoorD2
import Derived.Test.YtibjcppjfkamhaaGreatDoorD3
set_option linter.unusedVariables false
set_option linter.defProp false
set_option linter.unusedSimpArgs false
namespace Go.Proofs.YtibjcppjfkamhaaGreatDoor
open Go.RowKit Go.Proofs.Tryz
open _root_.And renaming intro->AN
open _root_.Bool renaming and_eq_true->IT
open _root_.ByteArray renaming empty->BY
open _root_.List renaming getElem?_eq_some_iff->Lx,replicate->MC,map->MF,mem_of_getElem?->MI,all_eq_true->MK,length_map->MP,getElem?_set->MQ,getElem?_append_right->MS,length_take->Mk
open _root_.Nat renaming ble->IN,le_refl->It,le_of_ble_eq_true->MR,mul_le_mul_right->Ml
open _root_.Or renaming inl->MA
section
set_option maxHeartbeats 40000000
set_option maxRecDepth 100000
def FD {N a0 a1 a2 a3 r} (h:rm N a0 a1 a2 a3=some r):Spec prog 74 [] [.fp (Q7 a0),.int a1,.fp (J2 a2),.agg (bc a3)] (.int r) [] []:=by
 refine so func74 ntmps74 fun R hn=>?_;unfold rm at h;refine S [3,3,3,2,3] ?_;refine J e1 hn h (fun s=>[(10,.bool s.1),(11,.bool s.2)]) (fun s=>[]) [7] [7] (fun _ h g=>?_) ?_
 ·refine S [6,2,3] ?_;refine Jb 14 hn h [0,1,2,7,9,11,13] [7] (fun _ h g=>?_) ?_
  ·refine I [4] ?_ ?_<;>intro _ h
   ·exact Sj [1]
   refine S [3] ?_;refine Jb 14 hn h [0,1,2,7,9,11,13] [7] (fun _ h g=>?_) ?_
   ·refine I [4] ?_ ?_<;>intro _ h
    ·exact Sj [1]
    refine S [3] ?_;refine Jb 14 hn h [0,1,2,7,9,11,13] [7] (fun _ h g=>?_) ?_
    ·refine I [4] ?_ ?_<;>intro _ h
     ·exact Sj [1]
     refine S [3] ?_;refine Jb 14 hn h [0,1,2,7,9,11,13] [7] (fun _ h g=>?_) ?_
     ·refine I [4] ?_ ?_<;>intro _ h
      ·exact Sj [1]
      refine S [3] ?_;refine Jb 14 hn h [0,1,2,7,9,11,13] [7] (fun _ h g=>?_) ?_
      ·refine I [4] ?_ ?_<;>intro _ h
       ·exact Sj [1]
       refine kd [0,1,2,7,9,11,13] [7] ?_;refine S [3] ?_;refine Jb 14 hn h [0,1,2,7,9,11,13] [7] (fun _ h g=>?_) ?_
       ·refine I [4] ?_ ?_<;>intro _ h
        ·exact Sj [1]
        exact Sj [5]
       intro m h;exact je
      intro l h;exact je
     intro k h;exact je
    intro j h;exact je
   intro Q h;exact je
  intro P h;refine J e1 hn h (fun s=>[(10,.bool s.1),(11,.bool s.2)]) (fun s=>[]) [7] [7] (fun _ h g=>?_) ?_
  ·refine I [4] ?_ ?_<;>intro _ h
   ·exact Sj [5]
   refine S [3] ?_;refine J e1 hn h (fun s=>[(10,.bool s.1),(11,.bool s.2)]) (fun s=>[]) [7] [7] (fun _ h g=>?_) ?_
   ·refine I [4] ?_ ?_<;>intro _ h
    ·refine B [8] fun _ a h=>?_;refine cA (rG a) ?_;exact je
    refine S [2,3] ?_;refine Jb 35 hn h [0,1,2,7,9,11,13] [7] (fun _ h g=>?_) ?_
    ·refine I [4] ?_ ?_<;>intro _ h
     ·exact Sj [1]
     exact Sj [5]
    intro t h;refine J e1 hn h (fun s=>[(10,.bool s.1),(11,.bool s.2)]) (fun s=>[]) [7] [7] (fun _ h g=>?_) ?_
    ·refine I [4] ?_ ?_<;>intro _ h
     ·refine B [8] fun _ b h=>?_;refine cA (rG b) ?_;exact je
     refine S [2,3] ?_;refine Jb 46 hn h [0,1,2,7,9,11,13] [7] (fun _ h g=>?_) ?_
     ·refine I [4] ?_ ?_<;>intro _ h
      ·exact Sj [1]
      exact Sj [5]
     intro w h;refine J e1 hn h (fun s=>[(10,.bool s.1),(11,.bool s.2)]) (fun s=>[]) [7] [7] (fun _ h g=>?_) ?_
     ·refine I [4] ?_ ?_<;>intro _ h
      ·refine B [8] fun _ c h=>?_;refine cA (kD c) ?_;refine B [] fun _ d h=>?_;refine cA (rG d) ?_;exact je
      refine S [3] ?_;refine J e1 hn h (fun s=>[(10,.bool s.1),(11,.bool s.2)]) (fun s=>[]) [7] [7] (fun _ h g=>?_) ?_
      ·refine I [4] ?_ ?_<;>intro _ h
       ·refine Jb 10 hn h [7,11] [7] (fun _ h g=>?_) ?_
        ·refine I [5] ?_ ?_<;>intro _ h
         ·exact Sj [0]
         exact Sj [0]
        intro C h;exact je
       refine S [3] ?_;refine J e1 hn h (fun s=>[(10,.bool s.1),(11,.bool s.2)]) (fun s=>[]) [7] [7] (fun _ h g=>?_) ?_
       ·refine I [4] ?_ ?_<;>intro _ h
        ·refine Jb 10 hn h [7,11] [7] (fun _ h g=>?_) ?_
         ·refine kd [0,7,11] [7] ?_;refine I [8] ?_ ?_<;>intro _ h
          ·exact Sj [0]
          refine I [0] ?_ ?_<;>intro _ h
          ·exact Sj [0,13,0]
          exact Sj [0]
         intro F h;exact je
        refine S [3] ?_;refine J e1 hn h (fun s=>[(10,.bool s.1),(11,.bool s.2)]) (fun s=>[]) [7] [7] (fun _ h g=>?_) ?_
        ·refine I [4] ?_ ?_<;>intro _ h
         ·refine B [5] fun _ e h=>?_;refine cA (rG e) ?_;exact je
         refine S [2,3] ?_;refine Jb 94 hn h [2,7,9,11] [7] (fun _ h g=>?_) ?_
         ·refine I [4] ?_ ?_<;>intro _ h
          ·exact Sj [1]
          exact Sj [5]
         intro K h;refine I [4] ?_ ?_<;>intro _ h
         ·refine B [8,13] fun _ f h=>?_;refine cA (rG f) ?_;exact je
         exact Sr [3,7]
        rintro⟨G,H⟩ h;exact je
       rintro⟨D,E⟩ h;exact je
      rintro⟨z,A⟩ h;exact je
     rintro⟨x,y⟩ h;exact je
    rintro⟨u,v⟩ h;exact je
   rintro⟨p,q⟩ h;exact je
  rintro⟨n,o⟩ h;exact je
 rintro⟨M,O⟩ h;refine I [2,6,3,4] ?_ ?_<;>intro _ h
 ·exact Sr [3,7]
 refine S [2] ?_;refine Jb 109 hn h [] [] (fun _ h g=>?_) ?_
 ·refine I [5] ?_ ?_<;>intro _ h
  ·refine B [0] fun _ i h=>?_;refine cA (qw i) ?_;refine I [0] ?_ ?_<;>intro _ h
   ·exact Sj [0]
   refine I [0] ?_ ?_<;>intro _ h
   ·refine I [0] ?_ ?_<;>intro _ h
    ·exact Sj [0]
    refine I [0] ?_ ?_<;>intro _ h
    ·exact Sj [0]
    exact Sj [0]
   refine I [0] ?_ ?_<;>intro _ h
   ·exact Sj [0]
   exact Sj [0]
  refine I [0] ?_ ?_<;>intro _ h
  ·refine I [0] ?_ ?_<;>intro _ h
   ·exact Sj [0]
   refine I [0] ?_ ?_<;>intro _ h
   ·exact Sj [0]
   exact Sj [0]
  refine I [0] ?_ ?_<;>intro _ h
  ·exact Sj [0]
  exact Sj [0]
 intro L h;refine I [4] ?_ ?_<;>intro _ h
 ·exact Sr [3,7]
 exact Sr [1,3,7]
def FE {N a0 r} (h:rq N a0=some r):Spec prog 75 [] [.agg (J2 a0)] (.ab [.aL 0,.agg (Db r.2)]) [(0,w3 r.1)] [0]:=by
 refine so func75 ntmps75 fun X hn=>?_;unfold rq at h;refine A [3,3,13] fun z h=>?_;refine mN (enc:=fN) (x:=(0:Int)) z aT ?_;refine S [2,3,13] ?_;refine j6.cc 17 rfl (fun u=>?_);refine LU e0 hn (MC (a0.code.length:Int).toNat (0:Int)) (fun l k v=>kx N l k v) h (fun y v=>[(18,.int (y:Int))]) (fun y v=>[(15,w3 v)]) [1,3,4,17] [1,3] [] (fun s=>[]) (fun s=>[(15,w3 s)]) [1,3,4] [1,3] ?_ ?_ ?_
 ·intro _ g y G h _;rw[kx] at h;exact Sj [3,2,4,0,20]
 ·intro _ g y G H h m _;rw[kx] at h;refine B [3,2,4,0,1,2,6,3,5] fun _ c h=>?_;refine X8 c ?_;refine sM (l6 c).2 (-1:Int) ?_;refine S [5] ?_;refine MA (AN (mA m u) ?_);exact le (G.set ((y:Int).toNat) (-1:Int)) []
 intro V h;refine S [3] ?_;refine bS vI [(⟨(0:Int),(0:Int)⟩:dw)] ?_;refine S [2] ?_;refine LF e1 hn (V,[(⟨(0:Int),(0:Int)⟩:dw)]) (fun l v=>ml N a0 l v.1 v.2) h (fun v=>[]) (fun v=>[(15,w3 v.1),(26,d72 v.2)]) [1,3,4,6] [1,3] [] (fun s=>[]) (fun s=>[(15,w3 s)]) [3,4] [3] ?_ ?_
 ·rintro _ g ⟨L,M⟩ K h;rw[ml] at h;refine I [2,3,13,4] ?_ ?_<;>intro _ h
  ·refine S [1] ?_;refine J e1 hn h (fun s=>[(6,.aL 39)]) (fun s=>[(15,w3 s.1),(39,d72 s.2)]) [1,3,4] [1,3] (fun _ h g=>?_) ?_
   ·refine B [6,2,8] fun E d h=>?_;refine X8 d ?_;refine S [17] ?_;refine K6 (l6 d).2 ?_;refine B [] fun n e h=>?_;refine X8 e ?_;refine S [17] ?_;refine K6 (l6 e).2 ?_;refine kd [1,3,4,6,7,8] [1,3,15,26] ?_;refine A [3] fun o h=>?_;refine LA o rfl rfl ?_;refine S [2,2] ?_;refine Jb 48 hn h [1,3,4,6,7,8] [1,3,15,39] (fun _ h g=>?_) ?_
    ·refine I [5] ?_ ?_<;>intro _ h
     ·exact Sj [0]
     exact Sj [0,13,0]
    intro P h;refine I [4] ?_ ?_<;>intro _ h
    ·refine S [2,8,13] ?_;refine nR 2 202 1 3 ?_;exact Sr [7] [(0,202)]
    refine B [1,2,3] fun _ f h=>?_;refine X8 f ?_;refine K6 (l6 f).2 ?_;refine I [4] ?_ ?_<;>intro _ h
    ·refine B [2,3] fun _ i h=>?_;refine X8 i ?_;refine K6 (l6 i).2 ?_;refine I [4] ?_ ?_<;>intro _ h
     ·refine kd [3,7] [3] ?_;refine S [3] ?_;refine nR 2 202 1 3 ?_;exact Sr [7] [(0,202)]
     exact Sj [1,20]
    refine B [1,3] fun _ j h=>?_;refine X8 j ?_;refine sM (l6 j).2 n.f1 ?_;refine B [3] fun F w h=>?_;refine H5 w ?_;refine kd [1,3,4,6,7,8,9] [1,3,9,15,39] ?_;refine B [3] fun b t h=>?_;refine cA (GM t) ?_;refine S [2,2] ?_;refine Jb 91 hn h [1,3,4,6,7,8,9,10,11] [1,3,9,15,39] (fun _ h g=>?_) ?_
    ·refine I [5] ?_ ?_<;>intro _ h
     ·exact Sj [0]
     refine I [0] ?_ ?_<;>intro _ h
     ·exact Sj [0]
     exact Sj [0]
    intro Q h;refine I [4] ?_ ?_<;>intro _ h
    ·refine S [3] ?_;refine nR 2 202 1 3 ?_;exact Sr [7] [(0,202)]
    refine I [1,3,12,12,2,3,4] ?_ ?_<;>intro _ h
    ·refine kd [3,7] [3] ?_;refine S [3] ?_;refine nR 2 202 1 3 ?_;exact Sr [7] [(0,202)]
    refine S [1,2,2] ?_;refine Jb 110 hn h [1,3,4,6,7,8,9] [1,3,9,15,39] (fun _ h g=>?_) ?_
    ·refine kd [1,3,4,6,7,8,9] [1,3,9,15,39] ?_;refine I [5] ?_ ?_<;>intro _ h
     ·exact Sj [0]
     exact Sj [0]
    intro R h;refine J e0 hn h (fun s=>[(6,.aL 117)]) (fun s=>[(117,d72 s)]) [1,3,4,8,9] [1,3,9,15] (fun _ h g=>?_) ?_
    ·refine I [4] ?_ ?_<;>intro _ h
     ·refine S [5,12] ?_;refine bS vI [(⟨(wr (E.f0+(1:Int))),(wr (n.f1+(wr (b.2-b.1))))⟩:dw)] ?_;refine A [] fun p h=>?_;refine aM p ?_;exact je
     exact Sj [1] [(117,39)]
    intro T h;refine S [2] ?_;refine Jb 125 hn h [1,3,4,6,8,9] [1,3,9,15,117] (fun _ h g=>?_) ?_
    ·refine I [5] ?_ ?_<;>intro _ h
     ·exact Sj [0]
     exact Sj [0]
    intro U h;refine J e0 hn h (fun s=>[(6,.aL 132)]) (fun s=>[(132,d72 s)]) [1,3,4] [1,3,15] (fun _ h g=>?_) ?_
    ·refine I [4] ?_ ?_<;>intro _ h
     ·refine S [5] ?_;refine bS vI [(⟨F.a,(wr (n.f1+(wr (b.2-b.1))))⟩:dw)] ?_;refine A [] fun q h=>?_;refine aM q ?_;exact je
     exact Sj [1] [(132,117)]
    intro W h;exact je [(39,132)]
   rintro⟨C,D⟩ h;exact le (C,D) [(26,39)]
  exact Sj [20]
 intro O h;exact Sr [3,7] [(0,15)]
def B5 {N a0 a1 a2 r} (h:pN N a0 a1 a2=some r):Spec prog 39 [] [.agg (Q7 a0),.int a1,.agg (J2 a2)] (.agg (Db r)) [] []:=by
 refine so func39 ntmps39 fun p hn=>?_;unfold pN at h;refine S [3,2,6,2] ?_;refine Jb 12 hn h [1,3,5,6] [3,5,6] (fun _ h g=>?_) ?_
 ·refine I [5] ?_ ?_<;>intro _ h
  ·exact Sj [0]
  exact Sj [0,13,0]
 intro n h;refine I [4] ?_ ?_<;>intro _ h
 ·exact Sr [3,7]
 refine B [3] fun _ i h=>?_;refine cA (qw i) ?_;refine I [4] ?_ ?_<;>intro _ h
 ·exact Sr [3,7]
 refine S [2] ?_;refine Jb 29 hn h [1,3,5,6] [3,5,6] (fun _ h g=>?_) ?_
 ·refine I [5] ?_ ?_<;>intro _ h
  ·exact Sj [0]
  refine I [0] ?_ ?_<;>intro _ h
  ·exact Sj [0]
  refine I [0] ?_ ?_<;>intro _ h
  ·exact Sj [0]
  exact Sj [0]
 intro o h;refine I [4] ?_ ?_<;>intro _ h
 ·exact Sr [3,7]
 refine I [3,4] ?_ ?_<;>intro _ h
 ·exact Sr [3,7]
 refine S [2] ?_;refine Jb 54 hn h [1,3,5,6] [3,5,6] (fun _ h g=>?_) ?_
 ·refine I [5,13] ?_ ?_<;>intro _ h
  ·exact Sj [0]
  exact Sj [0,13,0]
 intro j h;refine I [4] ?_ ?_<;>intro _ h
 ·exact Sr [3,7]
 refine S [1,2,3] ?_;refine O1 fun c=>?_;refine j6.gh (Gh.bF 3 3 rfl rfl rfl) (fun _=>?_);refine j6.gh (Gh.bF 5 5 rfl rfl rfl) (fun _=>?_);refine LR e1 hn () (fun l k v=>n5 N a0 a1 a2 l k) h (fun a v=>[(69,.int (a:Int))]) (fun a v=>[]) [1,3,5,6,67,68] [6] [] (fun s=>[]) (fun s=>[]) [5,6] [6] ?_ ?_ ?_
 ·intro _ g a _ h _;rw[n5] at h;exact Sj [3,2,4,0,20]
 ·intro _ g a _ m f h _ b _;rw[n5] at h;refine S [3,2,4,0,1,2,6,3] ?_;refine W9 b ?_;refine B [3] fun _ d h=>?_;refine cA (FD d) ?_;refine kd [1,3,5,6,7,9,67,68,69] [6] ?_;refine I [3,4] ?_ ?_<;>intro _ h
  ·exact Sr [3,7]
  refine S [1,5] ?_;refine MA (AN (U9 b c) ?_);exact le () []
 rintro⟨⟩ h;refine B [3] fun _ e h=>?_;refine cA ((FE e).sw 0 85) ?_;exact Sr [3,7]
def GP {N a0 r} (h:sC N a0=some r):Spec prog 60 [] [.agg (Q7 a0)] (.agg [.aL 0,jN r.heap,.int r.aB]) [(0,d81 r.a7 [] 1),(1,.aF)] [0,1]:=by
 refine so func60 ntmps60 fun C hn=>?_;unfold sC at h;refine B [3,2,8] fun _ u h=>?_;refine cA (((uh u).sw 0 11).sw 1 711) ?_;refine S [2,3] ?_;refine O1 fun t=>?_;refine nB 3 0 501 4 81 ?_;refine gC (gT 501 502 [(3,(5,27))]) ?_;refine LR e0 hn ([]:List Cl) (fun l k v=>lD N l k v) h (fun p v=>[(18,.int (p:Int))]) (fun p v=>[(501,d81 v [] 502)]) [2,3,16,17] [2,3,11,502,711] [] (fun s=>[]) (fun s=>[(501,d81 s [] 502)]) [2,3] [2,3,11,502,711] ?_ ?_ ?_
 ·intro _ g p x h _;rw[lD] at h;exact Sj [3,2,4,0,20]
 ·intro _ g p x a w h _ c _;rw[lD] at h;refine S [3,2,4,0,1,2,6,3] ?_;refine W9 c ?_;refine S [3,2,3] ?_;refine O1 fun j=>?_;refine nR 6 206 5 27 ?_;refine LR e0 hn ([]:List Me) (fun l k v=>lC N l k v) h (fun b v=>[(25,.int (b:Int))]) (fun b v=>[(206,kq v)]) [2,3,5,6,16,17,18,23,24] [2,3,5,11,501,502,711] [] (fun s=>[]) (fun s=>[(206,kq s)]) [2,3,5,6,16,17,18] [2,3,5,11,501,502,711] ?_ ?_ ?_
  ·intro _ g b o h _;rw[lC] at h;exact Sj [3,2,4,0,20]
  ·intro _ g b o y q h _ d _;rw[lC] at h;refine S [3,2,4,0,1,2,6,3] ?_;refine W9 d ?_;refine B [5] fun n m h=>?_;refine cA (uX m) ?_;refine bS J2 [n] ?_;refine A [] fun f h=>?_;refine aM f ?_;refine kd [2,3,5,6,16,17,18,23,24,25] [2,3,5,11,33,501,502,711] ?_;refine S [5] ?_;refine MA (AN (U9 d j) ?_);exact le (o++[n]) [(206,33)]
  intro e h;refine S [3,5,11] ?_;refine Exists.intro [(3,(5,27))] (Exists.intro (fu (⟨a.name,a.aV,a.aI,e⟩:Cl)) (Exists.intro [(206,kq e)] (AN rfl (AN rfl (AN rfl (AN E5 (AN E5 (AN rfl (AN rfl ?_)))))))));refine A [] fun i h=>?_;refine aD i ?_;refine S [5] ?_;refine MA (AN (U9 c t) ?_);exact le (x++[(⟨a.name,a.aV,a.aI,e⟩:Cl)]) [(501,41),(502,741)]
 intro z h;refine S [3] ?_;refine j6.b9 11 rfl ?_;exact Sr [7] [(0,501),(1,502)]
def GB {N a0 a1 a2 r} (h:qt N a0 a1 a2=some r):Spec prog 97 [] [.agg (Q7 a0),.int a1,.agg (J2 a2)] (.ab [.agg (Q7 r.1),.int r.2]) [] []:=by
 refine so func97 ntmps97 fun w hn=>?_;unfold qt at h;refine S [3,2,2] ?_;refine Jb 20 hn h [1,3,5,6] [3,5,6] (fun _ h g=>?_) ?_
 ·refine I [5] ?_ ?_<;>intro _ h
  ·exact Sj [0]
  exact Sj [0,13,0]
 intro v h;refine I [4] ?_ ?_<;>intro _ h
 ·exact Sr [3,7]
 refine B [1,2,8] fun _ n h=>?_;refine H5 n ?_;refine B [] fun q m h=>?_;refine cA (Z9 m (fun _ _ _ p=>Av p)) ?_;refine S [2,2] ?_;refine Jb 45 hn h [1,3,5,6,8,9] [3,5,6] (fun _ h g=>?_) ?_
 ·refine kd [1,3,5,6,8,9] [3,5,6] ?_;refine I [5] ?_ ?_<;>intro _ h
  ·refine B [0] fun _ k h=>?_;refine H5 k ?_;exact Sj [0,13,0]
  exact Sj [0]
 intro t h;refine I [4] ?_ ?_<;>intro _ h
 ·exact Sr [3,7]
 refine B [1,3] fun _ f h=>?_;refine cA (((GP f).sw 0 48).sw 1 748) ?_;refine B [3] fun e a h=>?_;refine iD a ?_;refine S [2,3] ?_;refine J e0 hn h (fun s=>[]) (fun s=>[(48,d81 s [] 501),(501,.aF)]) [5,6,8,10,11] [5,6,10] (fun _ h g=>?_) ?_
 ·refine I [4] ?_ ?_<;>intro _ h
  ·refine gC (gD 48 501 502 a1.toNat 3 (l6 a).2) ?_;refine kd [5,6,8,10,11] [5,6,10,48,501,502] ?_;refine S [5] ?_;refine hD (l6 a).2 ?_;refine bS J2 [(⟨BY,(0:Int),(0:Int),(0:Int),[]⟩:Me)] ?_;refine B [] fun o i h=>?_;refine cA ((((Ff N _ _ _ _ i).sw 1000 501).sw 1032 62).sw 0 63) ?_;refine hS (l6 a).2 ?_;refine gE (gA 48 63 503 a1.toNat 3 ((l6 a).2) (⟨e.name,e.aV,e.aI,o⟩:Cl)) ?_;exact je [(501,503)]
  exact Sj [1] [(501,748)]
 intro u h;refine B [2] fun c b h=>?_;refine gC (gD 48 504 505 a1.toNat 3 b) ?_;refine kd [5,6,8,10,11] [5,6,10,48,504,505] ?_;refine S [8] ?_;refine hD b ?_;refine B [] fun l j h=>?_;refine cA (uX j) ?_;refine B [] fun _ d h=>?_;refine X8 d ?_;refine sM (l6 d).2 l ?_;refine gC (gA 48 504 506 a1.toNat 3 b (⟨c.name,c.aV,c.aI,(c.aC.set q.1.toNat l)⟩:Cl)) ?_;refine kd [6,10] [6,10,48,506] ?_;refine S [3,12,3] ?_;refine j6.b9 48 rfl ?_;exact Sr [7]
def Fx {N a0 a1 a2 r} (h:ua N a0 a1 a2=some r):Spec prog 65 [(1000,.box (O3 a0) 45)] [.ptr 1000 0,.int a1,.agg (J2 a2)] (.agg (nb r.1)) [(1000,.box (O3 r.2) 45)] []:=by
 refine so func65 ntmps65 fun d hn=>?_;unfold ua at h;refine B [3,2,2,8] fun _ a h=>?_;refine cA (B5 a) ?_;refine I [3,4] ?_ ?_<;>intro _ h
 ·exact Sr [3,7]
 refine B [1,2,8] fun _ b h=>?_;refine cA (GB b) ?_;refine S [2] ?_;refine kd [0,6,8,9] [6,8,1000] ?_;refine S [3] ?_;refine J e0 hn h (fun s=>[]) (fun s=>[(1000,.box (O3 s) 45)]) [0,6,9] [6] (fun _ h g=>?_) ?_
 ·refine I [4] ?_ ?_<;>intro _ h
  ·exact Sj [5]
  exact Sj [1]
 intro c h;exact Sr [3,7]
def FK {N a0 a1 r} (h:ug N a0 a1=some r):Spec prog 66 [(1000,.box (O3 a0) 45)] [.ptr 1000 0,.int a1] (.agg (nb r.1)) [(1000,.box (O3 r.2) 45)] []:=by
 refine so func66 ntmps66 fun d hn=>?_;unfold ug at h;refine S [3,2,2] ?_;refine Jb 23 hn h [0,1,4] [4,1000] (fun _ h g=>?_) ?_
 ·refine I [5] ?_ ?_<;>intro _ h
  ·refine I [0] ?_ ?_<;>intro _ h
   ·exact Sj [0]
   exact Sj [0,13,0]
  exact Sj [0]
 intro c h;refine I [4] ?_ ?_<;>intro _ h
 ·exact Sr [3,7]
 refine S [1,2] ?_;refine kd [0,1,4] [4,1000] ?_;refine B [8] fun _ b h=>?_;refine cA (kD b) ?_;refine B [] fun _ a h=>?_;refine cA (((uq a).sw 0 38).sw 1 738) ?_;refine S [2] ?_;refine kd [0,4,5,6,7] [4,6,38,738,1000] ?_;refine I [3,4] ?_ ?_<;>intro _ h
 ·exact Sr [3,7]
 refine S [1,3,3] ?_;refine j6.b9 38 rfl ?_;exact Sr [7]
def zY {N a0 gq a1 a2 a3 a4 r} (h:M9 N a0 gq a1 a2 a3 a4=some r) {K:Nat} {a:List AV} {v:Nat} (y:∀t u H,gq t u=some H->Spec prog v [] [.int t,.int u] (.ab [.agg (ed H.1),.bool H.2]) [] []):Spec prog 166 [(1000,mB a0 (.fn K [.ptr 1007 0,.fp a]) (.fn v []) 1001 1003),(1001,.box [E9 a0.w.a7,.aL 1002,.int a0.w.aB] 40),(1003,p9 a0.aG [] 1005)] [.ptr 1000 0,.int a1,.int a2,.agg (eV a3),zN a4] (.ab []) [(1000,mB r (.fn K [.ptr 1007 0,.fp a]) (.fn v []) 1001 4),(1001,.box [E9 a0.w.a7,.aL 1002,.int a0.w.aB] 40),(4,p9 r.aG [] 5),(5,.aF),(1003,.aF)] [5,4]:=by
 refine so func166 ntmps166 fun L hn=>?_;unfold M9 at h;refine B [15,3,3] fun _ C h=>?_;refine H5 C ?_;refine B [] fun _ D h=>?_;refine H5 D ?_;refine S [2] ?_;refine kd [0,1,2,4,8,10] [8,1000,1001,1003] ?_;refine I [3,13,4] ?_ ?_<;>intro _ h
 ·refine B [3] fun _ z h=>?_;refine cA (J7 z) ?_;refine gC (gR 1000 6 1003 501 502) ?_;exact Sr [7] [(4,501),(5,502)]
 refine I [1,2,3,4] ?_ ?_<;>intro _ h
 ·refine S [2] ?_;refine kd [0,4,8,10] [8,1000,1001,1003] ?_;refine B [3] fun _ e h=>?_;refine cA (wB e) ?_;refine I [4] ?_ ?_<;>intro _ h
  ·refine gC (gR 1000 6 1003 503 504) ?_;exact Sr [7] [(4,503),(5,504)]
  refine B [1,2,8] fun _ p h=>?_;refine H5 p ?_;refine B [] fun _ f h=>?_;refine cA (wa f) ?_;refine S [2] ?_;refine kd [0,11,12] [11,1000,1001,1003] ?_;refine I [3,4] ?_ ?_<;>intro _ h
  ·refine B [3] fun _ i h=>?_;refine cA (J7 i) ?_;refine gC (gR 1000 6 1003 505 506) ?_;exact Sr [7] [(4,505),(5,506)]
  refine B [1,3] fun _ j h=>?_;refine cA ((zr j).sw 5 507) ?_;refine gC (gR 1000 6 1003 508 509) ?_;exact Sr [7] [(4,508),(5,509)]
 refine S [1,2] ?_;refine kd [0,1,2,4,8,10] [8,1000,1001,1003] ?_;refine B [3] fun _ l h=>?_;refine cA (wB l) ?_;refine I [4] ?_ ?_<;>intro _ h
 ·refine gC (gR 1000 6 1003 510 511) ?_;exact Sr [7] [(4,510),(5,511)]
 refine S [1,2] ?_;refine kd [0,1,2,4,8,10] [8,1000,1001,1003] ?_;refine B [8] fun E m h=>?_;refine cA ((mf N _ _ m).sw 0 77) ?_;refine A [] fun b h=>?_;refine mN (enc:=eV) (x:=(⟨(0:Int),(0:Int)⟩:V)) b aT ?_;refine S [2] ?_;refine kd [0,1,2,13] [13,77,82,1000,1001,1003] ?_;refine B [3] fun _ o h=>?_;refine cA (y _ _ _ o) ?_;refine S [3] ?_;refine J e0 hn h (fun s=>[]) (fun s=>[(13,.box [.int a1,.int a2,.bool s.1,oT s.2.1,.int a3.k,.int a3.n,.aL 77,.aL 99,.aP,.int (0:Int)] 288),(99,ia s.2.2)]) [0,13] [77,1000,1001,1003] (fun _ h g=>?_) ?_
 ·refine I [4] ?_ ?_<;>intro _ h
  ·refine kd [0,13,14] [13,14,77,82,1000,1001,1003] ?_;refine A [8] fun c h=>?_;refine mN (enc:=eV) (x:=(⟨(0:Int),(0:Int)⟩:V)) c aT ?_;exact je
  exact Sj [1] [(99,82)]
 rintro⟨F,G,q⟩ h;refine j6.ax 77 rfl ?_;refine kd [0,13] [13,99,1000,1001,1003] ?_;refine S [8,11] ?_;refine Exists.intro [(7,(2,29)),(8,(2,29))] (Exists.intro (vW (⟨a1,a2,F,G,a3,E,q,[],(0:Int)⟩:j3)) (Exists.intro [(99,ia q)] (AN rfl (AN rfl (AN rfl (AN E5 (AN E5 (AN rfl (AN rfl ?_)))))))));refine A [] fun d h=>?_;refine aD d ?_;exact Sr [14] [(4,110),(5,810)]
def F0 {N a0 gl gq sb a1 a2 a3 r} (h:rD N a0 gl gq sb a1 a2 a3=some r) {u:Nat} {c:List AV} (y:∀d f t E i,gl d f t E=some i->Spec prog u [(1007,.box (eL E) 153)] [.agg (bW d),.int f,.str t,.ptr 1007 0,.fp c] (.ab [.int i.1,.int i.2.1]) [(1007,.box (eL i.2.2) 153)] []) {v:Nat} (z:∀d f i,gq d f=some i->Spec prog v [] [.int d,.int f] (.ab [.agg (ed i.1),.bool i.2]) [] []):Spec prog 198 [(1000,mB a0 (.fn u [.ptr 1007 0,.fp c]) (.fn v []) 1001 1003),(1001,.box [E9 a0.w.a7,.aL 1002,.int a0.w.aB] 40),(1002,F3 a0.w.heap [] 1004),(1003,p9 a0.aG [] 1005),(1007,.box (eL sb) 153)] [.ptr 1000 0,.ep 1003 a1 10 0,.agg (bc a2),.int a3] (.ab []) [(1000,mB r.2 (.fn u [.ptr 1007 0,.fp c]) (.fn v []) 1001 4),(1001,.box [E9 a0.w.a7,.aL 1002,.int a0.w.aB] 40),(1002,F3 a0.w.heap [] 1004),(4,p9 r.2.aG [] 5),(5,.aF),(1003,.aF),(1007,.box (eL r.1) 153)] [5,4]:=by
 refine so func198 ntmps198 fun G hn=>?_;unfold rD at h;refine B [15,3,2] fun e b h=>?_;refine gC (gD 1003 501 502 a1 8 b) ?_;refine kd [0,1,3,6] [6,501,502,1000,1001,1002,1003,1007] ?_;refine S [8] ?_;refine hD b ?_;refine S [13,12,2] ?_;refine kd [0,1,3,6,8] [6,501,502,1000,1001,1002,1003,1007] ?_;refine S [8] ?_;refine hD b ?_;refine A [] fun x h=>?_;refine d25 x rfl rfl ?_;refine B [] fun _ C h=>?_;refine qB ((Spec.drop1 (mf N _ _ C)).sw 0 28) ⟨d73 _,trivial⟩ ?_;refine hD b ?_;refine B [12] fun _ q h=>?_;refine X8 q ?_;refine K6 (l6 q).2 ?_;refine S [2] ?_;refine gC (gB 1003 501 503 a1 8 b) ?_;refine kd [0,1,3,6,8,9,10] [6,10,28,503,1000,1001,1002,1003,1007] ?_;refine S [8] ?_;refine K6 b ?_;refine K6 b ?_;refine B [] fun _ o h=>?_;refine H5 o ?_;refine K6 b ?_;refine B [] fun D p h=>?_;refine H5 p ?_;refine S [2] ?_;refine kd [0,1,6,8,9,10,11] [6,10,11,28,503,1000,1001,1002,1003,1007] ?_;refine S [3] ?_;refine K6 b ?_;refine J e0 hn h (fun s=>[]) (fun s=>[(11,.box [.int e.aK,.str D.name,.int s] 156)]) [0,1,6,8,9,10,11] [6,10,28,503,1000,1001,1002,1003,1007] (fun _ h g=>?_) ?_
 ·refine I [4] ?_ ?_<;>intro _ h
  ·exact Sj [5]
  exact Sj [1]
 intro F h;refine S [2] ?_;refine kd [0,1,6,8,9,10,11] [6,10,11,28,503,1000,1001,1002,1003,1007] ?_;refine B [8] fun _ k h=>?_;refine cD (kC k) ?_;refine B [] fun _ l h=>?_;refine cA (y _ _ _ _ _ l) ?_;refine S [2] ?_;refine kd [0,1,8,9,10,12,13] [10,28,503,1000,1001,1002,1003,1007] ?_;refine I [3,4] ?_ ?_<;>intro _ h
 ·refine B [3] fun _ m h=>?_;refine cA (J7 m) ?_;refine gC (gR 1000 6 1003 504 505) ?_;exact Sr [7] [(4,504),(5,505)]
 refine S [1] ?_;refine gC (gD 1003 506 507 a1 8 b) ?_;refine kd [0,1,8,9,10,12,13] [10,28,506,507,1000,1001,1002,1003,1007] ?_;refine S [3] ?_;refine hD b ?_;refine A [12] fun j h=>?_;refine j8 j rfl rfl ?_;refine hS b ?_;refine gC (gA 1003 102 508 a1 8 b (⟨e.aK,e.aN,e.aY,e.code,e.aU,e.args,e.a8,(e.aA.take (wr ((wr ((e.aA.length:Int)-a2.a))-(1:Int))).toNat),e.aJ⟩:j3)) ?_;refine kd [0,1,9,10,12,13] [10,28,508,1000,1001,1002,1003,1007] ?_;refine B [5] fun _ n h=>?_;refine cF ((((zY n z).sw 1005 508).sw 5 509).sw 4 510) ?_;exact Sr [14] [(4,510),(5,509)]
def Ez {N a0 a1 a2 r} (h:Y0 N a0 a1 a2=some r) {k:Nat} {b:List AV} {l:Nat}:Spec prog 202 [(1000,mB a0 (.fn k [.ptr 1007 0,.fp b]) (.fn l []) 1001 1003),(1001,.box [E9 a0.w.a7,.aL 1002,.int a0.w.aB] 40),(1002,F3 a0.w.heap [] 1004),(1003,p9 a0.aG [] 1005)] [.ptr 1000 0,.ep 1003 a1 10 0,.agg (bc a2)] (.ab []) [(1000,mB r (.fn k [.ptr 1007 0,.fp b]) (.fn l []) 1001 1003),(1001,.box [E9 r.w.a7,.aL 2,.int r.w.aB] 40),(2,F3 r.w.heap [] 3),(3,.aF),(1002,.aF),(1003,p9 r.aG [] 5),(5,.aF)] [3,2,5]:=by
 refine so func202 ntmps202 fun Γ hn=>?_;unfold Y0 at h;refine S [15,3,3,3] ?_;refine J e1 hn h (fun s=>[]) (fun s=>[(186,F3 s.1 [] 518),(501,.aF),(518,.aF),(1000,.box [.ptr 1001 0,.fn k [.ptr 1007 0,.fp b],.fn l [],.int s.2.1,.int s.2.2.1,.int s.2.2.2.1,.aL 1003,.int s.2.2.2.2.2.1,.int s.2.2.2.2.2.2.1,.int s.2.2.2.2.2.2.2] 251),(1001,.box [E9 a0.w.a7,.aL 186,.int a0.w.aB] 40),(1002,.aF),(1003,p9 s.2.2.2.2.1 [] 501)]) [0,1] [] (fun _ h g=>?_) ?_
 ·refine S [6,3] ?_;refine J e1 hn h (fun s=>[]) (fun s=>[(186,F3 s.1 [] 518),(501,.aF),(518,.aF),(1000,.box [.ptr 1001 0,.fn k [.ptr 1007 0,.fp b],.fn l [],.int s.2.1,.int s.2.2.1,.int s.2.2.2.1,.aL 1003,.int s.2.2.2.2.2.1,.int s.2.2.2.2.2.2.1,.int s.2.2.2.2.2.2.2] 251),(1001,.box [E9 a0.w.a7,.aL 186,.int a0.w.aB] 40),(1002,.aF),(1003,p9 s.2.2.2.2.1 [] 501)]) [0,1] [] (fun _ h g=>?_) ?_
  ·refine I [4] ?_ ?_<;>intro _ h
   ·refine B [5] fun _ hx21 h=>?_;refine K6 hx21 ?_;refine B [] fun _ Z h=>?_;refine cA ((q9 Z).ay [(1016,4),(1019,1003),(1021,1005),(21,501)] rfl) ?_;refine gE (gR 1001 1 1002 502 503) ?_;exact je [(186,502),(518,503)]
   refine S [3] ?_;refine J e1 hn h (fun s=>[]) (fun s=>[(186,F3 s.1 [] 520),(504,.aF),(520,.aF),(1000,.box [.ptr 1001 0,.fn k [.ptr 1007 0,.fp b],.fn l [],.int s.2.1,.int s.2.2.1,.int s.2.2.2.1,.aL 1003,.int s.2.2.2.2.2.1,.int s.2.2.2.2.2.2.1,.int s.2.2.2.2.2.2.2] 251),(1001,.box [E9 a0.w.a7,.aL 186,.int a0.w.aB] 40),(1002,.aF),(1003,p9 s.2.2.2.2.1 [] 504)]) [0,1] [] (fun _ h g=>?_) ?_
   ·refine I [4] ?_ ?_<;>intro _ h
    ·refine B [8] fun _ hx35 h=>?_;refine K6 hx35 ?_;refine B [] fun _ hx37 h=>?_;refine H5 hx37 ?_;refine B [] fun _ hr39 h=>?_;refine cA ((q9 hr39).ay [(1016,4),(1019,1003),(1021,1005),(21,504)] rfl) ?_;refine gE (gR 1001 1 1002 505 506) ?_;exact je [(186,505),(520,506)]
    refine S [3] ?_;refine J e1 hn h (fun s=>[]) (fun s=>[(186,F3 s.1 [] 522),(507,.aF),(522,.aF),(1000,.box [.ptr 1001 0,.fn k [.ptr 1007 0,.fp b],.fn l [],.int s.2.1,.int s.2.2.1,.int s.2.2.2.1,.aL 1003,.int s.2.2.2.2.2.1,.int s.2.2.2.2.2.2.1,.int s.2.2.2.2.2.2.2] 251),(1001,.box [E9 a0.w.a7,.aL 186,.int a0.w.aB] 40),(1002,.aF),(1003,p9 s.2.2.2.2.1 [] 507)]) [0,1] [] (fun _ h g=>?_) ?_
    ·refine I [4] ?_ ?_<;>intro _ h
     ·refine B [] fun x50 D h=>?_;refine gC (gD 1003 507 508 a1 7 D) ?_;refine kd [0,1,4,5,6] [4,5,507,508,1000,1001,1002,1003] ?_;refine S [8] ?_;refine hD D ?_;refine B [] fun _ E h=>?_;refine X8 E ?_;refine K6 (l6 E).2 ?_;refine B [] fun _ hr55 h=>?_;refine cA ((oa hr55).ay [(1022,507),(1016,4),(1019,1003),(1021,508),(21,509)] rfl) ?_;refine B [] fun j hx57 h=>?_;refine gE (gA 1003 507 510 a1 7 hx57 (⟨j.aK,j.aN,j.aY,j.code,j.aU,j.args,x50.a8,j.aA,j.aJ⟩:j3)) ?_;refine gE (gR 1001 1 1002 511 512) ?_;exact je [(186,511),(522,512),(507,510)]
     refine S [3] ?_;refine J e1 hn h (fun s=>[]) (fun s=>[(186,F3 s.1 [] 525),(513,.aF),(525,.aF),(1000,.box [.ptr 1001 0,.fn k [.ptr 1007 0,.fp b],.fn l [],.int s.2.1,.int s.2.2.1,.int s.2.2.2.1,.aL 1003,.int s.2.2.2.2.2.1,.int s.2.2.2.2.2.2.1,.int s.2.2.2.2.2.2.2] 251),(1001,.box [E9 a0.w.a7,.aL 186,.int a0.w.aB] 40),(1002,.aF),(1003,p9 s.2.2.2.2.1 [] 513)]) [0,1] [] (fun _ h g=>?_) ?_
     ·refine I [4] ?_ ?_<;>intro _ h
      ·refine kd [0,1,4,5,6] [4,5,1000,1001,1002,1003] ?_;refine B [8] fun _ hx69 h=>?_;refine K6 hx69 ?_;refine B [] fun _ hr71 h=>?_;refine cD (oq hr71) ?_;refine B [] fun _ hr73 h=>?_;refine cA ((q9 hr73).ay [(1016,4),(1019,1003),(1021,1005),(21,513)] rfl) ?_;refine gE (gR 1001 1 1002 514 515) ?_;exact je [(186,514),(525,515)]
      refine kd [0,1,4,5,6,12] [4,5,1000,1001,1002,1003] ?_;refine S [3] ?_;refine J e1 hn h (fun s=>[]) (fun s=>[(186,F3 s.1 [] 527),(516,.aF),(527,.aF),(1000,.box [.ptr 1001 0,.fn k [.ptr 1007 0,.fp b],.fn l [],.int s.2.1,.int s.2.2.1,.int s.2.2.2.1,.aL 1003,.int s.2.2.2.2.2.1,.int s.2.2.2.2.2.2.1,.int s.2.2.2.2.2.2.2] 251),(1001,.box [E9 a0.w.a7,.aL 186,.int a0.w.aB] 40),(1002,.aF),(1003,p9 s.2.2.2.2.1 [] 516)]) [0,1] [] (fun _ h g=>?_) ?_
      ·refine I [4] ?_ ?_<;>intro _ h
       ·refine B [5] fun _ hr85 h=>?_;refine cA ((q9 hr85).ay [(1016,4),(1019,1003),(1021,1005),(21,516)] rfl) ?_;refine gE (gR 1001 1 1002 517 518) ?_;exact je [(186,517),(527,518)]
       refine S [3] ?_;refine J e1 hn h (fun s=>[]) (fun s=>[(186,F3 s.1 [] 529),(519,.aF),(529,.aF),(1000,.box [.ptr 1001 0,.fn k [.ptr 1007 0,.fp b],.fn l [],.int s.2.1,.int s.2.2.1,.int s.2.2.2.1,.aL 1003,.int s.2.2.2.2.2.1,.int s.2.2.2.2.2.2.1,.int s.2.2.2.2.2.2.2] 251),(1001,.box [E9 a0.w.a7,.aL 186,.int a0.w.aB] 40),(1002,.aF),(1003,p9 s.2.2.2.2.1 [] 519)]) [0,1] [] (fun _ h g=>?_) ?_
       ·refine I [4] ?_ ?_<;>intro _ h
        ·refine B [5] fun _ hr97 h=>?_;refine cA ((q9 hr97).ay [(1016,4),(1019,1003),(1021,1005),(21,519)] rfl) ?_;refine gE (gR 1001 1 1002 520 521) ?_;exact je [(186,520),(529,521)]
        refine S [2,3] ?_;refine Jb 75 hn h [0,1,4,5,6,12] [4,5,1000,1001,1002,1003] (fun _ h g=>?_) ?_
        ·refine I [4] ?_ ?_<;>intro _ h
         ·exact Sj [1]
         exact Sj [5]
        intro v98 h;refine J e1 hn h (fun s=>[]) (fun s=>[(186,F3 s.1 [] 531),(522,.aF),(531,.aF),(1000,.box [.ptr 1001 0,.fn k [.ptr 1007 0,.fp b],.fn l [],.int s.2.1,.int s.2.2.1,.int s.2.2.2.1,.aL 1003,.int s.2.2.2.2.2.1,.int s.2.2.2.2.2.2.1,.int s.2.2.2.2.2.2.2] 251),(1001,.box [E9 a0.w.a7,.aL 186,.int a0.w.aB] 40),(1002,.aF),(1003,p9 s.2.2.2.2.1 [] 522)]) [0,1] [] (fun _ h g=>?_) ?_
        ·refine I [4] ?_ ?_<;>intro _ h
         ·refine B [5] fun _ G h=>?_;refine cA (qx G) ?_;refine B [] fun _ H h=>?_;refine cA ((q9 H).ay [(1016,4),(1019,1003),(1021,1005),(21,522)] rfl) ?_;refine gE (gR 1001 1 1002 523 524) ?_;exact je [(186,523),(531,524)]
         refine S [3] ?_;refine J e1 hn h (fun s=>[]) (fun s=>[(186,F3 s.1 [] 533),(525,.aF),(533,.aF),(1000,.box [.ptr 1001 0,.fn k [.ptr 1007 0,.fp b],.fn l [],.int s.2.1,.int s.2.2.1,.int s.2.2.2.1,.aL 1003,.int s.2.2.2.2.2.1,.int s.2.2.2.2.2.2.1,.int s.2.2.2.2.2.2.2] 251),(1001,.box [E9 a0.w.a7,.aL 186,.int a0.w.aB] 40),(1002,.aF),(1003,p9 s.2.2.2.2.1 [] 525)]) [0,1] [] (fun _ h g=>?_) ?_
         ·refine I [4] ?_ ?_<;>intro _ h
          ·refine B [5] fun _ K h=>?_;refine cA ((Q0 K).sw 5 525) ?_;refine gE (gR 1001 1 1002 526 527) ?_;exact je [(186,526),(533,527)]
          refine S [3] ?_;refine J e1 hn h (fun s=>[]) (fun s=>[(186,F3 s.1 [] 535),(528,.aF),(535,.aF),(1000,.box [.ptr 1001 0,.fn k [.ptr 1007 0,.fp b],.fn l [],.int s.2.1,.int s.2.2.1,.int s.2.2.2.1,.aL 1003,.int s.2.2.2.2.2.1,.int s.2.2.2.2.2.2.1,.int s.2.2.2.2.2.2.2] 251),(1001,.box [E9 a0.w.a7,.aL 186,.int a0.w.aB] 40),(1002,.aF),(1003,p9 s.2.2.2.2.1 [] 528)]) [0,1] [] (fun _ h g=>?_) ?_
          ·refine I [4] ?_ ?_<;>intro _ h
           ·refine B [] fun c i h=>?_;refine gC (gD 1003 528 529 a1 8 i) ?_;refine kd [0,1,4,6] [4,528,529,1000,1001,1002,1003] ?_;refine S [8] ?_;refine hD i ?_;refine hD i ?_;refine B [13,12] fun _ n h=>?_;refine X8 n ?_;refine K6 (l6 n).2 ?_;refine B [] fun r142 L h=>?_;refine cA ((wE L).ay [(1022,528),(1016,4),(1019,1003),(1021,529),(22,530)] rfl) ?_;refine gE (gA 1003 530 531 a1 8 i (⟨c.aK,c.aN,c.aY,c.code,c.aU,c.args,c.a8,r142,c.aJ⟩:j3)) ?_;refine gE (gR 1001 1 1002 532 533) ?_;exact je [(186,532),(535,533),(528,531)]
           refine S [3] ?_;refine J e1 hn h (fun s=>[]) (fun s=>[(186,F3 s.1 [] 538),(534,.aF),(538,.aF),(1000,.box [.ptr 1001 0,.fn k [.ptr 1007 0,.fp b],.fn l [],.int s.2.1,.int s.2.2.1,.int s.2.2.2.1,.aL 1003,.int s.2.2.2.2.2.1,.int s.2.2.2.2.2.2.1,.int s.2.2.2.2.2.2.2] 251),(1001,.box [E9 a0.w.a7,.aL 186,.int a0.w.aB] 40),(1002,.aF),(1003,p9 s.2.2.2.2.1 [] 534)]) [0,1] [] (fun _ h g=>?_) ?_
           ·refine I [4] ?_ ?_<;>intro _ h
            ·refine B [] fun x154 o h=>?_;refine gC (gD 1003 534 535 a1 7 o) ?_;refine kd [0,1,4,5] [4,5,534,535,1000,1001,1002,1003] ?_;refine gz 3 7 hn ?_;refine hD o ?_;refine B [] fun F M h=>?_;refine cA ((((od M).sw 1005 535).sw 1006 534).sw 5 536) ?_;refine B [] fun d p h=>?_;refine AN ⟨rfl,⟨rfl,trivial⟩,nu p rfl rfl E5 rfl ⟨rfl,rfl,rfl,rfl⟩⟩ ?_;refine B [] fun _ q h=>?_;refine X8 q ?_;refine sM (l6 q).2 F.1 ?_;refine gE (gA 1003 534 537 a1 7 p (⟨d.aK,d.aN,d.aY,d.code,d.aU,d.args,(x154.a8.set a2.a.toNat F.1),d.aA,d.aJ⟩:j3)) ?_;refine gE (gR 1001 1 1002 538 539) ?_;exact je [(186,538),(538,539),(534,537)]
            refine S [3] ?_;refine J e1 hn h (fun s=>[]) (fun s=>[(186,F3 s.1 [] 541),(540,.aF),(541,.aF),(1000,.box [.ptr 1001 0,.fn k [.ptr 1007 0,.fp b],.fn l [],.int s.2.1,.int s.2.2.1,.int s.2.2.2.1,.aL 1003,.int s.2.2.2.2.2.1,.int s.2.2.2.2.2.2.1,.int s.2.2.2.2.2.2.2] 251),(1001,.box [E9 a0.w.a7,.aL 186,.int a0.w.aB] 40),(1002,.aF),(1003,p9 s.2.2.2.2.1 [] 540)]) [0,1] [] (fun _ h g=>?_) ?_
            ·refine I [4] ?_ ?_<;>intro _ h
             ·refine gz 4 8 hn ?_;refine B [] fun _ t h=>?_;refine K6 t ?_;refine B [] fun _ m h=>?_;refine cA ((Q0 m).sw 5 540) ?_;refine B [] fun _ u h=>?_;refine AN ⟨rfl,⟨rfl,trivial⟩,K6 u ⟨congrArg (fun v=>AV.agg (eV v)) (wT m t u),rfl,rfl,rfl⟩⟩ ?_;refine B [] fun _ O h=>?_;refine cA ((zy O).sw 3 541) ?_;refine gE (gR 1001 1 1002 542 543) ?_;exact je [(186,542),(541,543)]
             refine S [3] ?_;refine J e1 hn h (fun s=>[]) (fun s=>[(186,F3 s.1 [] 550),(544,.aF),(550,.aF),(1000,.box [.ptr 1001 0,.fn k [.ptr 1007 0,.fp b],.fn l [],.int s.2.1,.int s.2.2.1,.int s.2.2.2.1,.aL 1003,.int s.2.2.2.2.2.1,.int s.2.2.2.2.2.2.1,.int s.2.2.2.2.2.2.2] 251),(1001,.box [E9 a0.w.a7,.aL 186,.int a0.w.aB] 40),(1002,.aF),(1003,p9 s.2.2.2.2.1 [] 544)]) [0,1] [] (fun _ h g=>?_) ?_
             ·refine I [4] ?_ ?_<;>intro _ h
              ·refine B [] fun x190 x h=>?_;refine gC (gD 1003 544 545 a1 7 x) ?_;refine kd [0,1,4,5,6] [4,5,544,545,1000,1001,1002,1003] ?_;refine S [8] ?_;refine hD x ?_;refine B [] fun _ y h=>?_;refine X8 y ?_;refine K6 (l6 y).2 ?_;refine B [] fun _ P h=>?_;refine cD (oq P) ?_;refine B [] fun _ Q h=>?_;refine cA ((oa Q).ay [(1022,544),(1016,4),(1019,1003),(1021,545),(21,546)] rfl) ?_;refine B [] fun e Y h=>?_;refine gE (gA 1003 544 547 a1 7 Y (⟨e.aK,e.aN,e.aY,e.code,e.aU,e.args,x190.a8,e.aA,e.aJ⟩:j3)) ?_;refine gE (gR 1001 1 1002 548 549) ?_;exact je [(186,548),(550,549),(544,547)]
              refine kd [0,1,4,5,6,12] [4,5,1000,1001,1002,1003] ?_;refine S [3] ?_;refine J e1 hn h (fun s=>[]) (fun s=>[(186,F3 s.1 [] 553),(550,.aF),(553,.aF),(1000,.box [.ptr 1001 0,.fn k [.ptr 1007 0,.fp b],.fn l [],.int s.2.1,.int s.2.2.1,.int s.2.2.2.1,.aL 1003,.int s.2.2.2.2.2.1,.int s.2.2.2.2.2.2.1,.int s.2.2.2.2.2.2.2] 251),(1001,.box [E9 a0.w.a7,.aL 186,.int a0.w.aB] 40),(1002,.aF),(1003,p9 s.2.2.2.2.1 [] 550)]) [0,1] [] (fun _ h g=>?_) ?_
              ·refine I [4] ?_ ?_<;>intro _ h
               ·refine B [] fun x210 z h=>?_;refine gC (gD 1003 550 551 a1 7 z) ?_;refine kd [0,1,4,5] [4,5,550,551,1000,1001,1002,1003] ?_;refine gz 4 12 hn ?_;refine hD z ?_;refine B [] fun _ A h=>?_;refine X8 A ?_;refine K6 (l6 A).2 ?_;refine B [] fun _ R h=>?_;refine cA ((((od R).sw 1005 551).sw 1006 550).sw 5 552) ?_;refine B [] fun f C h=>?_;refine AN ⟨rfl,⟨rfl,trivial⟩,nu C rfl rfl E5 rfl ⟨rfl,rfl,rfl,rfl⟩⟩ ?_;refine B [] fun _ T h=>?_;refine cA ((zy T).sw 3 553) ?_;refine gE (gA 1003 550 554 a1 7 C (⟨f.aK,f.aN,f.aY,f.code,f.aU,f.args,x210.a8,f.aA,f.aJ⟩:j3)) ?_;refine gE (gR 1001 1 1002 555 556) ?_;exact je [(186,555),(553,556),(550,554)]
               refine S [3] ?_;refine J e1 hn h (fun s=>[]) (fun s=>[(186,F3 s.1 [] 886),(560,.aF),(886,.aF),(1001,.box [E9 a0.w.a7,.aL 186,.int a0.w.aB] 40),(1002,.aF),(1003,p9 s.2 [] 560)]) [0,1] [1000] (fun _ h g=>?_) ?_
               ·refine I [4] ?_ ?_<;>intro _ h
                ·refine S [2] ?_;refine kd [0,1,5,6] [4,5,1000,1001,1002,1003] ?_;refine B [8] fun _ U h=>?_;refine cD (kD U) ?_;refine B [] fun _ V h=>?_;refine qB (((uq V).sw 0 186).sw 1 886) ⟨yu _,trivial,trivial⟩ ?_;refine S [2] ?_;refine kd [0,1,6,7,8,9] [4,8,186,886,1000,1001,1002,1003] ?_;refine I [3,4] ?_ ?_<;>intro _ h
                 ·refine B [3] fun _ W h=>?_;refine cA (J7 W) ?_;refine gC (gR 1001 1 1002 557 558) ?_;refine gC (gS 1003 559) ?_;exact Sr [7] [(2,557),(3,558),(5,559)]
                 refine B [1,3,5] fun _ X h=>?_;refine cA ((q9 X).ay [(1016,4),(1019,1003),(1021,1005),(21,560)] rfl) ?_;refine gE (gX 1002) ?_;exact je
                refine S [1] ?_;refine gE (gR 1001 1 1002 561 562) ?_;refine gE (gS 1003 563) ?_;exact je [(186,561),(886,562),(560,563)]
               rintro⟨v220,v221⟩ h;exact je [(553,886),(550,560)]
              rintro⟨v200,v201,v202,v203,v204,v205,v206,v207⟩ h;exact je [(550,553),(544,550)]
             rintro⟨v180,v181,v182,v183,v184,v185,v186,v187⟩ h;exact je [(541,550),(540,544)]
            rintro⟨v162,v163,v164,v165,v166,v167,v168,v169⟩ h;exact je [(538,541),(534,540)]
           rintro⟨v144,v145,v146,v147,v148,v149,v150,v151⟩ h;exact je [(535,538),(528,534)]
          rintro⟨v127,v128,v129,v130,v131,v132,v133,v134⟩ h;exact je [(533,535),(525,528)]
         rintro⟨v115,v116,v117,v118,v119,v120,v121,v122⟩ h;exact je [(531,533),(522,525)]
        rintro⟨v101,v102,v103,v104,v105,v106,v107,v108⟩ h;exact je [(529,531),(519,522)]
       rintro⟨v86,v87,v88,v89,v90,v91,v92,v93⟩ h;exact je [(527,529),(516,519)]
      rintro⟨v74,v75,v76,v77,v78,v79,v80,v81⟩ h;exact je [(525,527),(513,516)]
     rintro⟨v58,v59,v60,v61,v62,v63,v64,v65⟩ h;exact je [(522,525),(507,513)]
    rintro⟨v40,v41,v42,v43,v44,v45,v46,v47⟩ h;exact je [(520,522),(504,507)]
   rintro⟨v24,v25,v26,v27,v28,v29,v30,v31⟩ h;exact je [(518,520),(501,504)]
  rintro⟨v10,v11,v12,v13,v14,v15,v16,v17⟩ h;exact je
 rintro⟨v1,v2,v3,v4,v5,v6,v7,v8⟩ h;exact Sr [14] [(2,186),(3,518),(5,501)]
def Ew {N a0 gl gq sb r} (h:rA N a0 gl gq sb=some r) {b:Nat} {a:List AV} (z:∀e f y E j,gl e f y E=some j->Spec prog b [(1007,.box (eL E) 153)] [.agg (bW e),.int f,.str y,.ptr 1007 0,.fp a] (.ab [.int j.1,.int j.2.1]) [(1007,.box (eL j.2.2) 153)] []) {c:Nat} (C:∀e f j,gq e f=some j->Spec prog c [] [.int e,.int f] (.ab [.agg (ed j.1),.bool j.2]) [] []):Spec prog 167 [(1000,mB a0 (.fn b [.ptr 1007 0,.fp a]) (.fn c []) 1001 1003),(1001,.box [E9 a0.w.a7,.aL 1002,.int a0.w.aB] 40),(1002,F3 a0.w.heap [] 1004),(1003,p9 a0.aG [] 1005),(1007,.box (eL sb) 153)] [.ptr 1000 0] (.ab []) [(1000,mB r.2 (.fn b [.ptr 1007 0,.fp a]) (.fn c []) 1001 4),(1001,.box [E9 r.2.w.a7,.aL 2,.int r.2.w.aB] 40),(2,F3 r.2.w.heap [] 3),(3,.aF),(1002,.aF),(4,p9 r.2.aG [] 5),(5,.aF),(1003,.aF),(1007,.box (eL r.1) 153)] [3,2,5,4]:=by
 refine so func167 ntmps167 fun Γ hn=>?_;unfold rA at h;refine B [15,2,8,13,12] fun i d h=>?_;refine iD d ?_;refine S [3] ?_;refine K6 (l6 d).2 ?_;refine kd [0,2,3] [1000,1001,1002,1003,1007] ?_;refine S [3] ?_;refine K6 (l6 d).2 ?_;refine B [] fun _ D h=>?_;refine H5 D ?_;refine S [3] ?_;refine K6 (l6 d).2 ?_;refine S [12] ?_;refine sD (l6 d).2 (⟨i.aK,i.aN,i.aY,i.code,i.aU,i.args,i.a8,i.aA,(wr (i.aJ+(1:Int)))⟩:j3) ?_;refine kd [0,2,3,4] [4,1000,1001,1002,1003,1007] ?_;refine S [3] ?_;refine J e0 hn h (fun s=>[]) (fun s=>[(501,.aF),(502,p9 s.2.2.2.2.2.2.2.1 [] 501),(509,.aF),(510,F3 s.2.1 [] 509),(1000,.box [.ptr 1001 0,.fn b [.ptr 1007 0,.fp a],.fn c [],.int s.2.2.2.2.1,.int s.2.2.2.2.2.1,.int s.2.2.2.2.2.2.1,.aL 502,.int s.2.2.2.2.2.2.2.2.1,.int s.2.2.2.2.2.2.2.2.2.1,.int s.2.2.2.2.2.2.2.2.2.2] 251),(1001,.box [E9 s.1,.aL 510,.int s.2.2.1] 40),(1002,.aF),(1003,.aF),(1007,.box (eL s.2.2.2.1) 153)]) [0] [] (fun _ h g=>?_) ?_
 ·refine S [6,3] ?_;refine J e0 hn h (fun s=>[]) (fun s=>[(501,.aF),(502,p9 s.2.2.2.2.2.2.2.1 [] 501),(509,.aF),(510,F3 s.2.1 [] 509),(1000,.box [.ptr 1001 0,.fn b [.ptr 1007 0,.fp a],.fn c [],.int s.2.2.2.2.1,.int s.2.2.2.2.2.1,.int s.2.2.2.2.2.2.1,.aL 502,.int s.2.2.2.2.2.2.2.2.1,.int s.2.2.2.2.2.2.2.2.2.1,.int s.2.2.2.2.2.2.2.2.2.2] 251),(1001,.box [E9 s.1,.aL 510,.int s.2.2.1] 40),(1002,.aF),(1003,.aF),(1007,.box (eL s.2.2.2.1) 153)]) [0] [] (fun _ h g=>?_) ?_
  ·refine I [4] ?_ ?_<;>intro _ h
   ·refine B [5] fun _ q h=>?_;refine cA (((F0 q z C).sw 5 501).sw 4 502) ?_;refine gE (gR 1001 1 1002 503 504) ?_;exact je [(510,503),(509,504)]
   refine S [3] ?_;refine J e0 hn h (fun s=>[]) (fun s=>[(88,p9 s.2.2.2.2.2.2.1 [] 505),(505,.aF),(511,.aF),(512,F3 s.2.1 [] 511),(1000,.box [.ptr 1001 0,.fn b [.ptr 1007 0,.fp a],.fn c [],.int s.2.2.2.1,.int s.2.2.2.2.1,.int s.2.2.2.2.2.1,.aL 88,.int s.2.2.2.2.2.2.2.1,.int s.2.2.2.2.2.2.2.2.1,.int s.2.2.2.2.2.2.2.2.2] 251),(1001,.box [E9 s.1,.aL 512,.int s.2.2.1] 40),(1002,.aF),(1003,.aF)]) [0] [1007] (fun _ h g=>?_) ?_
   ·refine I [4] ?_ ?_<;>intro _ h
    ·refine B [5] fun _ t h=>?_;refine cA ((zs t).sw 5 505) ?_;refine gE (gR 1001 1 1002 506 507) ?_;refine gE (gR 1000 6 1003 508 509) ?_;exact je [(512,506),(511,507),(88,508),(505,509)]
    refine S [3] ?_;refine J e0 hn h (fun s=>[]) (fun s=>[(88,p9 s.2.2.2.2.2.2.1 [] 511),(511,.aF),(515,.aF),(516,F3 s.2.1 [] 515),(1000,.box [.ptr 1001 0,.fn b [.ptr 1007 0,.fp a],.fn c [],.int s.2.2.2.1,.int s.2.2.2.2.1,.int s.2.2.2.2.2.1,.aL 88,.int s.2.2.2.2.2.2.2.1,.int s.2.2.2.2.2.2.2.2.1,.int s.2.2.2.2.2.2.2.2.2] 251),(1001,.box [E9 s.1,.aL 516,.int s.2.2.1] 40),(1002,.aF),(1003,.aF)]) [0] [1007] (fun _ h g=>?_) ?_
    ·refine I [4] ?_ ?_<;>intro _ h
     ·refine B [3] fun _ u h=>?_;refine cA ((Q0 u).sw 5 510) ?_;refine S [3] ?_;refine J e0 hn h (fun s=>[]) (fun s=>[(511,.aF),(1000,.box [.ptr 1001 0,.fn b [.ptr 1007 0,.fp a],.fn c [],.int s.1,.int s.2.1,.int s.2.2.1,.aL 1003,.int s.2.2.2.2.1,.int s.2.2.2.2.2.1,.int s.2.2.2.2.2.2] 251),(1003,p9 s.2.2.2.1 [] 511)]) [0] [1001,1002,1007] (fun _ h g=>?_) ?_
      ·refine S [6] ?_;refine kd [0,2,4,61] [4,510,1000,1001,1002,1003,1007] ?_;refine S [3] ?_;refine J e0 hn h (fun s=>[]) (fun s=>[(511,.aF),(1000,.box [.ptr 1001 0,.fn b [.ptr 1007 0,.fp a],.fn c [],.int s.1,.int s.2.1,.int s.2.2.1,.aL 1003,.int s.2.2.2.2.1,.int s.2.2.2.2.2.1,.int s.2.2.2.2.2.2] 251),(1003,p9 s.2.2.2.1 [] 511)]) [0] [1001,1002,1007] (fun _ h g=>?_) ?_
       ·refine I [4] ?_ ?_<;>intro _ h
        ·refine B [5] fun _ v h=>?_;refine cA (((zs v).sw 1005 510).sw 5 511) ?_;exact je
        refine S [3] ?_;refine J e0 hn h (fun s=>[]) (fun s=>[(1000,.box [.ptr 1001 0,.fn b [.ptr 1007 0,.fp a],.fn c [],.int s.1,.int s.2.1,.int s.2.2.1,.aL 1003,.int s.2.2.2.1,.int s.2.2.2.2.1,.int s.2.2.2.2.2] 251)]) [0] [510,1001,1002,1003,1007] (fun _ h g=>?_) ?_
        ·refine I [4] ?_ ?_<;>intro _ h
         ·exact Sj [1]
         refine B [5] fun _ x h=>?_;refine cA (J7 x) ?_;exact je
        rintro⟨v80,v81,v82,v83,v84,v85⟩ h;exact je [(511,510)]
       rintro⟨v69,v70,v71,v72,v73,v74,v75⟩ h;exact je
      rintro⟨v61,v62,v63,v64,v65,v66,v67⟩ h;refine gE (gR 1001 1 1002 512 513) ?_;refine gE (gR 1000 6 1003 514 515) ?_;exact je [(516,512),(515,513),(88,514),(511,515)]
     refine S [3] ?_;refine J e0 hn h (fun s=>[]) (fun s=>[(88,p9 s.2.2.2.2.2.2.1 [] 517),(517,.aF),(519,.aF),(520,F3 s.2.1 [] 519),(1000,.box [.ptr 1001 0,.fn b [.ptr 1007 0,.fp a],.fn c [],.int s.2.2.2.1,.int s.2.2.2.2.1,.int s.2.2.2.2.2.1,.aL 88,.int s.2.2.2.2.2.2.2.1,.int s.2.2.2.2.2.2.2.2.1,.int s.2.2.2.2.2.2.2.2.2] 251),(1001,.box [E9 s.1,.aL 520,.int s.2.2.1] 40),(1002,.aF),(1003,.aF)]) [0] [1007] (fun _ h g=>?_) ?_
     ·refine I [4] ?_ ?_<;>intro _ h
      ·refine B [3] fun _ l h=>?_;refine cA ((Q0 l).sw 5 516) ?_;refine S [2] ?_;refine kd [0,6] [6,516,1000,1001,1002,1003,1007] ?_;refine A [8,13,12] fun k h=>?_;refine j8 k rfl rfl ?_;refine B [5] fun _ m h=>?_;refine cA ((((zr m).sw 1003 88).sw 1005 788).sw 5 517) ?_;refine gE (gR 1001 1 1002 518 519) ?_;exact je [(520,518)]
      refine S [3] ?_;refine J e0 hn h (fun s=>[]) (fun s=>[(520,.aF),(521,.aF),(522,F3 s.2.1 [] 521),(1000,.box [.ptr 1001 0,.fn b [.ptr 1007 0,.fp a],.fn c [],.int s.2.2.2.1,.int s.2.2.2.2.1,.int s.2.2.2.2.2.1,.aL 1003,.int s.2.2.2.2.2.2.2.1,.int s.2.2.2.2.2.2.2.2.1,.int s.2.2.2.2.2.2.2.2.2] 251),(1001,.box [E9 s.1,.aL 522,.int s.2.2.1] 40),(1002,.aF),(1003,p9 s.2.2.2.2.2.2.1 [] 520)]) [0] [1007] (fun _ h g=>?_) ?_
      ·refine I [4] ?_ ?_<;>intro _ h
       ·refine B [5] fun _ n h=>?_;refine cA ((Et n).sw 5 520) ?_;refine gE (gR 1001 1 1002 521 522) ?_;exact je [(522,521),(521,522)]
       refine S [3] ?_;refine J e0 hn h (fun s=>[]) (fun s=>[(523,.aF),(524,F3 s.2.1 [] 523),(525,.aF),(1000,.box [.ptr 1001 0,.fn b [.ptr 1007 0,.fp a],.fn c [],.int s.2.2.2.1,.int s.2.2.2.2.1,.int s.2.2.2.2.2.1,.aL 1003,.int s.2.2.2.2.2.2.2.1,.int s.2.2.2.2.2.2.2.2.1,.int s.2.2.2.2.2.2.2.2.2] 251),(1001,.box [E9 s.1,.aL 524,.int s.2.2.1] 40),(1002,.aF),(1003,p9 s.2.2.2.2.2.2.1 [] 525)]) [0] [1007] (fun _ h g=>?_) ?_
       ·refine I [4] ?_ ?_<;>intro _ h
        ·refine kd [0] [1000,1001,1002,1003,1007] ?_;refine B [5] fun _ o h=>?_;refine cA (wB o) ?_;refine gE (gR 1001 1 1002 523 524) ?_;refine gE (gS 1003 525) ?_;exact je [(524,523),(523,524)]
        refine kd [0,2,4] [4,1000,1001,1002,1003,1007] ?_;refine B [5] fun _ p h=>?_;refine cA ((((Ez p).sw 3 526).sw 2 527).sw 5 528) ?_;exact je [(524,527),(523,526),(525,528)]
       rintro⟨T,U,V,W,X,Y,Z,v129,v130,v131⟩ h;exact je [(522,524),(521,523),(520,525)]
      rintro⟨F,G,H,K,L,M,O,P,Q,R⟩ h;refine gE (gR 1000 6 1003 529 530) ?_;exact je [(520,522),(519,521),(88,529),(517,530)]
     rintro⟨v90,v91,v92,v93,v94,v95,v96,v97,v98,v99⟩ h;exact je [(516,520),(515,519),(511,517)]
    rintro⟨v47,v48,v49,v50,v51,v52,v53,v54,v55,v56⟩ h;exact je [(512,516),(511,515),(505,511)]
   rintro⟨v33,v34,v35,v36,v37,v38,v39,v40,v41,v42⟩ h;exact je [(510,512),(509,511),(502,88),(501,505)]
  rintro⟨v18,v19,v20,v21,v22,v23,v24,v25,v26,v27,v28⟩ h;exact je
 rintro⟨v6,v7,v8,v9,v10,v11,v12,v13,v14,v15,v16⟩ h;exact Sr [14] [(2,510),(3,509),(4,502),(5,501)]
def Fw {N a0 a1 a2 g3 sb g4 r} (h:mV N a0 a1 a2 g3 sb g4=some r) {i:Nat} {b:List AV} (y:∀c d f x e,g3 c d f x=some e->Spec prog i [(1055,.box (eL x) 153)] [.agg (bW c),.int d,.str f,.ptr 1055 0,.fp b] (.ab [.int e.1,.int e.2.1]) [(1055,.box (eL e.2.2) 153)] []) {j:Nat} (m:∀c d e,g4 c d=some e->Spec prog j [] [.int c,.int d] (.ab [.agg (ed e.1),.bool e.2]) [] []):Spec prog 125 [(1055,.box (eL sb) 153)] [.agg (Q7 a0),.agg (kR a1),.int a2,.fn i [.ptr 1055 0,.fp b],.fn j []] (.ab [.agg (Q7 r.1),.agg (lX r.2.1)]) [(1055,.box (eL r.2.2) 153)] []:=by
 refine so func125 ntmps125 fun Γ hn=>?_;unfold mV at h;refine B [3,2,3] fun _ z h=>?_;refine cA (wJ z) ?_;refine I [3,4] ?_ ?_<;>intro _ h
 ·refine B [3] fun _ A h=>?_;refine cA (((jU A).sw 0 24).sw 1 724) ?_;refine j6.b9 24 rfl ?_;exact Sr [7]
 refine B [1,3] fun E C h=>?_;refine cA (((jU C).sw 0 28).sw 1 728) ?_;refine kd [2,3,4,5,6,10,11,13] [5,6,10,11,13,28,728,1055] ?_;refine B [3,2,2,8] fun _ D h=>?_;refine cD (kC D) ?_;refine B [] fun _ o h=>?_;refine cD (jT o) ?_;refine kd [3,4,5,6,10,11,13,14,15,16] [5,6,10,11,13,28,33,728,1055] ?_;refine S [3] ?_;refine nB 33 6 501 10 288 ?_;refine gC (gT 501 502 [(7,(2,29)),(8,(2,29))]) ?_;refine J e0 hn h (fun s=>[]) (fun s=>[(33,.box [.ptr 13 0,.fn i [.ptr 1055 0,.fp b],.fn j [],.int s.1,.int s.2.1,.int s.2.2.1,.aL 501,.int s.2.2.2.2.1,.int s.2.2.2.2.2.1,.int s.2.2.2.2.2.2] 251),(501,p9 s.2.2.2.1 [] 502)]) [3,4,5,10,11,13,14] [5,10,11,13,28,502,728,1055] (fun _ h g=>?_) ?_
 ·refine I [4] ?_ ?_<;>intro _ h
  ·refine B [5] fun _ p h=>?_;refine cA ((J7 p).ay [(1000,33),(1001,13),(1003,501),(1007,1055)] rfl) ?_;exact je
  refine B [5] fun _ q h=>?_;refine cA ((zY q m).ay [(1000,33),(1001,13),(1003,501),(1002,28),(1005,502),(1007,1055),(5,503),(4,504)] rfl) ?_;exact je [(501,504),(502,503)]
 rintro⟨F,G,H,K,L,M,O⟩ h;refine S [2] ?_;refine LF e0 hn (sb,E.a7,E.heap,E.aB,F,G,H,K,L,M,O) (fun l v=>n9 N g3 g4 l v.1 v.2.1 v.2.2.1 v.2.2.2.1 v.2.2.2.2.1 v.2.2.2.2.2.1 v.2.2.2.2.2.2.1 v.2.2.2.2.2.2.2.1 v.2.2.2.2.2.2.2.2.1 v.2.2.2.2.2.2.2.2.2.1 v.2.2.2.2.2.2.2.2.2.2) h (fun v=>[]) (fun v=>[(13,.box [E9 v.2.1,.aL 28,.int v.2.2.2.1] 40),(28,F3 v.2.2.1 [] 728),(33,.box [.ptr 13 0,.fn i [.ptr 1055 0,.fp b],.fn j [],.int v.2.2.2.2.1,.int v.2.2.2.2.2.1,.int v.2.2.2.2.2.2.1,.aL 501,.int v.2.2.2.2.2.2.2.2.1,.int v.2.2.2.2.2.2.2.2.2.1,.int v.2.2.2.2.2.2.2.2.2.2] 251),(501,p9 v.2.2.2.2.2.2.2.1 [] 502),(1055,.box (eL v.1) 153)]) [3,4,5,10,11,13,14] [5,10,11,502,728] [] (fun s=>[]) (fun s=>[(13,.box [E9 s.2.1,.aL 28,.int s.2.2.2.1] 40),(28,F3 s.2.2.1 [] 728),(33,.box [.ptr 13 0,.fn i [.ptr 1055 0,.fp b],.fn j [],.int s.2.2.2.2.1,.int s.2.2.2.2.2.1,.int s.2.2.2.2.2.2.1,.aL 501,.int s.2.2.2.2.2.2.2.2.1,.int s.2.2.2.2.2.2.2.2.2.1,.int s.2.2.2.2.2.2.2.2.2.2] 251),(501,p9 s.2.2.2.2.2.2.2.1 [] 502),(1055,.box (eL s.1) 153)]) [3,4,5,10,11,13,14] [5,10,11,502,728] ?_ ?_
 ·rintro _ g ⟨R,T,U,V,W,X,Y,Z,v34,v35,v36⟩ Q h;rw[n9] at h;refine S [2,2] ?_;refine Jb 70 hn h [3,4,5,10,11,13,14] [5,10,11,13,28,33,501,502,728,1055] (fun _ h g=>?_) ?_
  ·refine I [5] ?_ ?_<;>intro _ h
   ·exact Sj [0,13,0]
   exact Sj [0]
  intro v63 h;refine I [4] ?_ ?_<;>intro _ h
  ·refine B [1,6,5] fun a t h=>?_;refine cA ((Ew t (fun c d f x e P=>(y c d f x e P).sw 1055 1007) m).ay [(1000,33),(1001,13),(1003,501),(1002,28),(1004,728),(1005,502),(1007,1055),(3,505),(2,506),(5,507),(4,508)] rfl) ?_;exact le (a.1,a.2.w.a7,a.2.w.heap,a.2.w.aB,a.2.aE,a.2.aH,a.2.aO,a.2.aG,a.2.back.k,a.2.back.n,a.2.err) [(28,506),(728,505),(501,508),(502,507)]
  exact Sj [20]
 rintro⟨v48,v49,v50,v51,v52,v53,v54,v55,v56,v57,v58⟩ h;refine I [2,3,4] ?_ ?_<;>intro _ h
 ·refine B [2,8] fun _ u h=>?_;refine cA (((jU u).sw 0 79).sw 1 779) ?_;refine j6.b9 79 rfl ?_;exact Sr [7]
 refine S [1,2,8] ?_;refine j6.b9 28 rfl ?_;exact Sr [7]
def Ge {N a0 r} (h:pI N a0=some r):Spec prog 22 [(2000,GL)] [.agg (Q7 a0)] (s5 r) [(2000,GL)] []:=by
 refine so func22 ntmps22 fun Γ hn=>?_;unfold pI at h;refine S [3,3] ?_;refine j6.eC 13 [.np 13,.aP] rfl aT ?_;refine nB 13 1 501 1 5 ?_;refine kd [1,3] [1,13,501,2000] ?_;refine S [3,13] ?_;refine bS fN [a0.aB,(a0.a7.length:Int)] ?_;refine B [] fun Y K h=>?_;refine cF ((((ma K).sw 1000 13).sw 1001 501).sw 2 502) ?_;refine S [2,3] ?_;refine O1 fun J=>?_;refine LR e0 hn Y (fun l k v=>lG N l k v) h (fun E v=>[(25,.int (E:Int))]) (fun E v=>[(502,w5 v)]) [1,3,23,24] [1,13,2000] [] (fun s=>[]) (fun s=>[(502,w5 s)]) [1,3] [1,13,2000] ?_ ?_ ?_
 ·intro _ g E Z h _;rw[lG] at h;exact Sj [3,2,4,0,20]
 ·intro _ g E Z j F h _ d _;rw[lG] at h;refine S [3,2,4,0,1,2,6,3] ?_;refine W9 d ?_;refine B [3] fun _ t h=>?_;refine cA ((((uB t).sw 1000 13).sw 1001 502).sw 2 503) ?_;refine S [3,13] ?_;refine bS fN [j.aV,j.aI,(j.aC.length:Int)] ?_;refine B [] fun L u h=>?_;refine cF ((((ma u).sw 1000 13).sw 1001 503).sw 2 504) ?_;refine kd [1,3,5,23,24,25] [1,5,13,504,2000] ?_;refine S [3] ?_;refine O1 fun o=>?_;refine LR e0 hn L (fun l k v=>lF N l k v) h (fun a v=>[(46,.int (a:Int))]) (fun a v=>[(504,w5 v)]) [1,3,23,24,25,44,45] [1,13,2000] [] (fun s=>[]) (fun s=>[(504,w5 s)]) [1,3,23,24,25] [1,13,2000] ?_ ?_ ?_
  ·intro _ g a R h _;rw[lF] at h;exact Sj [3,2,4,0,20]
  ·intro _ g a R x30 G h _ e _;rw[lF] at h;refine S [3,2,4,0,1,2,6,3] ?_;refine W9 e ?_;refine j6.gh (Gh.bF 7 7 rfl rfl rfl) (fun _=>?_);refine kd [1,3,7,23,24,25,44,45,46] [1,13,504,2000] ?_;refine B [5] fun M w h=>?_;refine cA ((((FZ w).sw 1000 13).sw 1001 504).sw 2 505) ?_;refine S [5] ?_;refine MA (AN (U9 e o) ?_);exact le M [(504,505)]
  intro T h;refine S [5] ?_;refine MA (AN (U9 d J) ?_);exact le T [(502,504)]
 intro v8 h;refine S [3,13] ?_;refine bS fN [(a0.heap.length:Int)] ?_;refine B [] fun O x h=>?_;refine cF ((((ma x).sw 1000 13).sw 1001 502).sw 2 506) ?_;refine S [2,3] ?_;refine O1 fun p=>?_;refine LR e0 hn O (fun l k v=>lH N l k v) h (fun b v=>[(63,.int (b:Int))]) (fun b v=>[(506,w5 v)]) [3,61,62] [13,2000] [] (fun s=>[]) (fun s=>[(506,w5 s)]) [3] [13,2000] ?_ ?_ ?_
 ·intro _ g b U h _;rw[lH] at h;exact Sj [3,2,4,0,20]
 ·intro _ g b U C H h _ f _;rw[lH] at h;refine S [3,2,4,0,1,2,6,3] ?_;refine W9 f ?_;refine S [3,13] ?_;refine bS fN [C.cls,(C.aI.length:Int)] ?_;refine B [] fun P y h=>?_;refine cF ((((ma y).sw 1000 13).sw 1001 506).sw 2 507) ?_;refine S [3] ?_;refine O1 fun q=>?_;refine LR e0 hn P (fun l k v=>lJ N l k v) h (fun c v=>[(78,.int (c:Int))]) (fun c v=>[(507,w5 v)]) [3,61,62,63,76,77] [13,2000] [] (fun s=>[]) (fun s=>[(507,w5 s)]) [3,61,62,63] [13,2000] ?_ ?_ ?_
  ·intro _ g c W h _;rw[lJ] at h;exact Sj [3,2,4,0,20]
  ·intro _ g c W D I h _ i _;rw[lJ] at h;refine S [3,2,4,0,1,2,6,3] ?_;refine W9 i ?_;refine S [5] ?_;refine bS fN [D.k,D.n] ?_;refine B [] fun Q z h=>?_;refine cF ((((ma z).sw 1000 13).sw 1001 507).sw 2 508) ?_;refine kd [3,61,62,63,76,77,78] [13,508,2000] ?_;refine S [5] ?_;refine MA (AN (U9 i q) ?_);exact le Q [(507,508)]
  intro X h;refine S [5] ?_;refine MA (AN (U9 f p) ?_);exact le X [(506,507)]
 intro V h;refine A [3] fun m h=>?_;refine cA (G0 V 13 506 m) ?_;exact Sr [7]
def Fc {N a0 r} (h:rI N a0=some r):Spec prog 51 [(1000,.box (V8 a0) 107),(2000,GL)] [.ptr 1000 0] (.agg (Q7 r.1)) [(1000,.box (V8 r.2) 107),(2000,GL)] []:=by
 refine so func51 ntmps51 fun Γ hn=>?_;unfold rI at h;refine B [3,3] fun _ Y h=>?_;refine cA (M0 Y) ?_;refine B [2,3] fun r3 Z h=>?_;refine cA (r9 Z) ?_;refine nB 3 0 501 4 81 ?_;refine j6.cc 10 rfl (fun J=>?_);refine LU e0 hn (r3.2,([]:List Cl)) (fun l k v=>S9 N l k v.1 v.2) h (fun X v=>[(11,.int (X:Int))]) (fun X v=>[(501,oY v.2),(1000,.box (V8 v.1) 107)]) [0,2,3,10] [2,3,2000] [] (fun s=>[]) (fun s=>[(501,oY s.2),(1000,.box (V8 s.1) 107)]) [0,2,3] [2,3,2000] ?_ ?_ ?_
 ·rintro _ g X ⟨v6,v7⟩ h _;rw[S9] at h;exact Sj [3,2,4,0,20]
 ·rintro _ g X ⟨v6,v7⟩ n15 h d _;rw[S9] at h;refine B [3,2,4,0,1,2,6,3] fun K x h=>?_;refine cA (uD x) ?_;refine B [] fun L y h=>?_;refine cA (M0 y) ?_;refine B [] fun M z h=>?_;refine cA (M0 z) ?_;refine B [2,3] fun r25 C h=>?_;refine cA (r9 C) ?_;refine nB 4 3 502 5 27 ?_;refine j6.cc 21 rfl (fun j=>?_);refine LU e0 hn (r25.2,([]:List Me)) (fun l k v=>K5 N l k v.1 v.2) h (fun a v=>[(22,.int (a:Int))]) (fun a v=>[(502,kq v.2),(1000,.box (V8 v.1) 107)]) [0,2,3,4,10,11,21] [2,3,4,501,2000] [] (fun s=>[]) (fun s=>[(502,kq s.2),(1000,.box (V8 s.1) 107)]) [0,2,3,4,10,11] [2,3,4,501,2000] ?_ ?_ ?_
  ·rintro _ g a ⟨v28,Q⟩ h _;rw[K5] at h;exact Sj [3,2,4,0,20]
  ·rintro _ g a ⟨v28,Q⟩ n37 h e _;rw[K5] at h;refine B [3,2,4,0,1,2,6,8] fun o D h=>?_;refine cA (Fa D) ?_;refine bS J2 [o.1] ?_;refine A [] fun q h=>?_;refine aM q ?_;refine S [5] ?_;refine MA (AN (mA e j) ?_);exact le (o.2,(Q++[o.1])) [(502,29)]
  rintro⟨v32,R⟩ h;refine S [5,12] ?_;refine bS fu [(⟨K.1,L.1,M.1,R⟩:Cl)] ?_;refine A [] fun t h=>?_;refine aM t ?_;refine S [5] ?_;refine MA (AN (mA d J) ?_);exact le (v32,(v7++[(⟨K.1,L.1,M.1,R⟩:Cl)])) [(501,36)]
 rintro⟨v10,v11⟩ h;refine B [2,3] fun r45 E h=>?_;refine cA (r9 E) ?_;refine nB 3 1 503 2 92 ?_;refine j6.cc 40 rfl (fun m=>?_);refine LU e0 hn (r45.2,([]:List Ob)) (fun l k v=>R8 N l k v.1 v.2) h (fun b v=>[(41,.int (b:Int))]) (fun b v=>[(503,Eb v.2),(1000,.box (V8 v.1) 107)]) [0,2,3,40] [2,3,501,2000] [] (fun s=>[]) (fun s=>[(503,Eb s.2),(1000,.box (V8 s.1) 107)]) [0,2,3] [2,3,501,2000] ?_ ?_ ?_
 ·rintro _ g b ⟨v48,T⟩ h _;rw[R8] at h;exact Sj [3,2,4,0,20]
 ·rintro _ g b ⟨v48,T⟩ n57 h f _;rw[R8] at h;refine B [3,2,4,0,1,2,6,3] fun O F h=>?_;refine cA (M0 F) ?_;refine B [2,3] fun r63 G h=>?_;refine cA (r9 G) ?_;refine nB 5 1 504 2 29 ?_;refine j6.cc 47 rfl (fun n=>?_);refine LU e0 hn (r63.2,([]:List V)) (fun l k v=>L6 N l k v.1 v.2) h (fun c v=>[(48,.int (c:Int))]) (fun c v=>[(504,ia v.2),(1000,.box (V8 v.1) 107)]) [0,2,3,5,40,41,47] [2,3,5,501,503,2000] [] (fun s=>[]) (fun s=>[(504,ia s.2),(1000,.box (V8 s.1) 107)]) [0,2,3,5,40,41] [2,3,5,501,503,2000] ?_ ?_ ?_
  ·rintro _ g c ⟨v66,U⟩ h _;rw[L6] at h;exact Sj [3,2,4,0,20]
  ·rintro _ g c ⟨v66,U⟩ n75 h i _;rw[L6] at h;refine B [3,2,4,0,1,2,6,8] fun P H h=>?_;refine cA (M0 H) ?_;refine B [] fun p I h=>?_;refine cA (M0 I) ?_;refine bS eV [(⟨P.1,p.1⟩:V)] ?_;refine A [] fun u h=>?_;refine aM u ?_;refine kd [0,2,3,5,40,41,47,48] [2,3,5,58,501,503,1000,2000] ?_;refine S [5] ?_;refine MA (AN (mA i n) ?_);exact le (p.2,(U++[(⟨P.1,p.1⟩:V)])) [(504,58)]
  rintro⟨v70,W⟩ h;refine S [5,12] ?_;refine bS hW [(⟨O.1,W⟩:Ob)] ?_;refine A [] fun w h=>?_;refine aM w ?_;refine S [5] ?_;refine MA (AN (mA f m) ?_);exact le (v70,(T++[(⟨O.1,W⟩:Ob)])) [(503,65)]
 rintro⟨v52,v53⟩ h;refine S [3] ?_;refine j6.ax 501 rfl ?_;refine j6.ax 503 rfl ?_;exact Sr [7]
def Gk {N a0 r} (h:pE N a0=some r):Spec prog 20 [] [.agg (Q7 a0)] (.int r) [] []:=by
 refine so func20 ntmps20 fun U hn=>?_;unfold pE at h;refine B [3,3] fun G F h=>?_;refine cA (BM N _ F) ?_;refine S [2,2] ?_;refine Jb 31 hn h [1,3] [1,3] (fun _ h g=>?_) ?_
 ·refine I [5,13,13] ?_ ?_<;>intro _ h
  ·exact Sj [0]
  refine I [0,13,0] ?_ ?_<;>intro _ h
  ·exact Sj [0]
  exact Sj [0,13,0]
 intro T h;refine I [4] ?_ ?_<;>intro _ h
 ·exact Sr [3,7]
 refine S [1,2,2] ?_;refine Jb 39 hn h [1,3] [1,3] (fun _ h g=>?_) ?_
 ·refine I [5] ?_ ?_<;>intro _ h
  ·exact Sj [0]
  exact Sj [0]
 intro L h;refine I [4] ?_ ?_<;>intro _ h
 ·exact Sr [3,7]
 refine S [1,3,2,3] ?_;refine O1 fun o=>?_;refine LR e1 hn ([]:(List (ByteArray×Bool))) (fun l k v=>mz N G l k v) h (fun b v=>[(44,.int (b:Int))]) (fun b v=>[(40,.bh (MF ly v))]) [1,3,4,42,43] [1,3] [] (fun s=>[]) (fun s=>[]) [1,3] [1,3] ?_ ?_ ?_
 ·intro _ g b z h _;rw[mz] at h;exact Sj [3,2,4,0,20]
 ·intro _ g b z H C h _ d _;rw[mz] at h;refine S [3,2,4,0,1,2,6,3] ?_;refine W9 d ?_;refine S [2,2] ?_;refine Jb 76 hn h [1,3,4,5,6,42,43,44] [1,3,6,40] (fun _ h g=>?_) ?_
  ·refine kd [1,3,4,5,6,42,43,44] [1,3,6,40] ?_;refine B [8] fun _ t h=>?_;refine cA (qw t) ?_;refine I [] ?_ ?_<;>intro _ h
   ·exact Sj [0]
   refine S [0] ?_;refine Lg rfl rfl rfl rfl ?_;refine I [0] ?_ ?_<;>intro _ h
   ·exact Sj [0]
   refine I [0,13,0] ?_ ?_<;>intro _ h
   ·refine B [0] fun _ w h=>?_;refine H5 w ?_;exact Sj [0]
   exact Sj [0]
  intro M h;refine I [4] ?_ ?_<;>intro _ h
  ·exact Sr [3,7]
  refine A [1,3] fun n h=>?_;refine Hf rfl rfl n ?_;refine S [2] ?_;refine Jb 138 hn h [1,3,4,42,43,44] [1,3,40] (fun _ h g=>?_) ?_
  ·refine kd [1,3,4,5,6,42,43,44] [1,3,6,40] ?_;refine I [8,13] ?_ ?_<;>intro _ h
   ·refine B [0] fun _ x h=>?_;refine H5 x ?_;refine I [0] ?_ ?_<;>intro _ h
    ·exact Sj [0]
    refine I [0] ?_ ?_<;>intro _ h
    ·exact Sj [0]
    refine I [0,13,0] ?_ ?_<;>intro _ h
    ·refine I [0] ?_ ?_<;>intro _ h
     ·exact Sj [0]
     refine I [0] ?_ ?_<;>intro _ h
     ·exact Sj [0]
     refine I [0] ?_ ?_<;>intro _ h
     ·refine I [0] ?_ ?_<;>intro _ h
      ·exact Sj [0]
      refine I [0] ?_ ?_<;>intro _ h
      ·exact Sj [0]
      exact Sj [0]
     refine I [0] ?_ ?_<;>intro _ h
     ·exact Sj [0]
     exact Sj [0]
    refine I [0] ?_ ?_<;>intro _ h
    ·exact Sj [0]
    exact Sj [0]
   refine I [0,13] ?_ ?_<;>intro _ h
   ·refine I [0] ?_ ?_<;>intro _ h
    ·exact Sj [0]
    refine I [0] ?_ ?_<;>intro _ h
    ·exact Sj [0]
    refine I [0] ?_ ?_<;>intro _ h
    ·refine I [0] ?_ ?_<;>intro _ h
     ·exact Sj [0]
     refine I [0] ?_ ?_<;>intro _ h
     ·exact Sj [0]
     exact Sj [0]
    refine I [0] ?_ ?_<;>intro _ h
    ·exact Sj [0]
    exact Sj [0]
   refine I [0] ?_ ?_<;>intro _ h
   ·exact Sj [0]
   exact Sj [0]
  intro O h;refine I [4] ?_ ?_<;>intro _ h
  ·exact Sr [3,7]
  refine S [1,5] ?_;refine MA (AN (U9 d o) ?_);exact le (eF H.name true z) []
 rintro⟨⟩ h;refine S [2,3] ?_;refine O1 fun p=>?_;refine j6.gh (Gh.bF 3 3 rfl rfl rfl) (fun _=>?_);refine LR e1 hn () (fun l k v=>mr N a0 G l k) h (fun a v=>[(143,.int (a:Int))]) (fun a v=>[]) [1,3,141,142] [1] [] (fun s=>[]) (fun s=>[]) [1] [1] ?_ ?_ ?_
 ·intro _ g a _ h _;rw[mr] at h;exact Sj [3,2,4,0,20]
 ·intro _ g a _ K D h _ e _;rw[mr] at h;refine S [3,2,4,0,1,2,6,3] ?_;refine W9 e ?_;refine B [2,3] fun _ u h=>?_;refine cA (kD u) ?_;refine I [4] ?_ ?_<;>intro _ h
  ·exact Sr [3,7]
  refine I [1,2,3,13,4] ?_ ?_<;>intro _ h
  ·refine kd [] [] ?_;exact Sr [3,7]
  refine S [1] ?_;refine kd [1,3,7,8,141,142,143] [1,8] ?_;refine S [3] ?_;refine O1 fun q=>?_;refine LR e1 hn () (fun l k v=>mv N a0 G a K l k) h (fun c v=>[(159,.int (c:Int))]) (fun c v=>[]) [1,3,7,8,141,142,143,157,158] [1,8] [] (fun s=>[]) (fun s=>[]) [1,3,141,142,143] [1] ?_ ?_ ?_
  ·intro _ g c _ h _;rw[mv] at h;exact Sj [3,2,4,0,20]
  ·intro _ g c _ R E h _ f _;rw[mv] at h;refine S [3,2,4,0,1,2] ?_;refine J e1 hn h (fun s=>[]) (fun s=>[]) [1,3,7,8,141,142,143,157,158,159] [1,8] (fun _ h g=>?_) ?_
   ·refine S [6,3] ?_;refine W9 f ?_;refine S [2,2] ?_;refine Jb 177 hn h [1,3,7,8,10,141,142,143,157,158,159] [1,8,10] (fun _ h g=>?_) ?_
    ·refine I [8] ?_ ?_<;>intro _ h
     ·refine B [0,12,0] fun _ y h=>?_;refine H5 y ?_;exact Sj [0]
     exact Sj [0]
    intro P h;refine I [4] ?_ ?_<;>intro _ h
    ·exact Sr [3,7]
    refine S [1,2,2] ?_;refine j6.gh (Gh.bF 10 10 rfl rfl rfl) (fun _=>?_);refine Jb 187 hn h [1,3,7,8,10,141,142,143,157,158,159] [1,8] (fun _ h g=>?_) ?_
    ·refine I [5] ?_ ?_<;>intro _ h
     ·refine I [0] ?_ ?_<;>intro _ h
      ·refine B [] fun _ i h=>?_;refine cA (H4 i) ?_;exact Sj [0]
      exact Sj [0]
     exact Sj [0]
    intro Q h;refine I [4] ?_ ?_<;>intro _ h
    ·exact Sj [20]
    refine B [1,3] fun _ j h=>?_;refine cA (B5 j) ?_;refine kd [1,3,7,8,11,141,142,143,157,158,159] [1,8,11] ?_;refine I [3,4] ?_ ?_<;>intro _ h
    ·exact Sr [3,7]
    exact Sj [1]
   rintro⟨⟩ h;refine S [5] ?_;refine MA (AN (U9 f q) ?_);exact le () []
  rintro⟨⟩ h;refine S [5] ?_;refine MA (AN (U9 e p) ?_);exact le () []
 rintro⟨⟩ h;refine j6.gh (Gh.bF 1 1 rfl rfl rfl) (fun _=>?_);refine kd [1] [] ?_;refine B [3] fun _ m h=>?_;refine cA (HF m) ?_;exact Sr [7]
def Gr {N a0 r} (h:kK N a0=some r):Spec prog 24 [(2000,GL)] [s5 a0] (.ab [.agg (Q7 r.1),.int r.2]) [(2000,GL)] []:=by
 refine so func24 ntmps24 fun d hn=>?_;unfold kK at h;refine S [3,3] ?_;refine Exists.intro a0 (AN rfl ?_);refine B [3] fun _ a h=>?_;refine cA ((Fc a).sw 1000 10) ?_;refine S [2,2] ?_;refine Jb 24 hn h [2,5] [2,5,2000] (fun _ h g=>?_) ?_
 ·refine I [5] ?_ ?_<;>intro _ h
  ·exact Sj [0]
  exact Sj [0]
 intro c h;refine I [4] ?_ ?_<;>intro _ h
 ·exact Sr [3,7]
 refine B [1,2,3] fun _ b h=>?_;refine cA (Gk b) ?_;refine I [3,4] ?_ ?_<;>intro _ h
 ·exact Sr [3,7]
 exact Sr [1,3,7]
def FO {N a0 r} (h:uo N a0=some r):Spec prog 68 [(1000,.box (O3 a0) 45),(2000,GL)] [.ptr 1000 0] (.agg (nb r.1)) [(1000,.box (O3 r.2) 45),(2000,GL)] []:=by
 refine so func68 ntmps68 fun b hn=>?_;unfold uo at h;refine I [3,2,3,13,4] ?_ ?_<;>intro _ h
 ·exact Sr [3,7]
 refine B [1,3] fun _ a h=>?_;refine cA (Gr a) ?_;refine S [2] ?_;refine kd [0,2,3,4] [2,3,1000,2000] ?_;refine I [3,4] ?_ ?_<;>intro _ h
 ·exact Sr [3,7]
 refine S [1,2,8,12,3] ?_;refine kd [0,2] [2,1000,2000] ?_;exact Sr [3,7]
end
end Go.Proofs.YtibjcppjfkamhaaGreatDoor
