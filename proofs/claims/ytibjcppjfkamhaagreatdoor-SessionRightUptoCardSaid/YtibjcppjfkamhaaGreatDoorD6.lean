import Derived.Test.YtibjcppjfkamhaaGreatDoorD1
import Derived.Test.YtibjcppjfkamhaaGreatDoorD2
import Derived.Test.YtibjcppjfkamhaaGreatDoorD3
set_option linter.unusedVariables false
set_option linter.defProp false
set_option linter.unusedSimpArgs false
namespace Go.Proofs.YtibjcppjfkamhaaGreatDoor
open Go.RowKit Go.Proofs.Tryz
open _root_.And renaming intro->AN
open _root_.Bool renaming and_eq_true->IT
open _root_.ByteArray renaming empty->BY
open _root_.List renaming getElem?_eq_some_iff->ME,replicate->MI,map->MJ,mem_of_getElem?->MP,all_eq_true->MR,length_map->MW,getElem?_set->MY,getElem?_append_right->Ma,length_take->Mq
open _root_.Nat renaming ble->IN,le_refl->It,le_of_ble_eq_true->MZ,mul_le_mul_right->Mt
open _root_.Or renaming inl->MF
section
set_option maxHeartbeats 40000000
set_option maxRecDepth 100000
def GP {N a0 r} (h:rX N a0=some r):Spec prog 60 [] [.agg (M8 a0)] (.agg [.aK 0,jO r.heap,.int r.aC]) [(0,oc r.a7)] [0]:=by
 refine so func60 ntmps60 fun C hn=>?_;unfold rX at h;refine B [3,2,8] fun _ u h=>?_;refine cA (((ue u).sw 0 11).sw 1 711) ?_;refine S [2,3] ?_;refine J2 fun t=>?_;refine nB 3 0 501 4 81 ?_;refine LR e0 hn ([]:List Cl) (fun l k v=>lB N l k v) h (fun p v=>[(18,.int (p:Int))]) (fun p v=>[(501,oc v)]) [2,3,16,17] [2,3,11,711] [] nl (fun s=>[(501,oc s)]) [2,3] [2,3,11,711] ?_ ?_ ?_
 ·intro _ g p x h _;rw[lB] at h;exact Sj [3,2,4,0,20]
 ·intro _ g p x a w h _ c _;rw[lB] at h;refine S [3,2,4,0,1,2,6,3] ?_;refine P9 c ?_;refine S [3,2,3] ?_;refine J2 fun i=>?_;refine nR 6 206 5 27 ?_;refine LR e0 hn ([]:List Me) (fun l k v=>kz N l k v) h (fun b v=>[(25,.int (b:Int))]) (fun b v=>[(206,km v)]) [2,3,5,6,16,17,18,23,24] [2,3,5,11,501,711] [] nl (fun s=>[(206,km s)]) [2,3,5,6,16,17,18] [2,3,5,11,501,711] ?_ ?_ ?_
  ·intro _ g b n h _;rw[kz] at h;exact Sj [3,2,4,0,20]
  ·intro _ g b n y q h _ d _;rw[kz] at h;refine S [3,2,4,0,1,2,6,3] ?_;refine P9 d ?_;refine B [5] fun m j h=>?_;refine cA (uZ j) ?_;refine bS G9 [m] ?_;refine A [] fun e h=>?_;refine aM e ?_;refine kd [2,3,5,6,16,17,18,23,24,25] [2,3,5,11,33,501,711] ?_;refine S [5] ?_;refine MF (AN (M7 d i) ?_);exact le (n++[m]) [(206,33)]
  intro o h;refine S [3,5,12] ?_;refine bS fI [(⟨a.name,a.aQ,a.aG,o⟩:Cl)] ?_;refine A [] fun f h=>?_;refine aM f ?_;refine S [5] ?_;refine MF (AN (M7 c t) ?_);exact le (x++[(⟨a.name,a.aQ,a.aG,o⟩:Cl)]) [(501,41)]
 intro z h;refine S [3] ?_;refine j6.ay 11 rfl ?_;exact Sr [7] [(0,501)]
def H3 {N a0 a1 a2 a3 r} (h:sA N a0 a1 a2 a3=some r):Spec prog 64 [] [.agg (M8 a0),.str a1,.int a2,.int a3] (.aZ [.agg (M8 r.1),.int r.2.1,.int r.2.2]) [] []:=by
 refine so func64 ntmps64 fun l hn=>?_;unfold sA at h;refine S [3,2,6,2] ?_;refine j6.gh (Gh.bA 5 5 rfl rfl rfl) (fun _=>?_);refine Jb 12 hn h [2,3,4,5,8] [4,8] (fun _ h g=>?_) ?_
 ·refine B [5] fun _ d h=>?_;refine cA (qp d) ?_;refine Ij [] [0] fun _ h=>?_;refine B [0] fun _ e h=>?_;refine cA (Eb e (fun _ _ f=>F0 f)) ?_;exact Sj [0]
 intro j h;refine Ir [4] [3,7] fun _ h=>?_;refine S [2] ?_;refine Jb 23 hn h [2,3,4,5,8] [4,8] (fun _ h g=>?_) ?_
 ·exact F8 [5] [0] [0,13,0]
 intro k h;refine Ir [4] [3,7] fun _ h=>?_;refine S [2] ?_;refine Jb 34 hn h [2,3,4,5,8] [4,8] (fun _ h g=>?_) ?_
 ·refine Ij [5] [0] fun _ h=>?_;refine B [0] fun _ b h=>?_;refine cA (mq b) ?_;refine Ij [0,12,0] [0] fun _ h=>?_;exact F8 [0] [0] [0]
 intro i h;refine Ir [4] [3,7] fun _ h=>?_;refine Ir [3,13,4] [3,7] fun _ h=>?_;refine B [1,3] fun _ c h=>?_;refine cA ((GP c).sw 0 61) ?_;refine S [3,12] ?_;refine bS fI [(⟨a1,a2,a3,[]⟩:Cl)] ?_;refine A [] fun a h=>?_;refine aM a ?_;refine S [2] ?_;refine kd [4,8,11] [4,8,11,69] ?_;refine S [8,13] ?_;refine j6.ar 69 rfl ?_;exact Sr [7]
def GG {N a0 a1 a2 a3 r} (h:rR N a0 a1 a2 a3=some r):Spec prog 74 [] [.fp (M8 a0),.int a1,.fp (G9 a2),.agg (bd a3)] (.int r) [] []:=by
 refine so func74 ntmps74 fun q hn=>?_;unfold rR at h;refine S [3,3,3,2,3] ?_;refine J e1 hn h (fun s=>[(10,.bool s.1),(11,.bool s.2)]) nl [7] [7] (fun _ h g=>?_) ?_
 ·refine S [6,2,3] ?_;refine Jb 14 hn h [0,1,2,7,9,11,13] [7] (fun _ h g=>?_) ?_
  ·refine Ij [4] [1] fun _ h=>?_;refine S [3] ?_;refine eA 14 hn h [0,1,2,7,9,11,13] [7] [] fun _ h g=>?_;refine Ij [4] [1] fun _ h=>?_;refine S [3] ?_;refine eA 14 hn h [0,1,2,7,9,11,13] [7] [] fun _ h g=>?_;refine Ij [4] [1] fun _ h=>?_;refine S [3] ?_;refine eA 14 hn h [0,1,2,7,9,11,13] [7] [] fun _ h g=>?_;refine Ij [4] [1] fun _ h=>?_;refine S [3] ?_;refine eA 14 hn h [0,1,2,7,9,11,13] [7] [] fun _ h g=>?_;refine Ij [4] [1] fun _ h=>?_;refine kd [0,1,2,7,9,11,13] [7] ?_;refine S [3] ?_;refine eA 14 hn h [0,1,2,7,9,11,13] [7] [] fun _ h g=>?_;exact F8 [4] [1] [5]
  intro p h;refine Jk e1 hn h (fun s=>[(10,.bool s.1),(11,.bool s.2)]) nl [7] [7] [] fun _ h g=>?_;refine Ij [4] [5] fun _ h=>?_;refine S [3] ?_;refine Jk e1 hn h (fun s=>[(10,.bool s.1),(11,.bool s.2)]) nl [7] [7] [] fun _ h g=>?_;refine I [4] ?_ ?_<;>intro _ h
  ·refine B [8] fun _ a h=>?_;refine cA (rA a) ?_;exact je
  refine S [2,3] ?_;refine Jb 35 hn h [0,1,2,7,9,11,13] [7] (fun _ h g=>?_) ?_
  ·exact F8 [4] [1] [5]
  intro j h;refine Jk e1 hn h (fun s=>[(10,.bool s.1),(11,.bool s.2)]) nl [7] [7] [] fun _ h g=>?_;refine I [4] ?_ ?_<;>intro _ h
  ·refine B [8] fun _ b h=>?_;refine cA (rA b) ?_;exact je
  refine S [2,3] ?_;refine Jb 46 hn h [0,1,2,7,9,11,13] [7] (fun _ h g=>?_) ?_
  ·exact F8 [4] [1] [5]
  intro k h;refine Jk e1 hn h (fun s=>[(10,.bool s.1),(11,.bool s.2)]) nl [7] [7] [] fun _ h g=>?_;refine I [4] ?_ ?_<;>intro _ h
  ·refine B [8] fun _ c h=>?_;refine cA (mq c) ?_;refine B [] fun _ d h=>?_;refine cA (rA d) ?_;exact je
  refine S [3] ?_;refine Jk e1 hn h (fun s=>[(10,.bool s.1),(11,.bool s.2)]) nl [7] [7] [] fun _ h g=>?_;refine I [4] ?_ ?_<;>intro _ h
  ·refine eA 10 hn h [7,11] [7] [] fun _ h g=>?_;exact F8 [5] [0] [0]
  refine S [3] ?_;refine Jk e1 hn h (fun s=>[(10,.bool s.1),(11,.bool s.2)]) nl [7] [7] [] fun _ h g=>?_;refine I [4] ?_ ?_<;>intro _ h
  ·refine eA 10 hn h [7,11] [7] [] fun _ h g=>?_;refine kd [0,7,11] [7] ?_;refine Ij [8] [0] fun _ h=>?_;exact F8 [0] [0,13,0] [0]
  refine S [3] ?_;refine Jk e1 hn h (fun s=>[(10,.bool s.1),(11,.bool s.2)]) nl [7] [7] [] fun _ h g=>?_;refine I [4] ?_ ?_<;>intro _ h
  ·refine B [5] fun _ e h=>?_;refine cA (rA e) ?_;exact je
  refine S [2,3] ?_;refine Jb 94 hn h [2,7,9,11] [7] (fun _ h g=>?_) ?_
  ·exact F8 [4] [1] [5]
  intro l h;refine I [4] ?_ ?_<;>intro _ h
  ·refine B [8,13] fun _ f h=>?_;refine cA (rA f) ?_;exact je
  exact Sr [3,7]
 rintro⟨n,o⟩ h;refine Ir [2,6,3,4] [3,7] fun _ h=>?_;refine S [2] ?_;refine Jb 109 hn h [] [] (fun _ h g=>?_) ?_
 ·refine I [5] ?_ ?_<;>intro _ h
  ·refine B [0] fun _ i h=>?_;refine cA (qp i) ?_;refine Ij [0] [0] fun _ h=>?_;refine I [0] ?_ ?_<;>intro _ h
   ·refine Ij [0] [0] fun _ h=>?_;exact F8 [0] [0] [0]
   exact F8 [0] [0] [0]
  refine I [0] ?_ ?_<;>intro _ h
  ·refine Ij [0] [0] fun _ h=>?_;exact F8 [0] [0] [0]
  exact F8 [0] [0] [0]
 intro m h;exact ia [4] [3,7] [1,3,7]
def GI {N a0 r} (h:rS N a0=some r):Spec prog 75 [] [.agg (G9 a0)] (.aZ [.aK 0,.agg (vY r.2)]) [(0,w3 r.1)] [0]:=by
 refine so func75 ntmps75 fun W hn=>?_;unfold rS at h;refine A [3,3,13] fun z h=>?_;refine kj (enc:=cE) (x:=(0:Int)) z aT ?_;refine S [2,3,13] ?_;refine j6.cK 17 rfl (fun u=>?_);refine LU e0 hn (MI (a0.code.length:Int).toNat (0:Int)) (fun l k v=>ky N l k v) h (fun y v=>[(18,.int (y:Int))]) (fun y v=>[(15,w3 v)]) [1,3,4,17] [1,3] [] nl (fun s=>[(15,w3 s)]) [1,3,4] [1,3] ?_ ?_ ?_
 ·intro _ g y G h _;rw[ky] at h;exact Sj [3,2,4,0,20]
 ·intro _ g y G H h m _;rw[ky] at h;refine B [3,2,4,0,1,2,6,3,5] fun _ c h=>?_;refine bT c ?_;refine sM (l6 c).2 (-1:Int) ?_;refine S [5] ?_;refine MF (AN (jc m u) ?_);exact le (G.set ((y:Int).toNat) (-1:Int)) []
 intro V h;refine S [3] ?_;refine bS vJ [(⟨(0:Int),(0:Int)⟩:dp)] ?_;refine S [2] ?_;refine LF e1 hn (V,[(⟨(0:Int),(0:Int)⟩:dp)]) (fun l v=>mo N a0 l v.1 v.2) h (fun v=>[]) (fun v=>[(15,w3 v.1),(26,d49 v.2)]) [1,3,4,6] [1,3] [] nl (fun s=>[(15,w3 s)]) [3,4] [3] ?_ ?_
 ·rintro _ g ⟨L,M⟩ K h;rw[mo] at h;refine I [2,3,13,4] ?_ ?_<;>intro _ h
  ·refine S [1] ?_;refine J e1 hn h (fun s=>[(6,.aK 39)]) (fun s=>[(15,w3 s.1),(39,d49 s.2)]) [1,3,4] [1,3] (fun _ h g=>?_) ?_
   ·refine B [6,2,8] fun E d h=>?_;refine bT d ?_;refine S [17] ?_;refine V8 (l6 d).2 ?_;refine B [] fun n e h=>?_;refine bT e ?_;refine S [17] ?_;refine V8 (l6 e).2 ?_;refine kd [1,3,4,6,7,8] [1,3,15,26] ?_;refine A [3] fun o h=>?_;refine LA o rfl rfl ?_;refine S [2,2] ?_;refine Jb 48 hn h [1,3,4,6,7,8] [1,3,15,39] (fun _ h g=>?_) ?_
    ·exact F8 [5] [0] [0,13,0]
    intro P h;refine I [4] ?_ ?_<;>intro _ h
    ·refine S [2,8,13] ?_;refine nR 2 202 1 3 ?_;exact Sr [7] [(0,202)]
    refine B [1,2,3] fun _ f h=>?_;refine bT f ?_;refine V8 (l6 f).2 ?_;refine I [4] ?_ ?_<;>intro _ h
    ·refine B [2,3] fun _ i h=>?_;refine bT i ?_;refine V8 (l6 i).2 ?_;refine I [4] ?_ ?_<;>intro _ h
     ·refine kd [3,7] [3] ?_;refine S [3] ?_;refine nR 2 202 1 3 ?_;exact Sr [7] [(0,202)]
     exact Sj [1,20]
    refine B [1,3] fun _ j h=>?_;refine bT j ?_;refine sM (l6 j).2 n.f1 ?_;refine B [3] fun F w h=>?_;refine G6 w ?_;refine kd [1,3,4,6,7,8,9] [1,3,9,15,39] ?_;refine B [3] fun b t h=>?_;refine cA (FK t) ?_;refine S [2,2] ?_;refine Jb 91 hn h [1,3,4,6,7,8,9,10,11] [1,3,9,15,39] (fun _ h g=>?_) ?_
    ·refine Ij [5] [0] fun _ h=>?_;exact F8 [0] [0] [0]
    intro Q h;refine I [4] ?_ ?_<;>intro _ h
    ·refine S [3] ?_;refine nR 2 202 1 3 ?_;exact Sr [7] [(0,202)]
    refine I [1,3,12,12,2,3,4] ?_ ?_<;>intro _ h
    ·refine kd [3,7] [3] ?_;refine S [3] ?_;refine nR 2 202 1 3 ?_;exact Sr [7] [(0,202)]
    refine S [1,2,2] ?_;refine Jb 110 hn h [1,3,4,6,7,8,9] [1,3,9,15,39] (fun _ h g=>?_) ?_
    ·refine kd [1,3,4,6,7,8,9] [1,3,9,15,39] ?_;exact F8 [5] [0] [0]
    intro R h;refine J e0 hn h (fun s=>[(6,.aK 117)]) (fun s=>[(117,d49 s)]) [1,3,4,8,9] [1,3,9,15] (fun _ h g=>?_) ?_
    ·refine I [4] ?_ ?_<;>intro _ h
     ·refine S [5,12] ?_;refine bS vJ [(⟨(wr (E.f0+(1:Int))),(wr (n.f1+(wr (b.2-b.1))))⟩:dp)] ?_;refine A [] fun p h=>?_;refine aM p ?_;exact je
     exact Sj [1] [(117,39)]
    intro T h;refine S [2] ?_;refine Jb 125 hn h [1,3,4,6,8,9] [1,3,9,15,117] (fun _ h g=>?_) ?_
    ·exact F8 [5] [0] [0]
    intro U h;refine Jk e0 hn h (fun s=>[(6,.aK 132)]) (fun s=>[(132,d49 s)]) [1,3,4] [1,3,15] [(39,132)] fun _ h g=>?_;refine I [4] ?_ ?_<;>intro _ h
    ·refine S [5] ?_;refine bS vJ [(⟨F.a,(wr (n.f1+(wr (b.2-b.1))))⟩:dp)] ?_;refine A [] fun q h=>?_;refine aM q ?_;exact je
    exact Sj [1] [(132,117)]
   rintro⟨C,D⟩ h;exact le (C,D) [(26,39)]
  exact Sj [20]
 intro O h;exact Sr [3,7] [(0,15)]
def B3 {N a0 a1 a2 r} (h:pU N a0 a1 a2=some r):Spec prog 39 [] [.agg (M8 a0),.int a1,.agg (G9 a2)] (.agg (vY r)) [] []:=by
 refine so func39 ntmps39 fun p hn=>?_;unfold pU at h;refine S [3,2,6,2] ?_;refine Jb 12 hn h [1,3,5,6] [3,5,6] (fun _ h g=>?_) ?_
 ·exact F8 [5] [0] [0,13,0]
 intro n h;refine Ir [4] [3,7] fun _ h=>?_;refine B [3] fun _ i h=>?_;refine cA (qp i) ?_;refine Ir [4] [3,7] fun _ h=>?_;refine S [2] ?_;refine Jb 29 hn h [1,3,5,6] [3,5,6] (fun _ h g=>?_) ?_
 ·refine Ij [5] [0] fun _ h=>?_;refine Ij [0] [0] fun _ h=>?_;exact F8 [0] [0] [0]
 intro o h;refine Ir [4] [3,7] fun _ h=>?_;refine Ir [3,4] [3,7] fun _ h=>?_;refine S [2] ?_;refine Jb 54 hn h [1,3,5,6] [3,5,6] (fun _ h g=>?_) ?_
 ·exact F8 [5,13] [0] [0,13,0]
 intro j h;refine Ir [4] [3,7] fun _ h=>?_;refine S [1,2,3] ?_;refine J2 fun c=>?_;refine j6.gh (Gh.bA 3 3 rfl rfl rfl) (fun _=>?_);refine j6.gh (Gh.bA 5 5 rfl rfl rfl) (fun _=>?_);refine LR e1 hn () (fun l k v=>nC N a0 a1 a2 l k) h (fun a v=>[(69,.int (a:Int))]) (fun a v=>[]) [1,3,5,6,67,68] [6] [] nl nl [5,6] [6] ?_ ?_ ?_
 ·intro _ g a _ h _;rw[nC] at h;exact Sj [3,2,4,0,20]
 ·intro _ g a _ m f h _ b _;rw[nC] at h;refine S [3,2,4,0,1,2,6,3] ?_;refine P9 b ?_;refine B [3] fun _ d h=>?_;refine cA (GG d) ?_;refine kd [1,3,5,6,7,9,67,68,69] [6] ?_;refine Ir [3,4] [3,7] fun _ h=>?_;refine S [1,5] ?_;refine MF (AN (M7 b c) ?_);exact le () []
 rintro⟨⟩ h;refine B [3] fun _ e h=>?_;refine cA ((GI e).sw 0 85) ?_;exact Sr [3,7]
def GY {N a0 r} (h:rb N a0=some r):Spec prog 60 [] [.agg (M8 a0)] (.agg [.aK 0,jO r.heap,.int r.aC]) [(0,d81 r.a7 [] 1),(1,.aF)] [0,1]:=by
 refine so func60 ntmps60 fun C hn=>?_;unfold rb at h;refine B [3,2,8] fun _ u h=>?_;refine cA (((ue u).sw 0 11).sw 1 711) ?_;refine S [2,3] ?_;refine J2 fun t=>?_;refine nB 3 0 501 4 81 ?_;refine gC (gT 501 502 [(3,(5,27))]) ?_;refine LR e0 hn ([]:List Cl) (fun l k v=>lC N l k v) h (fun p v=>[(18,.int (p:Int))]) (fun p v=>[(501,d81 v [] 502)]) [2,3,16,17] [2,3,11,502,711] [] nl (fun s=>[(501,d81 s [] 502)]) [2,3] [2,3,11,502,711] ?_ ?_ ?_
 ·intro _ g p x h _;rw[lC] at h;exact Sj [3,2,4,0,20]
 ·intro _ g p x a w h _ c _;rw[lC] at h;refine S [3,2,4,0,1,2,6,3] ?_;refine P9 c ?_;refine S [3,2,3] ?_;refine J2 fun j=>?_;refine nR 6 206 5 27 ?_;refine LR e0 hn ([]:List Me) (fun l k v=>lA N l k v) h (fun b v=>[(25,.int (b:Int))]) (fun b v=>[(206,km v)]) [2,3,5,6,16,17,18,23,24] [2,3,5,11,501,502,711] [] nl (fun s=>[(206,km s)]) [2,3,5,6,16,17,18] [2,3,5,11,501,502,711] ?_ ?_ ?_
  ·intro _ g b o h _;rw[lA] at h;exact Sj [3,2,4,0,20]
  ·intro _ g b o y q h _ d _;rw[lA] at h;refine S [3,2,4,0,1,2,6,3] ?_;refine P9 d ?_;refine B [5] fun n m h=>?_;refine cA (uZ m) ?_;refine bS G9 [n] ?_;refine A [] fun f h=>?_;refine aM f ?_;refine kd [2,3,5,6,16,17,18,23,24,25] [2,3,5,11,33,501,502,711] ?_;refine S [5] ?_;refine MF (AN (M7 d j) ?_);exact le (o++[n]) [(206,33)]
  intro e h;refine S [3,5,11] ?_;refine Exists.intro [(3,(5,27))] (Exists.intro (fI (⟨a.name,a.aQ,a.aG,e⟩:Cl)) (Exists.intro [(206,km e)] (AN rfl (AN rfl (AN rfl (AN G8 (AN G8 (AN rfl (AN rfl ?_)))))))));refine A [] fun i h=>?_;refine aD i ?_;refine S [5] ?_;refine MF (AN (M7 c t) ?_);exact le (x++[(⟨a.name,a.aQ,a.aG,e⟩:Cl)]) [(501,41),(502,741)]
 intro z h;refine S [3] ?_;refine j6.ay 11 rfl ?_;exact Sr [7] [(0,501),(1,502)]
def G2 {N a0 a1 a2 r} (h:qq N a0 a1 a2=some r):Spec prog 97 [] [.agg (M8 a0),.int a1,.agg (G9 a2)] (.aZ [.agg (M8 r.1),.int r.2]) [] []:=by
 refine so func97 ntmps97 fun w hn=>?_;unfold qq at h;refine S [3,2,2] ?_;refine Jb 20 hn h [1,3,5,6] [3,5,6] (fun _ h g=>?_) ?_
 ·exact F8 [5] [0] [0,13,0]
 intro v h;refine Ir [4] [3,7] fun _ h=>?_;refine B [1,2,8] fun _ n h=>?_;refine G6 n ?_;refine B [] fun q m h=>?_;refine cA (Z8 m (fun _ _ _ p=>Ae p)) ?_;refine S [2,2] ?_;refine Jb 45 hn h [1,3,5,6,8,9] [3,5,6] (fun _ h g=>?_) ?_
 ·refine kd [1,3,5,6,8,9] [3,5,6] ?_;refine I [5] ?_ ?_<;>intro _ h
  ·refine B [0] fun _ k h=>?_;refine G6 k ?_;exact Sj [0,13,0]
  exact Sj [0]
 intro t h;refine Ir [4] [3,7] fun _ h=>?_;refine B [1,3] fun _ f h=>?_;refine cA (((GY f).sw 0 48).sw 1 748) ?_;refine B [3] fun e a h=>?_;refine iD a ?_;refine S [2,3] ?_;refine J e0 hn h nl (fun s=>[(48,d81 s [] 501),(501,.aF)]) [5,6,8,10,11] [5,6,10] (fun _ h g=>?_) ?_
 ·refine I [4] ?_ ?_<;>intro _ h
  ·refine gC (gD 48 501 502 a1.toNat 3 (l6 a).2) ?_;refine kd [5,6,8,10,11] [5,6,10,48,501,502] ?_;refine S [5] ?_;refine hD (l6 a).2 ?_;refine bS G9 [(⟨BY,(0:Int),(0:Int),(0:Int),[]⟩:Me)] ?_;refine B [] fun o i h=>?_;refine cA ((((Fa N _ _ _ _ i).sw 1000 501).sw 1032 62).sw 0 63) ?_;refine hS (l6 a).2 ?_;refine gE (gA 48 63 503 a1.toNat 3 ((l6 a).2) (⟨e.name,e.aQ,e.aG,o⟩:Cl)) ?_;exact je [(501,503)]
  exact Sj [1] [(501,748)]
 intro u h;refine B [2] fun c b h=>?_;refine gC (gD 48 504 505 a1.toNat 3 b) ?_;refine kd [5,6,8,10,11] [5,6,10,48,504,505] ?_;refine S [8] ?_;refine hD b ?_;refine B [] fun l j h=>?_;refine cA (uZ j) ?_;refine B [] fun _ d h=>?_;refine bT d ?_;refine sM (l6 d).2 l ?_;refine gC (gA 48 504 506 a1.toNat 3 b (⟨c.name,c.aQ,c.aG,(c.aB.set q.1.toNat l)⟩:Cl)) ?_;refine kd [6,10] [6,10,48,506] ?_;refine S [3,12,3] ?_;refine j6.ay 48 rfl ?_;exact Sr [7]
def Fu {N a0 a1 a2 r} (h:uc N a0 a1 a2=some r):Spec prog 65 [(1000,.box (Y7 a0) 45)] [.ptr 1000 0,.int a1,.agg (G9 a2)] (.agg (nf r.1)) [(1000,.box (Y7 r.2) 45)] []:=by
 refine so func65 ntmps65 fun d hn=>?_;unfold uc at h;refine B [3,2,2,8] fun _ a h=>?_;refine cA (B3 a) ?_;refine Ir [3,4] [3,7] fun _ h=>?_;refine B [1,2,8] fun _ b h=>?_;refine cA (G2 b) ?_;refine S [2] ?_;refine kd [0,6,8,9] [6,8,1000] ?_;refine S [3] ?_;refine J e0 hn h nl (fun s=>[(1000,.box (Y7 s) 45)]) [0,6,9] [6] (fun _ h g=>?_) ?_
 ·exact F8 [4] [5] [1]
 intro c h;exact Sr [3,7]
def GZ {N a0 a1 a2 b0 r} (h:pK N a0 a1 a2 b0=some r):Spec prog 126 [] [.agg (bU a0),.int a1,.str a2,.fp (M8 b0)] (.aZ [.int r.1,.int r.2]) [] []:=by
 refine so func126 ntmps126 fun b hn=>?_;unfold pK at h;refine B [3,3] fun _ a h=>?_;refine cA (jV a) ?_;exact Sr [7]
def FL {N a0 a1 a2 a3 a4 r} (h:rj N a0 a1 a2 a3 a4=some r):Spec prog 178 [] [.agg (M8 a0),jC a1,.agg (bU a2),.str a3,.int a4] (.int r) [] []:=by
 refine so func178 ntmps178 fun m hn=>?_;unfold rj at h;refine B [3,3] fun _ i h=>?_;refine cA (Gy i) ?_;refine B [2,3] fun _ j h=>?_;refine cA (HP j) ?_;refine S [2] ?_;refine Jb 36 hn h [3,4,5,11] [5] (fun _ h g=>?_) ?_
 ·refine kd [3,4,5,11,12,13] [5] ?_;refine Ij [5] [0] fun _ h=>?_;exact F8 [0] [0] [0,12,0]
 intro l h;refine Ir [4] [3,7] fun _ h=>?_;refine B [1,3] fun _ a h=>?_;refine cA (jV a) ?_;refine S [2,2] ?_;refine Jb 72 hn h [11] [] (fun _ h g=>?_) ?_
 ·refine Ij [5] [0] fun _ h=>?_;refine B [0] fun _ c h=>?_;refine G6 c ?_;refine B [0] fun _ d h=>?_;refine G6 d ?_;refine B [0] fun _ b h=>?_;refine cA (Ad b) ?_;refine Ij [0] [0] fun _ h=>?_;refine B [0] fun _ e h=>?_;refine G6 e ?_;refine B [0] fun _ f h=>?_;refine G6 f ?_;exact Sj [0]
 intro k h;exact ia [4] [3,7] [1,3,7]
def Eu {N a0 a1 a2 a3 r} (h:nN N a0 a1 a2 a3=some r):Spec prog 134 [] [.agg (M8 a0),jC a1,.int a2,.int a3] (.aK 0) [(0,w3 r)] [0]:=by
 refine so func134 ntmps134 fun w hn=>?_;unfold nN at h;refine S [3,2,2] ?_;refine Jb 37 hn h [1,2,3,4] [4] (fun _ h g=>?_) ?_
 ·refine Ij [5] [0] fun _ h=>?_;refine Ij [0,13,0] [0] fun _ h=>?_;refine Ij [0] [0] fun _ h=>?_;refine B [0] fun _ o h=>?_;refine G6 o ?_;exact Sj [0,13,0]
 intro u h;refine I [4] ?_ ?_<;>intro _ h
 ·refine S [3] ?_;refine nR 8 208 1 3 ?_;exact Sr [7] [(0,208)]
 refine B [1,3] fun _ f h=>?_;refine G6 f ?_;refine B [] fun p i h=>?_;refine G6 i ?_;refine S [3,2,3] ?_;refine J2 fun d=>?_;refine nR 10 210 1 3 ?_;refine LR e0 hn ([]:List Int) (fun l k v=>mn N a0 a1 a2 p l k v) h (fun a v=>[(51,.int (a:Int))]) (fun a v=>[(210,w3 v)]) [1,2,4,9,10,49,50] [4] [] nl (fun s=>[(210,w3 s)]) [10] [] ?_ ?_ ?_
 ·intro _ g a j h _;rw[mn] at h;exact Sj [3,2,4,0,20]
 ·intro _ g a j t n h _ b _;rw[mn] at h;refine S [3,2,4,0,1,2,6,3] ?_;refine P9 b ?_;refine S [3,2,3] ?_;refine J e0 hn h (fun s=>[(13,.int s)]) nl [1,2,4,9,10,49,50,51] [4,210] (fun _ h g=>?_) ?_
  ·refine I [4] ?_ ?_<;>intro _ h
   ·refine kd [1,2,4,9,10,11,12,49,50,51] [4,12,210] ?_;refine B [8] fun _ e h=>?_;refine cA (FL e) ?_;exact je
   exact Sj [1]
  intro m h;refine S [5] ?_;refine bS cE [m] ?_;refine A [] fun c h=>?_;refine aM c ?_;refine S [5] ?_;refine MF (AN (M7 b d) ?_);exact le (j++[m]) [(210,76)]
 intro q h;exact Sr [3,7] [(0,210)]
def El {N a0 a1 a2 r} (h:qy N a0 a1 a2=some r):Spec prog 174 [(1000,.box [.fp (M8 a0.w),.fp (G9 a0.m),.aK 1001,.int a0.a8,.aK 1002,.aK 1003] 260),(1001,cQ a0.out),(1002,w3 a0.aH),(1003,w3 a0.fix)] [.ptr 1000 0,.int a1,.str a2] (Ho G9 r.1) [(1000,.box [.fp (M8 r.2.w),.fp (G9 r.2.m),.aK 2,.int r.2.a8,.aK 3,.aK 4] 260),(2,cQ r.2.out),(1001,.aF),(3,w3 r.2.aH),(1002,.aF),(4,w3 r.2.fix),(1003,.aF)] [2,3,4]:=by
 refine so func174 ntmps174 fun d hn=>?_;unfold qy at h;refine rB 1000 2 1001 320 ?_;refine rB 1000 4 1002 321 ?_;refine rB 1000 5 1003 322 ?_;refine B [3,3] fun _ a h=>?_;refine cA (jV a) ?_;refine S [2] ?_;refine kd [0,7,8] [320,321,322,1000,1001,1002,1003] ?_;refine I [3,4] ?_ ?_<;>intro _ h
 ·exact Sr [3,7] [(2,320),(3,321),(4,322)]
 refine B [1,3] fun _ b h=>?_;refine G6 b ?_;refine B [] fun _ c h=>?_;refine G6 c ?_;exact Sr [7] [(2,320),(3,321),(4,322)]
def FV {N a0 a1 a2 a3 a4 r} (h:qz N a0 a1 a2 a3 a4=some r):Spec prog 177 [(1000,.box [.fp (M8 a0.w),.fp (G9 a0.m),.aK 1001,.int a0.a8,.aK 1002,.aK 1003] 260),(1001,cQ a0.out),(1002,w3 a0.aH),(1003,w3 a0.fix)] [.ptr 1000 0,.int a1,.int a2,.agg (bd a3),.fp (G9 a4)] (.aZ []) [(1000,.box [.fp (M8 r.w),.fp (G9 r.m),.aK 2,.int r.a8,.aK 3,.aK 4] 260),(2,cQ r.out),(1001,.aF),(3,w3 r.aH),(1002,.aF),(4,w3 r.fix),(1003,.aF)] [2,3,4]:=by
 refine so func177 ntmps177 fun Γ hn=>?_;unfold qz at h;refine rB 1000 2 1001 320 ?_;refine rB 1000 4 1002 321 ?_;refine rB 1000 5 1003 322 ?_;refine S [15,3,3,2] ?_;refine kd [0,1,2,4,8,10] [8,320,321,322,1000,1001,1002,1003] ?_;refine S [8,12,12,12] ?_;refine kd [0,1,2,4,8,10] [8,320,321,322,1000,1001,1002,1003] ?_;refine B [3] fun _ G h=>?_;refine cA ((H8 G).bE [(1001,320),(1002,321),(1003,322),(2,501),(3,502),(4,503)] rfl) ?_;refine B [3] fun y H h=>?_;refine cA ((H8 H).bE [(1001,501),(1002,502),(1003,503),(2,504),(3,505),(4,506)] rfl) ?_;refine S [2,3] ?_;refine LF e0 hn (y.w,y.m,y.out,y.a8,y.aH,y.fix,a4.args) (fun l v=>Z4 N a0 l v.1 v.2.1 v.2.2.1 v.2.2.2.1 v.2.2.2.2.1 v.2.2.2.2.2.1 v.2.2.2.2.2.2) h (fun v=>[(11,.int v.2.2.2.2.2.2)]) (fun v=>[(504,cQ v.2.2.1),(505,w3 v.2.2.2.2.1),(506,w3 v.2.2.2.2.2.1),(1000,.box [.fp (M8 v.1),.fp (G9 v.2.1),.aK 504,.int v.2.2.2.1,.aK 505,.aK 506] 260)]) [0,4,10] [1001,1002,1003] [] nl (fun s=>[(504,cQ s.2.2.1),(505,w3 s.2.2.2.2.1),(506,w3 s.2.2.2.2.2),(1000,.box [.fp (M8 s.1),.fp (G9 s.2.1),.aK 504,.int s.2.2.2.1,.aK 505,.aK 506] 260)]) [0,4,10] [1001,1002,1003] ?_ ?_
 ·rintro _ g ⟨v6,v7,v8,v9,v10,v11,K⟩ n29 h;rw[Z4] at h;refine I [2,3,4] ?_ ?_<;>intro _ h
  ·refine B [1,2,6,5,12] fun a A h=>?_;refine cA ((H8 A).bE [(1001,504),(1002,505),(1003,506),(2,507),(3,508),(4,509)] rfl) ?_;refine S [5,12] ?_;exact le (a.w,a.m,a.out,a.a8,a.aH,a.fix,(wr (K-(1:Int)))) [(504,507),(505,508),(506,509)]
  exact Sj [20]
 rintro⟨L,M,O,P,Q,R⟩ h;refine S [2,3] ?_;refine j6.cK 61 rfl (fun x=>?_);refine LU e0 hn (L,M,O,P,Q,R) (fun l k v=>V5 N a0 a4 l k v.1 v.2.1 v.2.2.1 v.2.2.2.1 v.2.2.2.2.1 v.2.2.2.2.2) h (fun c v=>[(62,.int (c:Int))]) (fun c v=>[(504,cQ v.2.2.1),(505,w3 v.2.2.2.2.1),(506,w3 v.2.2.2.2.2),(1000,.box [.fp (M8 v.1),.fp (G9 v.2.1),.aK 504,.int v.2.2.2.1,.aK 505,.aK 506] 260)]) [0,4,10,61] [1001,1002,1003] [] nl (fun s=>[(504,cQ s.2.2.1),(505,w3 s.2.2.2.2.1),(506,w3 s.2.2.2.2.2),(1000,.box [.fp (M8 s.1),.fp (G9 s.2.1),.aK 504,.int s.2.2.2.1,.aK 505,.aK 506] 260)]) [0,4,10] [1001,1002,1003] ?_ ?_ ?_
 ·rintro _ g c ⟨T,U,V,W,X,Y⟩ h _;rw[V5] at h;exact Sj [3,2,4,0,20]
 ·rintro _ g c ⟨T,U,V,W,X,Y⟩ n55 h f _;rw[V5] at h;refine B [3,2,4,0,1,2,6,3,3] fun _ C h=>?_;refine cA ((H8 C).bE [(1001,504),(1002,505),(1003,506),(2,510),(3,511),(4,512)] rfl) ?_;refine B [5,12,12,12] fun b D h=>?_;refine cA ((H8 D).bE [(1001,510),(1002,511),(1003,512),(2,513),(3,514),(4,515)] rfl) ?_;refine kd [0,4,10,61,62] [513,514,515,1000,1001,1002,1003] ?_;refine S [5] ?_;refine MF (AN (jc f x) ?_);exact le (b.w,b.m,b.out,b.a8,b.aH,b.fix) [(504,513),(505,514),(506,515)]
 rintro⟨Z,v47,E,v49,v50,v51⟩ h;refine S [3,13,3] ?_;refine J2 fun z=>?_;refine LR e0 hn (Z,v47,E,v49,v50,v51) (fun l k v=>O8 N a0 a4 E l k v.1 v.2.1 v.2.2.1 v.2.2.2.1 v.2.2.2.2.1 v.2.2.2.2.2) h (fun d v=>[(89,.int (d:Int))]) (fun d v=>[(504,cQ v.2.2.1),(505,w3 v.2.2.2.2.1),(506,w3 v.2.2.2.2.2),(1000,.box [.fp (M8 v.1),.fp (G9 v.2.1),.aK 504,.int v.2.2.2.1,.aK 505,.aK 506] 260)]) [0,4,10,13,87,88] [1001,1002,1003] [] nl (fun s=>[(504,cQ s.2.2.1),(505,w3 s.2.2.2.2.1),(506,w3 s.2.2.2.2.2),(1000,.box [.fp (M8 s.1),.fp (G9 s.2.1),.aK 504,.int s.2.2.2.1,.aK 505,.aK 506] 260)]) [0] [1001,1002,1003] ?_ ?_ ?_
 ·rintro _ g d ⟨v66,v67,v68,v69,v70,v71⟩ h _;rw[O8] at h;exact Sj [3,2,4,0,20]
 ·rintro _ g d ⟨v66,v67,v68,v69,v70,v71⟩ x88 F h _ e _;rw[O8] at h;refine S [3,2,4,0,1,2] ?_;refine J e0 hn h nl (fun s=>[(516,cQ s.2.2.1),(517,w3 s.2.2.2.2.1),(518,w3 s.2.2.2.2.2),(1000,.box [.fp (M8 s.1),.fp (G9 s.2.1),.aK 516,.int s.2.2.2.1,.aK 517,.aK 518] 260)]) [0,4,10,13,87,88,89] [1001,1002,1003] (fun _ h g=>?_) ?_
  ·refine S [6,3] ?_;refine P9 e ?_;refine S [3] ?_;refine Jk e0 hn h nl (fun s=>[(516,cQ s.2.2.1),(517,w3 s.2.2.2.2.1),(518,w3 s.2.2.2.2.2),(1000,.box [.fp (M8 s.1),.fp (G9 s.2.1),.aK 516,.int s.2.2.2.1,.aK 517,.aK 518] 260)]) [0,4,10,13,87,88,89] [1001,1002,1003] [] fun _ h g=>?_;refine S [6,3] ?_;refine Jk e0 hn h nl (fun s=>[(516,cQ s.2.2.1),(517,w3 s.2.2.2.2.1),(518,w3 s.2.2.2.2.2),(1000,.box [.fp (M8 s.1),.fp (G9 s.2.1),.aK 516,.int s.2.2.2.1,.aK 517,.aK 518] 260)]) [0,4,10,13,87,88,89] [1001,1002,1003] [] fun _ h g=>?_;refine I [4] ?_ ?_<;>intro _ h
   ·refine B [5] fun _ i h=>?_;refine cA ((H8 i).bE [(1001,504),(1002,505),(1003,506),(2,516),(3,517),(4,518)] rfl) ?_;exact je
   refine S [3] ?_;refine Jk e0 hn h nl (fun s=>[(519,cQ s.2.2.1),(520,w3 s.2.2.2.2.1),(521,w3 s.2.2.2.2.2),(1000,.box [.fp (M8 s.1),.fp (G9 s.2.1),.aK 519,.int s.2.2.2.1,.aK 520,.aK 521] 260)]) [0,4,10,13,87,88,89] [1001,1002,1003] [(516,519),(517,520),(518,521)] fun _ h g=>?_;refine I [4] ?_ ?_<;>intro _ h
   ·refine kd [0,4,10,13,15,87,88,89] [15,504,505,506,1000,1001,1002,1003] ?_;refine B [5,12,12] fun _ j h=>?_;refine cA ((H8 j).bE [(1001,504),(1002,505),(1003,506),(2,519),(3,520),(4,521)] rfl) ?_;exact je
   refine S [2] ?_;refine kd [0,4,10,13,15,87,88,89,94] [15,504,505,506,1000,1001,1002,1003] ?_;refine S [3] ?_;refine Jb 115 hn h [0,4,10,13,15,87,88,89,94] [15,504,505,506,1000,1001,1002,1003] (fun _ h g=>?_) ?_
   ·exact F8 [4] [1] [5]
   intro v125 h;refine Jk e0 hn h nl (fun s=>[(522,cQ s.2.2.1),(523,w3 s.2.2.2.2.1),(524,w3 s.2.2.2.2.2),(1000,.box [.fp (M8 s.1),.fp (G9 s.2.1),.aK 522,.int s.2.2.2.1,.aK 523,.aK 524] 260)]) [0,4,10,13,87,88,89] [1001,1002,1003] [(519,522),(520,523),(521,524)] fun _ h g=>?_;refine I [4] ?_ ?_<;>intro _ h
   ·refine B [8,12,12,12] fun _ n h=>?_;refine cA ((H8 n).bE [(1001,504),(1002,505),(1003,506),(2,522),(3,523),(4,524)] rfl) ?_;exact je
   refine S [3] ?_;refine Jk e0 hn h nl (fun s=>[(525,cQ s.2.2.1),(526,w3 s.2.2.2.2.1),(527,w3 s.2.2.2.2.2),(1000,.box [.fp (M8 s.1),.fp (G9 s.2.1),.aK 525,.int s.2.2.2.1,.aK 526,.aK 527] 260)]) [0,4,10,13,87,88,89] [1001,1002,1003] [(522,525),(523,526),(524,527)] fun _ h g=>?_;refine I [4] ?_ ?_<;>intro _ h
   ·refine B [5] fun _ o h=>?_;refine cA ((H8 o).bE [(1001,504),(1002,505),(1003,506),(2,525),(3,526),(4,527)] rfl) ?_;exact je
   refine S [3] ?_;refine Jk e0 hn h nl (fun s=>[(528,cQ s.2.2.1),(529,w3 s.2.2.2.2.1),(530,w3 s.2.2.2.2.2),(1000,.box [.fp (M8 s.1),.fp (G9 s.2.1),.aK 528,.int s.2.2.2.1,.aK 529,.aK 530] 260)]) [0,4,10,13,87,88,89] [1001,1002,1003] [(525,528),(526,529),(527,530)] fun _ h g=>?_;refine I [4] ?_ ?_<;>intro _ h
   ·refine B [5] fun _ p h=>?_;refine cA ((H8 p).bE [(1001,504),(1002,505),(1003,506),(2,528),(3,529),(4,530)] rfl) ?_;exact je
   refine S [2,3] ?_;refine Jb 146 hn h [0,4,10,13,15,87,88,89,94] [15,504,505,506,1000,1001,1002,1003] (fun _ h g=>?_) ?_
   ·exact F8 [4] [1] [5]
   intro v158 h;refine Jk e0 hn h nl (fun s=>[(531,cQ s.2.2.1),(532,w3 s.2.2.2.2.1),(533,w3 s.2.2.2.2.2),(1000,.box [.fp (M8 s.1),.fp (G9 s.2.1),.aK 531,.int s.2.2.2.1,.aK 532,.aK 533] 260)]) [0,4,10,13,87,88,89] [1001,1002,1003] [(528,531),(529,532),(530,533)] fun _ h g=>?_;refine I [4] ?_ ?_<;>intro _ h
   ·refine B [5,12] fun _ q h=>?_;refine cA ((H8 q).bE [(1001,504),(1002,505),(1003,506),(2,531),(3,532),(4,533)] rfl) ?_;exact je
   refine S [3] ?_;refine Jk e0 hn h nl (fun s=>[(534,cQ s.2.2.1),(535,w3 s.2.2.2.2.1),(536,w3 s.2.2.2.2.2),(1000,.box [.fp (M8 s.1),.fp (G9 s.2.1),.aK 534,.int s.2.2.2.1,.aK 535,.aK 536] 260)]) [0,4,10,13,87,88,89] [1001,1002,1003] [(531,534),(532,535),(533,536)] fun _ h g=>?_;refine I [4] ?_ ?_<;>intro _ h
   ·refine B [5,13,12] fun _ t h=>?_;refine cA ((H8 t).bE [(1001,504),(1002,505),(1003,506),(2,534),(3,535),(4,536)] rfl) ?_;exact je
   refine B [5] fun _ u h=>?_;refine cA ((H8 u).bE [(1001,504),(1002,505),(1003,506),(2,537),(3,538),(4,539)] rfl) ?_;exact je [(534,537),(535,538),(536,539)]
  rintro⟨v91,v92,v93,v94,v95,v96⟩ h;refine S [5] ?_;refine MF (AN (M7 e z) ?_);exact le (v91,v92,v93,v94,v95,v96) [(504,516),(505,517),(506,518)]
 rintro⟨v78,v79,v80,v81,v82,v83⟩ h;exact Sr [14] [(2,504),(3,505),(4,506)]
def G4 {N a0 a1 a2 a3 r} (h:qs N a0 a1 a2 a3=some r):Spec prog 133 [] [.agg (M8 a0),.int a1,.int a2,s3 a3] (.aZ [.agg (eb r.1),.bool r.2]) [] []:=by
 refine so func133 ntmps133 fun Γ hn=>?_;unfold qs at h;refine S [3,2,2] ?_;refine Jb 41 hn h [1,2,3,4,8] [4,8] (fun _ h g=>?_) ?_
 ·refine Ij [5] [0] fun _ h=>?_;refine Ij [0,13,0] [0] fun _ h=>?_;refine Ij [0] [0] fun _ h=>?_;refine B [0] fun _ hx8 h=>?_;refine G6 hx8 ?_;exact Sj [0,13,0]
 intro v1 h;refine Ir [4] [3,7] fun _ h=>?_;refine B [1,3] fun _ R h=>?_;refine G6 R ?_;refine B [] fun F T h=>?_;refine G6 T ?_;refine j6.gh (Gh.bA 4 4 rfl rfl rfl) (fun _=>?_);refine kd [1,3,4,8,10] [8] ?_;refine S [3,3,2,3] ?_;refine J2 fun L=>?_;refine nB 57 2 501 5 55 ?_;refine nB 57 4 502 1 3 ?_;refine nB 57 5 503 1 3 ?_;refine LR e0 hn (a0,F,([]:List Ins),F.a8,([]:List Int),([]:List Int),false) (fun l k v=>k9 N a3 F l k v.1 v.2.1 v.2.2.1 v.2.2.2.1 v.2.2.2.2.1 v.2.2.2.2.2.1 v.2.2.2.2.2.2) h (fun o v=>[(12,.bool v.2.2.2.2.2.2),(63,.int (o:Int))]) (fun o v=>[(57,.box [.fp (M8 v.1),.fp (G9 v.2.1),.aK 501,.int v.2.2.2.1,.aK 502,.aK 503] 260),(501,cQ v.2.2.1),(502,w3 v.2.2.2.2.1),(503,w3 v.2.2.2.2.2.1)]) [1,3,4,8,10,11,61,62] [8] [] (fun s=>[(12,.bool s.2.2.2.2.2.2)]) (fun s=>[(57,.box [.fp (M8 s.1),.fp (G9 s.2.1),.aK 501,.int s.2.2.2.1,.aK 502,.aK 503] 260),(501,cQ s.2.2.1),(502,w3 s.2.2.2.2.1),(503,w3 s.2.2.2.2.2.1)]) [1,4,8,10,11] [8] ?_ ?_ ?_
 ·rintro _ g o ⟨v17,v18,E,v20,v21,v22,v23⟩ h _;rw[k9] at h;exact Sj [3,2,4,0,20]
 ·rintro _ g o ⟨v17,v18,E,v20,v21,v22,v23⟩ x42 rest39 h _ p _;rw[k9] at h;refine S [3,2,4,0,1,2] ?_;refine J e0 hn h (fun s=>[(12,.bool s.2.2.2.2.2.2)]) (fun s=>[(57,.box [.fp (M8 s.1),.fp (G9 s.2.1),.aK 203,.int s.2.2.2.1,.aK 505,.aK 188] 260),(188,w3 s.2.2.2.2.2.1),(203,cQ s.2.2.1),(505,w3 s.2.2.2.2.1)]) [1,3,4,8,10,11,61,62,63] [8] (fun _ h g=>?_) ?_
  ·refine S [6,3] ?_;refine P9 p ?_;refine S [2,8,13] ?_;refine bS cE [(E.length:Int)] ?_;refine A [] fun G h=>?_;refine aM G ?_;refine S [2,2] ?_;refine Jb 97 hn h [1,3,4,8,10,11,12,13,14,61,62,63] [8,14,57,79,501,503] (fun _ h g=>?_) ?_
   ·refine kd [1,3,4,8,10,11,12,13,14,61,62,63] [8,14,57,79,501,503] ?_;refine I [5] ?_ ?_<;>intro _ h
    ·refine I [0,13,0] ?_ ?_<;>intro _ h
     ·refine B [0] fun _ U h=>?_;refine G6 U ?_;exact Sj [0]
     exact Sj [0]
    exact Sj [0]
   intro v55 h;refine I [4] ?_ ?_<;>intro _ h
   ·refine B [2,8] fun _ V h=>?_;refine G6 V ?_;refine B [] fun r65 M h=>?_;refine cA ((El M).bE [(1000,57),(1001,501),(1002,79),(1003,503),(2,504),(3,505),(4,506)] rfl) ?_;rcases r65 with⟨_|x68,d⟩
    ·refine S [2] ?_;refine kd [1,3,4,8,10,11,12,13,14,15,61,62,63] [8,14,57,504,505,506] ?_;refine S [8,4,1,2,2] ?_;refine Jb 176 hn h [1,3,4,8,10,11,12,13,14,61,62,63] [8,14,57,504,505,506] (fun _ h g=>?_) ?_
     ·refine kd [1,3,4,8,10,11,12,13,14,61,62,63] [8,14,57,504,505,506] ?_;exact F8 [5] [0] [0]
     intro v69 h;refine J e0 hn h nl (fun s=>[(57,.box [.fp (M8 d.w),.fp (G9 d.m),.aK 504,.int d.a8,.aK 505,.aK 188] 260),(188,w3 s)]) [1,3,4,8,10,11,12,13,14,61,62,63] [8,14,504,505] (fun _ h g=>?_) ?_
     ·refine I [4] ?_ ?_<;>intro _ h
      ·refine S [8,13] ?_;refine bS cE [(d.out.length:Int)] ?_;refine A [] fun H h=>?_;refine aM H ?_;exact je
      exact Sj [1] [(188,506)]
     intro v72 h;refine S [2,3] ?_;refine J e0 hn h nl (fun s=>[(14,.box (bd s) 55)]) [1,3,4,8,10,11,12,14,61,62,63] [8,57,188,504,505] (fun _ h g=>?_) ?_
     ·exact F8 [4] [5] [1]
     intro v77 h;refine S [8] ?_;refine bS bd [v77] ?_;refine A [] fun K h=>?_;refine aM K ?_;exact je
    refine S [2] ?_;refine Jb 159 hn h [1,3,4,8,10,11,12,13,14,15,61,62,63] [8,14,57,504,505,506] (fun _ h g=>?_) ?_
    ·refine kd [1,3,4,8,10,11,12,13,14,15,61,62,63] [8,14,57,504,505,506] ?_;refine B [8] fun _ O h=>?_;refine cA (Ad O) ?_;refine I [] ?_ ?_<;>intro _ h
     ·refine I [0] ?_ ?_<;>intro _ h
      ·refine B [0,13,0] fun _ P h=>?_;refine cA (GW P) ?_;exact F8 [0,12,0,13,0,12,0,12,0] [0,12,0,12,0,12,0] [0]
      exact Sj [0]
     exact Sj [0]
    intro v81 h;refine I [4] ?_ ?_<;>intro _ h
    ·refine B [2,8] fun _ W h=>?_;refine G6 W ?_;refine B [] fun _ Q h=>?_;refine cA ((FV Q).bE [(1000,57),(1001,504),(1002,505),(1003,506),(2,507),(3,508),(4,509)] rfl) ?_;refine kd [1,3,4,8,10,11,61,62,63] [8,57,507,508,509] ?_;exact Sj [3,20] [(203,507),(505,508),(188,509)]
    refine S [1,2,2] ?_;refine Jb 176 hn h [1,3,4,8,10,11,12,13,14,61,62,63] [8,14,57,504,505,506] (fun _ h g=>?_) ?_
    ·exact F8 [5] [0] [0]
    intro v97 h;refine J e0 hn h nl (fun s=>[(57,.box [.fp (M8 d.w),.fp (G9 d.m),.aK 504,.int d.a8,.aK 505,.aK 188] 260),(188,w3 s)]) [1,3,4,8,10,11,12,13,14,61,62,63] [8,14,504,505] (fun _ h g=>?_) ?_
    ·refine I [4] ?_ ?_<;>intro _ h
     ·refine S [8,13] ?_;refine bS cE [(d.out.length:Int)] ?_;refine A [] fun u h=>?_;refine aM u ?_;exact je
     exact Sj [1] [(188,506)]
    intro v100 h;refine S [2,3] ?_;refine J e0 hn h nl (fun s=>[(14,.box (bd s) 55)]) [1,3,4,8,10,11,12,14,61,62,63] [8,57,188,504,505] (fun _ h g=>?_) ?_
    ·exact F8 [4] [5] [1]
    intro Y h;refine S [8] ?_;refine bS bd [Y] ?_;refine A [] fun x h=>?_;refine aM x ?_;exact je
   refine S [1,2,2] ?_;refine Jb 176 hn h [1,3,4,8,10,11,12,13,14,61,62,63] [8,14,57,79,501,503] (fun _ h g=>?_) ?_
   ·exact F8 [5] [0] [0]
   intro v109 h;refine J e0 hn h nl (fun s=>[(57,.box [.fp (M8 v17),.fp (G9 v18),.aK 501,.int v20,.aK 79,.aK 188] 260),(188,w3 s)]) [1,3,4,8,10,11,12,13,14,61,62,63] [8,14,79,501] (fun _ h g=>?_) ?_
   ·refine I [4] ?_ ?_<;>intro _ h
    ·refine S [8,13] ?_;refine bS cE [(E.length:Int)] ?_;refine A [] fun y h=>?_;refine aM y ?_;exact je
    exact Sj [1] [(188,503)]
   intro v112 h;refine S [2,3] ?_;refine J e0 hn h nl (fun s=>[(14,.box (bd s) 55)]) [1,3,4,8,10,11,12,14,61,62,63] [8,57,79,188,501] (fun _ h g=>?_) ?_
   ·exact F8 [4] [5] [1]
   intro Z h;refine S [8] ?_;refine bS bd [Z] ?_;refine A [] fun z h=>?_;refine aM z ?_;exact je [(505,79)]
  rintro⟨v45,v46,v47,v48,v49,v50,v51⟩ h;refine S [5] ?_;refine MF (AN (M7 p L) ?_);exact le (v45,v46,v47,v48,v49,v50,v51) [(501,203),(502,505),(503,188)]
 rintro⟨v31,v32,v33,v34,v35,v36,v37⟩ h;refine Ir [2,3,4] [3,7] fun _ h=>?_;refine S [1,2,3] ?_;refine J2 fun C=>?_;refine LR e0 hn v33 (fun l k v=>k8 N v35 v36 l k v) h (fun e v=>[(215,.int (e:Int))]) (fun e v=>[(501,cQ v)]) [1,4,8,10,11,213,214] [8,57,502,503] [] nl (fun s=>[(501,cQ s)]) [1,4,8,10,11] [8,57,502,503] ?_ ?_ ?_
 ·intro _ g e q h _;rw[k8] at h;exact Sj [3,2,4,0,20]
 ·intro _ g e q x131 X h _ D _;rw[k8] at h;refine B [3,2,4,0,1,2,6,3] fun x134 f h=>?_;refine bT f ?_;refine V8 (l6 f).2 ?_;refine kd [1,4,8,10,11,17,213,214,215] [8,57,501,502,503] ?_;refine B [8] fun _ i h=>?_;refine bT i ?_;refine V8 (l6 i).2 ?_;refine B [] fun t j h=>?_;refine bT j ?_;refine V8 (l6 j).2 ?_;refine B [] fun a n h=>?_;refine bT n ?_;refine sM (l6 n).2 (⟨a.op,t,a.b,a.c,a.name⟩:Ins) ?_;refine kd [1,4,8,10,11,213,214,215] [8,57,501,502,503] ?_;refine S [5] ?_;refine MF (AN (M7 D C) ?_);exact le (q.set x134.toNat (⟨a.op,t,a.b,a.c,a.name⟩:Ins)) []
 intro v126 h;refine S [2] ?_;refine kd [1,4,8,10,11] [8,57,501,502,503] ?_;refine S [8] ?_;refine j6.ar 501 rfl ?_;exact Sr [7]
def Hc {N a0 a1 r} (h:sY N a0 a1=some r):Spec prog 102 [] [.agg (M8 a0),jC a1] (.aK 0) [(0,oB r)] [0]:=by
 refine so func102 ntmps102 fun C hn=>?_;unfold sY at h;refine S [3,3,2,3] ?_;refine J2 fun n=>?_;refine nR 5 205 5 213 ?_;refine LR e0 hn ([]:List Fs) (fun l k v=>lR N a0 a1 l k v) h (fun j v=>[(13,.int (j:Int))]) (fun j v=>[(205,oB v)]) [1,2,5,12] [2] [] nl (fun s=>[(205,oB s)]) [5] [] ?_ ?_ ?_
 ·intro _ g j w h _;rw[lR] at h;exact Sj [3,2,4,0,20]
 ·intro _ g j w x p h _ b _;rw[lR] at h;refine S [3,2,4,0,1,2,6,3,3] ?_;refine P9 b ?_;refine J2 fun d=>?_;refine LR e0 hn w (fun l k v=>lS N a0 a1 j l k v) h (fun a v=>[(23,.int (a:Int))]) (fun a v=>[(205,oB v)]) [1,2,5,6,12,13,22] [2] [] nl (fun s=>[(205,oB s)]) [1,2,5,12,13] [2] ?_ ?_ ?_
  ·intro _ g a q h _;rw[lS] at h;exact Sj [3,2,4,0,20]
  ·intro _ g a q y m h _ i _;rw[lS] at h;refine S [3,2,4,0,1,2] ?_;refine J e0 hn h (fun s=>[(5,.aK 42)]) (fun s=>[(42,oB s)]) [1,2,6,12,13,22,23] [2] (fun _ h g=>?_) ?_
   ·refine B [6,3,2,8] fun _ e h=>?_;refine cA ((Eu e).sw 0 34) ?_;refine B [] fun o f h=>?_;refine cF (G4 f) ?_;refine kd [1,2,5,6,8,9,12,13,22,23] [2,8,205] ?_;refine S [3] ?_;refine Jk e0 hn h (fun s=>[(5,.aK 42)]) (fun s=>[(42,oB s)]) [1,2,6,12,13,22,23] [2] [] fun _ h g=>?_;refine I [4] ?_ ?_<;>intro _ h
    ·refine S [5] ?_;refine bS eb [o.1] ?_;refine A [] fun c h=>?_;refine aM c ?_;exact je
    exact Sj [1] [(42,205)]
   intro u h;refine S [5] ?_;refine MF (AN (M7 i d) ?_);exact le u [(205,42)]
  intro t h;refine S [5] ?_;refine MF (AN (M7 b n) ?_);exact le t []
 intro z h;exact Sr [3,7] [(0,205)]
def Gl {N a0 a1 a2 b0 r} (h:pR N a0 a1 a2 b0=some r):Spec prog 131 [] [.agg (bU a0),.int a1,.str a2,.fp (M8 b0)] (.aZ [.int r.1,.int r.2]) [] []:=by
 refine so func131 ntmps131 fun b hn=>?_;unfold pR at h;refine B [3,3] fun _ a h=>?_;refine cA (jV a) ?_;exact Sr [7]
def FQ {N a0 a1 r} (h:r8 N a0 a1=some r):Spec prog 47 [(1000,.box [.np 1000,.aK 1001] 99),(1001,w5 a0),(2000,GL)] [.ptr 1000 0,.fp (G9 a1)] (.aZ []) [(1000,.box [.np 1000,.aK 2] 99),(2,w5 r),(1001,.aF),(2000,GL)] [2]:=by
 refine so func47 ntmps47 fun u hn=>?_;unfold r8 at h;refine rB 1000 1 1001 320 ?_;refine B [15,3] fun _ m h=>?_;refine cA (((uD m).sw 1001 320).sw 2 501) ?_;refine S [2] ?_;refine kd [0,1] [501,1000,1001,2000] ?_;refine S [8,13] ?_;refine bS cE [a1.args,a1.a8,a1.aV,(a1.code.length:Int)] ?_;refine B [] fun p n h=>?_;refine cF (((mV n).sw 1001 501).sw 2 502) ?_;refine kd [0,1] [502,1000,1001,2000] ?_;refine S [3] ?_;refine J2 fun j=>?_;refine LR e0 hn p (fun l k v=>V6 N l k v) h (fun f v=>[(37,.int (f:Int))]) (fun f v=>[(502,w5 v)]) [0,35,36] [1000,1001,2000] [] nl (fun s=>[(502,w5 s)]) [0] [1000,1001,2000] ?_ ?_ ?_
 ·intro _ g f t h _;rw[V6] at h;exact Sj [3,2,4,0,20]
 ·intro _ g f t e i h _ b _;rw[V6] at h;refine S [3,2,4,0,1,2] ?_;refine J e0 hn h nl (fun s=>[(504,w5 s),(1000,.box [.np 1000,.aK 504] 99)]) [0,35,36,37] [1001,2000] (fun _ h g=>?_) ?_
  ·refine S [6,3] ?_;refine P9 b ?_;refine S [3] ?_;refine bS cE [e.op,e.a] ?_;refine B [] fun _ c h=>?_;refine cF (((mV c).sw 1001 502).sw 2 503) ?_;refine S [3] ?_;refine Jk e0 hn h nl (fun s=>[(504,w5 s),(1000,.box [.np 1000,.aK 504] 99)]) [0,35,36,37] [1001,2000] [] fun _ h g=>?_;refine I [4] ?_ ?_<;>intro _ h
   ·refine kd [0,5,35,36,37] [5,503,1000,1001,2000] ?_;refine B [5] fun _ d h=>?_;refine cA (((uD d).sw 1001 503).sw 2 504) ?_;exact je
   exact Sj [1] [(504,503)]
  intro o h;refine S [5] ?_;refine MF (AN (M7 b j) ?_);exact le o [(502,504)]
 intro q h;exact Sr [14] [(2,502)]
def Gf {N a0 r} (h:pN N a0=some r):Spec prog 22 [(2000,GL)] [.agg (M8 a0)] (s5 r) [(2000,GL)] []:=by
 refine so func22 ntmps22 fun Γ hn=>?_;unfold pN at h;refine S [3,3] ?_;refine j6.e7 13 [.np 13,.aJ] rfl aT ?_;refine nB 13 1 501 1 5 ?_;refine kd [1,3] [1,13,501,2000] ?_;refine S [3,13] ?_;refine bS cE [a0.aC,(a0.a7.length:Int)] ?_;refine B [] fun Y K h=>?_;refine cF ((((mV K).sw 1000 13).sw 1001 501).sw 2 502) ?_;refine S [2,3] ?_;refine J2 fun J=>?_;refine LR e0 hn Y (fun l k v=>lF N l k v) h (fun E v=>[(25,.int (E:Int))]) (fun E v=>[(502,w5 v)]) [1,3,23,24] [1,13,2000] [] nl (fun s=>[(502,w5 s)]) [1,3] [1,13,2000] ?_ ?_ ?_
 ·intro _ g E Z h _;rw[lF] at h;exact Sj [3,2,4,0,20]
 ·intro _ g E Z j F h _ d _;rw[lF] at h;refine S [3,2,4,0,1,2,6,3] ?_;refine P9 d ?_;refine B [3] fun _ t h=>?_;refine cA ((((uD t).sw 1000 13).sw 1001 502).sw 2 503) ?_;refine S [3,13] ?_;refine bS cE [j.aQ,j.aG,(j.aB.length:Int)] ?_;refine B [] fun L u h=>?_;refine cF ((((mV u).sw 1000 13).sw 1001 503).sw 2 504) ?_;refine kd [1,3,5,23,24,25] [1,5,13,504,2000] ?_;refine S [3] ?_;refine J2 fun o=>?_;refine LR e0 hn L (fun l k v=>lD N l k v) h (fun a v=>[(46,.int (a:Int))]) (fun a v=>[(504,w5 v)]) [1,3,23,24,25,44,45] [1,13,2000] [] nl (fun s=>[(504,w5 s)]) [1,3,23,24,25] [1,13,2000] ?_ ?_ ?_
  ·intro _ g a R h _;rw[lD] at h;exact Sj [3,2,4,0,20]
  ·intro _ g a R x30 G h _ e _;rw[lD] at h;refine S [3,2,4,0,1,2,6,3] ?_;refine P9 e ?_;refine j6.gh (Gh.bA 7 7 rfl rfl rfl) (fun _=>?_);refine kd [1,3,7,23,24,25,44,45,46] [1,13,504,2000] ?_;refine B [5] fun M w h=>?_;refine cA ((((FQ w).sw 1000 13).sw 1001 504).sw 2 505) ?_;refine S [5] ?_;refine MF (AN (M7 e o) ?_);exact le M [(504,505)]
  intro T h;refine S [5] ?_;refine MF (AN (M7 d J) ?_);exact le T [(502,504)]
 intro v8 h;refine S [3,13] ?_;refine bS cE [(a0.heap.length:Int)] ?_;refine B [] fun O x h=>?_;refine cF ((((mV x).sw 1000 13).sw 1001 502).sw 2 506) ?_;refine S [2,3] ?_;refine J2 fun p=>?_;refine LR e0 hn O (fun l k v=>lE N l k v) h (fun b v=>[(63,.int (b:Int))]) (fun b v=>[(506,w5 v)]) [3,61,62] [13,2000] [] nl (fun s=>[(506,w5 s)]) [3] [13,2000] ?_ ?_ ?_
 ·intro _ g b U h _;rw[lE] at h;exact Sj [3,2,4,0,20]
 ·intro _ g b U C H h _ f _;rw[lE] at h;refine S [3,2,4,0,1,2,6,3] ?_;refine P9 f ?_;refine S [3,13] ?_;refine bS cE [C.cls,(C.aG.length:Int)] ?_;refine B [] fun P y h=>?_;refine cF ((((mV y).sw 1000 13).sw 1001 506).sw 2 507) ?_;refine S [3] ?_;refine J2 fun q=>?_;refine LR e0 hn P (fun l k v=>lI N l k v) h (fun c v=>[(78,.int (c:Int))]) (fun c v=>[(507,w5 v)]) [3,61,62,63,76,77] [13,2000] [] nl (fun s=>[(507,w5 s)]) [3,61,62,63] [13,2000] ?_ ?_ ?_
  ·intro _ g c W h _;rw[lI] at h;exact Sj [3,2,4,0,20]
  ·intro _ g c W D I h _ i _;rw[lI] at h;refine S [3,2,4,0,1,2,6,3] ?_;refine P9 i ?_;refine S [5] ?_;refine bS cE [D.k,D.n] ?_;refine B [] fun Q z h=>?_;refine cF ((((mV z).sw 1000 13).sw 1001 507).sw 2 508) ?_;refine kd [3,61,62,63,76,77,78] [13,508,2000] ?_;refine S [5] ?_;refine MF (AN (M7 i q) ?_);exact le Q [(507,508)]
  intro X h;refine S [5] ?_;refine MF (AN (M7 f p) ?_);exact le X [(506,507)]
 intro V h;refine A [3] fun m h=>?_;refine cA (Fw V 13 506 m) ?_;exact Sr [7]
def FT {N a0 r} (h:mc N a0=some r):Spec prog 86 [(1000,.box (W9 a0) 107),(2000,GL)] [.ptr 1000 0] (.agg (G9 r.1)) [(1000,.box (W9 r.2) 107),(2000,GL)] []:=by
 refine so func86 ntmps86 fun F hn=>?_;unfold mc at h;refine B [3,3] fun _ q h=>?_;refine cA (uE q) ?_;refine B [] fun _ t h=>?_;refine cA (L8 t) ?_;refine B [] fun _ u h=>?_;refine cA (L8 u) ?_;refine B [] fun _ w h=>?_;refine cA (L8 w) ?_;refine B [2,3] fun C i h=>?_;refine cA (qw i) ?_;refine nB 3 4 501 5 55 ?_;refine j6.cK 15 rfl (fun c=>?_);refine LU e0 hn (C.2,([]:List Ins)) (fun l k v=>P5 N l k v.1 v.2) h (fun a v=>[(16,.int (a:Int))]) (fun a v=>[(501,cQ v.2),(1000,.box (W9 v.1) 107)]) [0,2,3,15] [2,3,2000] [] nl (fun s=>[(501,cQ s.2),(1000,.box (W9 s.1) 107)]) [0,2,3] [2,3,2000] ?_ ?_ ?_
 ·rintro _ g a ⟨x,o⟩ h _;rw[P5] at h;exact Sj [3,2,4,0,20]
 ·rintro _ g a ⟨x,o⟩ z h b _;rw[P5] at h;refine B [3,2,4,0,1,2,6,3] fun d j h=>?_;refine cA (L8 j) ?_;refine B [] fun e m h=>?_;refine cA (L8 m) ?_;refine S [2,3] ?_;refine J e0 hn h nl (fun s=>[(4,.box [.int d.1,.int e.1,.int (0:Int),.int (0:Int),.str s.2] 55),(1000,.box (W9 s.1) 107)]) [0,2,3,4,15,16] [2,3,501,2000] (fun _ h g=>?_) ?_
  ·refine I [4] ?_ ?_<;>intro _ h
   ·refine B [5] fun _ n h=>?_;refine cA (uE n) ?_;exact je
   exact Sj [1]
  rintro⟨y,p⟩ h;refine S [5] ?_;refine bS bd [(⟨d.1,e.1,(0:Int),(0:Int),p⟩:Ins)] ?_;refine A [] fun f h=>?_;refine aM f ?_;refine S [5] ?_;refine MF (AN (jc b c) ?_);exact le (y,(o++[(⟨d.1,e.1,(0:Int),(0:Int),p⟩:Ins)])) [(501,33)]
 rintro⟨D,E⟩ h;refine S [3] ?_;refine j6.ar 501 rfl ?_;exact Sr [7]
def FX {N a0 r} (h:r9 N a0=some r):Spec prog 51 [(1000,.box (W9 a0) 107),(2000,GL)] [.ptr 1000 0] (.agg (M8 r.1)) [(1000,.box (W9 r.2) 107),(2000,GL)] []:=by
 refine so func51 ntmps51 fun Γ hn=>?_;unfold r9 at h;refine B [3,3] fun _ Y h=>?_;refine cA (L8 Y) ?_;refine B [2,3] fun r3 Z h=>?_;refine cA (qw Z) ?_;refine nB 3 0 501 4 81 ?_;refine j6.cK 10 rfl (fun J=>?_);refine LU e0 hn (r3.2,([]:List Cl)) (fun l k v=>R7 N l k v.1 v.2) h (fun X v=>[(11,.int (X:Int))]) (fun X v=>[(501,oc v.2),(1000,.box (W9 v.1) 107)]) [0,2,3,10] [2,3,2000] [] nl (fun s=>[(501,oc s.2),(1000,.box (W9 s.1) 107)]) [0,2,3] [2,3,2000] ?_ ?_ ?_
 ·rintro _ g X ⟨v6,v7⟩ h _;rw[R7] at h;exact Sj [3,2,4,0,20]
 ·rintro _ g X ⟨v6,v7⟩ n15 h d _;rw[R7] at h;refine B [3,2,4,0,1,2,6,3] fun K x h=>?_;refine cA (uE x) ?_;refine B [] fun L y h=>?_;refine cA (L8 y) ?_;refine B [] fun M z h=>?_;refine cA (L8 z) ?_;refine B [2,3] fun r25 C h=>?_;refine cA (qw C) ?_;refine nB 4 3 502 5 27 ?_;refine j6.cK 21 rfl (fun j=>?_);refine LU e0 hn (r25.2,([]:List Me)) (fun l k v=>K8 N l k v.1 v.2) h (fun a v=>[(22,.int (a:Int))]) (fun a v=>[(502,km v.2),(1000,.box (W9 v.1) 107)]) [0,2,3,4,10,11,21] [2,3,4,501,2000] [] nl (fun s=>[(502,km s.2),(1000,.box (W9 s.1) 107)]) [0,2,3,4,10,11] [2,3,4,501,2000] ?_ ?_ ?_
  ·rintro _ g a ⟨v28,Q⟩ h _;rw[K8] at h;exact Sj [3,2,4,0,20]
  ·rintro _ g a ⟨v28,Q⟩ n37 h e _;rw[K8] at h;refine B [3,2,4,0,1,2,6,8] fun o D h=>?_;refine cA (FT D) ?_;refine bS G9 [o.1] ?_;refine A [] fun q h=>?_;refine aM q ?_;refine S [5] ?_;refine MF (AN (jc e j) ?_);exact le (o.2,(Q++[o.1])) [(502,29)]
  rintro⟨v32,R⟩ h;refine S [5,12] ?_;refine bS fI [(⟨K.1,L.1,M.1,R⟩:Cl)] ?_;refine A [] fun t h=>?_;refine aM t ?_;refine S [5] ?_;refine MF (AN (jc d J) ?_);exact le (v32,(v7++[(⟨K.1,L.1,M.1,R⟩:Cl)])) [(501,36)]
 rintro⟨v10,v11⟩ h;refine B [2,3] fun r45 E h=>?_;refine cA (qw E) ?_;refine nB 3 1 503 2 92 ?_;refine j6.cK 40 rfl (fun m=>?_);refine LU e0 hn (r45.2,([]:List Ob)) (fun l k v=>R4 N l k v.1 v.2) h (fun b v=>[(41,.int (b:Int))]) (fun b v=>[(503,EY v.2),(1000,.box (W9 v.1) 107)]) [0,2,3,40] [2,3,501,2000] [] nl (fun s=>[(503,EY s.2),(1000,.box (W9 s.1) 107)]) [0,2,3] [2,3,501,2000] ?_ ?_ ?_
 ·rintro _ g b ⟨v48,T⟩ h _;rw[R4] at h;exact Sj [3,2,4,0,20]
 ·rintro _ g b ⟨v48,T⟩ n57 h f _;rw[R4] at h;refine B [3,2,4,0,1,2,6,3] fun O F h=>?_;refine cA (L8 F) ?_;refine B [2,3] fun r63 G h=>?_;refine cA (qw G) ?_;refine nB 5 1 504 2 29 ?_;refine j6.cK 47 rfl (fun n=>?_);refine LU e0 hn (r63.2,([]:List V)) (fun l k v=>K6 N l k v.1 v.2) h (fun c v=>[(48,.int (c:Int))]) (fun c v=>[(504,iZ v.2),(1000,.box (W9 v.1) 107)]) [0,2,3,5,40,41,47] [2,3,5,501,503,2000] [] nl (fun s=>[(504,iZ s.2),(1000,.box (W9 s.1) 107)]) [0,2,3,5,40,41] [2,3,5,501,503,2000] ?_ ?_ ?_
  ·rintro _ g c ⟨v66,U⟩ h _;rw[K6] at h;exact Sj [3,2,4,0,20]
  ·rintro _ g c ⟨v66,U⟩ n75 h i _;rw[K6] at h;refine B [3,2,4,0,1,2,6,8] fun P H h=>?_;refine cA (L8 H) ?_;refine B [] fun p I h=>?_;refine cA (L8 I) ?_;refine bS eV [(⟨P.1,p.1⟩:V)] ?_;refine A [] fun u h=>?_;refine aM u ?_;refine kd [0,2,3,5,40,41,47,48] [2,3,5,58,501,503,1000,2000] ?_;refine S [5] ?_;refine MF (AN (jc i n) ?_);exact le (p.2,(U++[(⟨P.1,p.1⟩:V)])) [(504,58)]
  rintro⟨v70,W⟩ h;refine S [5,12] ?_;refine bS hF [(⟨O.1,W⟩:Ob)] ?_;refine A [] fun w h=>?_;refine aM w ?_;refine S [5] ?_;refine MF (AN (jc f m) ?_);exact le (v70,(T++[(⟨O.1,W⟩:Ob)])) [(503,65)]
 rintro⟨v52,v53⟩ h;refine S [3] ?_;refine j6.ar 501 rfl ?_;refine j6.ar 503 rfl ?_;exact Sr [7]
def HQ {N a0 a1 r} (h:pf N a0 a1=some r):Spec prog 38 [] [.fp (M8 a0),.fp (G9 a1)] (.bool r) [] []:=by
 refine so func38 ntmps38 fun e hn=>?_;unfold pf at h;refine B [3,2,8] fun _ a h=>?_;refine cA (jV a) ?_;refine S [2] ?_;refine Jb 4 hn h [] [] (fun _ h g=>?_) ?_
 ·refine kd [0,1,6] [] ?_;refine I [8] ?_ ?_<;>intro _ h
  ·refine B [0] fun _ b h=>?_;refine G6 b ?_;refine B [0] fun _ c h=>?_;refine G6 c ?_;refine I [0] ?_ ?_<;>intro _ h
   ·refine I [0] ?_ ?_<;>intro _ h
    ·exact F8 [0] [0,13,0] [0]
    exact Sj [0]
   exact Sj [0]
  exact Sj [0]
 intro d h;exact Sr [7]
def HD {N a0 r} (h:uS N a0=some r):Spec prog 40 [] [.fp (M8 a0)] (.int r) [] []:=by
 refine so func40 ntmps40 fun t hn=>?_;unfold uS at h;refine S [3,2,3] ?_;refine J2 fun n=>?_;refine LR e1 hn () (fun l k v=>nH N a0 l k) h (fun j v=>[(13,.int (j:Int))]) (fun j v=>[]) [0,11,12] [] [] nl nl [] [] ?_ ?_ ?_
 ·intro _ g j _ h _;rw[nH] at h;exact Sj [3,2,4,0,20]
 ·intro _ g j _ s o h _ i _;rw[nH] at h;refine S [3,2,4,0,1,2,6,3] ?_;refine P9 i ?_;refine S [2,2] ?_;refine Jb 46 hn h [0,4,11,12,13] [4] (fun _ h g=>?_) ?_
  ·refine kd [0,4,11,12,13] [4] ?_;refine I [8] ?_ ?_<;>intro _ h
   ·refine Ij [0] [0] fun _ h=>?_;refine Ij [0,13,0] [0] fun _ h=>?_;refine B [0,13,0] fun _ d h=>?_;refine cA (mq d) ?_;exact Sj [0]
   refine B [0,13] fun _ e h=>?_;refine cA (mq e) ?_;exact je
  intro p h;refine Ir [4] [3,7] fun _ h=>?_;refine S [1,3] ?_;refine J2 fun c=>?_;refine LR e1 hn () (fun l k v=>nM N a0 l k) h (fun a v=>[(50,.int (a:Int))]) (fun a v=>[]) [0,11,12,13,48,49] [] [] nl nl [0,11,12,13] [] ?_ ?_ ?_
  ·intro _ g a _ h _;rw[nM] at h;exact Sj [3,2,4,0,20]
  ·intro _ g a _ q m h _ b _;rw[nM] at h;refine S [3,2,4,0,1,2,6,3] ?_;refine P9 b ?_;refine B [2,8,13] fun _ f h=>?_;refine cA (Ac f) ?_;refine kd [0,7,11,12,13,48,49,50] [] ?_;refine Ir [3,4] [3,7] fun _ h=>?_;refine S [1,5] ?_;refine MF (AN (M7 b c) ?_);exact le () []
  rintro⟨⟩ h;refine S [5] ?_;refine MF (AN (M7 i n) ?_);exact le () []
 rintro⟨⟩ h;exact Sr [3,7]
def Gx {N a0 r} (h:pS N a0=some r):Spec prog 20 [] [.agg (M8 a0)] (.int r) [] []:=by
 refine so func20 ntmps20 fun T hn=>?_;unfold pS at h;refine B [3,3] fun F E h=>?_;refine cA (BF N _ E) ?_;refine S [2,2] ?_;refine Jb 31 hn h [1,3] [1,3] (fun _ h g=>?_) ?_
 ·refine Ij [5,13,13] [0] fun _ h=>?_;exact F8 [0,13,0] [0] [0,13,0]
 intro R h;refine Ir [4] [3,7] fun _ h=>?_;refine S [1,2,2] ?_;refine Jb 39 hn h [1,3] [1,3] (fun _ h g=>?_) ?_
 ·exact F8 [5] [0] [0]
 intro K h;refine Ir [4] [3,7] fun _ h=>?_;refine S [1,3,2,3] ?_;refine J2 fun o=>?_;refine LR e1 hn ([]:(List (ByteArray×Bool))) (fun l k v=>my N F l k v) h (fun b v=>[(44,.int (b:Int))]) (fun b v=>[(40,.bc (MJ mD v))]) [1,3,4,42,43] [1,3] [] nl nl [1,3] [1,3] ?_ ?_ ?_
 ·intro _ g b y h _;rw[my] at h;exact Sj [3,2,4,0,20]
 ·intro _ g b y G z h _ d _;rw[my] at h;refine S [3,2,4,0,1,2,6,3] ?_;refine P9 d ?_;refine S [2,2] ?_;refine Jb 76 hn h [1,3,4,5,6,42,43,44] [1,3,6,40] (fun _ h g=>?_) ?_
  ·refine kd [1,3,4,5,6,42,43,44] [1,3,6,40] ?_;refine B [8] fun _ s h=>?_;refine cA (qp s) ?_;refine Ij [] [0] fun _ h=>?_;refine S [0] ?_;refine La rfl rfl rfl rfl ?_;refine Ij [0] [0] fun _ h=>?_;refine I [0,13,0] ?_ ?_<;>intro _ h
   ·refine B [0] fun _ u h=>?_;refine G6 u ?_;exact Sj [0]
   exact Sj [0]
  intro L h;refine Ir [4] [3,7] fun _ h=>?_;refine A [1,3] fun n h=>?_;refine Hl rfl rfl n ?_;refine S [2] ?_;refine Jb 138 hn h [1,3,4,42,43,44] [1,3,40] (fun _ h g=>?_) ?_
  ·refine kd [1,3,4,5,6,42,43,44] [1,3,6,40] ?_;refine I [8,13] ?_ ?_<;>intro _ h
   ·refine B [0] fun _ w h=>?_;refine G6 w ?_;refine Ij [0] [0] fun _ h=>?_;refine Ij [0] [0] fun _ h=>?_;refine I [0,13,0] ?_ ?_<;>intro _ h
    ·refine Ij [0] [0] fun _ h=>?_;refine Ij [0] [0] fun _ h=>?_;refine I [0] ?_ ?_<;>intro _ h
     ·refine Ij [0] [0] fun _ h=>?_;exact F8 [0] [0] [0]
     exact F8 [0] [0] [0]
    exact F8 [0] [0] [0]
   refine I [0,13] ?_ ?_<;>intro _ h
   ·refine Ij [0] [0] fun _ h=>?_;refine Ij [0] [0] fun _ h=>?_;refine I [0] ?_ ?_<;>intro _ h
    ·refine Ij [0] [0] fun _ h=>?_;exact F8 [0] [0] [0]
    exact F8 [0] [0] [0]
   exact F8 [0] [0] [0]
  intro M h;refine Ir [4] [3,7] fun _ h=>?_;refine S [1,5] ?_;refine MF (AN (M7 d o) ?_);exact le (eM G.name true y) []
 rintro⟨⟩ h;refine S [2,3] ?_;refine J2 fun p=>?_;refine j6.gh (Gh.bA 3 3 rfl rfl rfl) (fun _=>?_);refine LR e1 hn () (fun l k v=>n5 N a0 F l k) h (fun a v=>[(143,.int (a:Int))]) (fun a v=>[]) [1,3,141,142] [1] [] nl nl [1] [1] ?_ ?_ ?_
 ·intro _ g a _ h _;rw[n5] at h;exact Sj [3,2,4,0,20]
 ·intro _ g a _ H C h _ e _;rw[n5] at h;refine S [3,2,4,0,1,2,6,3] ?_;refine P9 e ?_;refine B [2,3] fun _ t h=>?_;refine cA (mq t) ?_;refine Ir [4] [3,7] fun _ h=>?_;refine I [1,2,3,13,4] ?_ ?_<;>intro _ h
  ·refine kd [] [] ?_;exact Sr [3,7]
  refine S [1] ?_;refine kd [1,3,7,8,141,142,143] [1,8] ?_;refine S [3] ?_;refine J2 fun q=>?_;refine LR e1 hn () (fun l k v=>nE N a0 F a H l k) h (fun c v=>[(159,.int (c:Int))]) (fun c v=>[]) [1,3,7,8,141,142,143,157,158] [1,8] [] nl nl [1,3,141,142,143] [1] ?_ ?_ ?_
  ·intro _ g c _ h _;rw[nE] at h;exact Sj [3,2,4,0,20]
  ·intro _ g c _ Q D h _ f _;rw[nE] at h;refine S [3,2,4,0,1,2] ?_;refine J e1 hn h nl nl [1,3,7,8,141,142,143,157,158,159] [1,8] (fun _ h g=>?_) ?_
   ·refine S [6,3] ?_;refine P9 f ?_;refine S [2,2] ?_;refine Jb 177 hn h [1,3,7,8,10,141,142,143,157,158,159] [1,8,10] (fun _ h g=>?_) ?_
    ·refine I [8] ?_ ?_<;>intro _ h
     ·refine B [0,12,0] fun _ x h=>?_;refine G6 x ?_;exact Sj [0]
     exact Sj [0]
    intro O h;refine Ir [4] [3,7] fun _ h=>?_;refine S [1,2,2] ?_;refine j6.gh (Gh.bA 10 10 rfl rfl rfl) (fun _=>?_);refine Jb 187 hn h [1,3,7,8,10,141,142,143,157,158,159] [1,8] (fun _ h g=>?_) ?_
    ·refine I [5] ?_ ?_<;>intro _ h
     ·refine I [0] ?_ ?_<;>intro _ h
      ·refine B [] fun _ i h=>?_;refine cA (HQ i) ?_;exact Sj [0]
      exact Sj [0]
     exact Sj [0]
    intro P h;refine Ij [4] [20] fun _ h=>?_;refine B [1,3] fun _ j h=>?_;refine cA (B3 j) ?_;refine kd [1,3,7,8,11,141,142,143,157,158,159] [1,8,11] ?_;refine Ir [3,4] [3,7] fun _ h=>?_;exact Sj [1]
   rintro⟨⟩ h;refine S [5] ?_;refine MF (AN (M7 f q) ?_);exact le () []
  rintro⟨⟩ h;refine S [5] ?_;refine MF (AN (M7 e p) ?_);exact le () []
 rintro⟨⟩ h;refine j6.gh (Gh.bA 1 1 rfl rfl rfl) (fun _=>?_);refine kd [1] [] ?_;refine B [3] fun _ m h=>?_;refine cA (HD m) ?_;exact Sr [7]
def Ge {N a0 r} (h:lT N a0=some r):Spec prog 24 [(2000,GL)] [s5 a0] (.aZ [.agg (M8 r.1),.int r.2]) [(2000,GL)] []:=by
 refine so func24 ntmps24 fun d hn=>?_;unfold lT at h;refine S [3,3] ?_;refine Exists.intro a0 (AN rfl ?_);refine B [3] fun _ a h=>?_;refine cA ((FX a).sw 1000 10) ?_;refine S [2,2] ?_;refine Jb 24 hn h [2,5] [2,5,2000] (fun _ h g=>?_) ?_
 ·exact F8 [5] [0] [0]
 intro c h;refine Ir [4] [3,7] fun _ h=>?_;refine B [1,2,3] fun _ b h=>?_;refine cA (Gx b) ?_;exact ia [3,4] [3,7] [1,3,7]
def FB {N a0 r} (h:ui N a0=some r):Spec prog 68 [(1000,.box (Y7 a0) 45),(2000,GL)] [.ptr 1000 0] (.agg (nf r.1)) [(1000,.box (Y7 r.2) 45),(2000,GL)] []:=by
 refine so func68 ntmps68 fun b hn=>?_;unfold ui at h;refine Ir [3,2,3,13,4] [3,7] fun _ h=>?_;refine B [1,3] fun _ a h=>?_;refine cA (Ge a) ?_;refine S [2] ?_;refine kd [0,2,3,4] [2,3,1000,2000] ?_;refine Ir [3,4] [3,7] fun _ h=>?_;refine S [1,2,8,12,3] ?_;refine kd [0,2] [2,1000,2000] ?_;exact Sr [3,7]
end
end Go.Proofs.YtibjcppjfkamhaaGreatDoor
