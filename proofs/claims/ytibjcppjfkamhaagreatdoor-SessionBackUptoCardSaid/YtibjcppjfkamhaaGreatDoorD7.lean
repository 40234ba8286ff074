import Derived.Test.YtibjcppjfkamhaaGreatDoorD4
import Derived.Test.YtibjcppjfkamhaaGreatDoorD5
import Derived.Test.YtibjcppjfkamhaaGreatDoorD6
set_option linter.unusedVariables false
set_option linter.defProp false
set_option linter.unusedSimpArgs false
namespace Go.Proofs.YtibjcppjfkamhaaGreatDoor
open Go.RowKit Go.Proofs.Tryz
open _root_.And renaming intro->AN
open _root_.Bool renaming and_eq_true->IT
open _root_.ByteArray renaming empty->BY
open _root_.List renaming getElem?_eq_some_iff->Lx,replicate->MC,map->MF,mem_of_getElem?->MI,all_eq_true->MK,length_map->MP,getElem?_set->MQ,getElem?_append_right->MS,length_take->Mk
open _root_.Nat renaming ble->IN,le_refl->It,le_of_ble_eq_true->MR,mul_le_mul_right->Ml
open _root_.Or renaming inl->MA
section
set_option maxHeartbeats 40000000
set_option maxRecDepth 100000
def Gq {N a0 a1 a2 a3 a4 r} (h:sP N a0 a1 a2 a3 a4=some r):Spec prog 100 [] [.agg (Q7 a0),.agg (kR a1),.int a2,ke a3,jA a4] (.agg (eL r)) [] []:=by
 refine so func100 ntmps100 fun e hn=>?_;unfold sP at h;refine B [3,3] fun _ b h=>?_;refine cA ((uj b).sw 0 13) ?_;refine B [] fun _ c h=>?_;refine cA ((BR c).sw 0 15) ?_;refine j6.gh (Gh.bF 5 5 rfl rfl rfl) (fun _=>?_);refine j6.eC 11 [E9 ([]:List Cl),jN ([]:List Ob),.int (0:Int),.int (0:Int),.int (0:Int),.int (0:Int),.int (0:Int),.aL 13,.aL 15,.int (0:Int),.int (0:Int)] rfl aT ?_;refine j6.ax 13 rfl ?_;refine j6.ax 15 rfl ?_;refine kd [2,5,6,10,11] [6,10,11] ?_;refine B [3] fun _ d h=>?_;refine cA ((Fw d (fun _ _ _ _ _ a=>(GI a).sw 1048 1055) (fun _ _ _ a=>BX a)).sw 1055 11) ?_;exact Sr [3,7]
def FB {N a0 a1 a2 r} (h:ri N a0 a1 a2=some r):Spec prog 67 [(1000,.box (O3 a0) 45)] [.ptr 1000 0,.int a1,.agg (kR a2)] (.agg (nb r.1)) [(1000,.box (O3 r.2) 45)] []:=by
 refine so func67 ntmps67 fun A hn=>?_;unfold ri at h;refine S [3,3,2,3] ?_;refine J e0 hn h (fun s=>[]) (fun s=>[(7,.box (lX s.2.2.2.2.2) 151),(1000,.box [E9 s.1,jN s.2.1,.int s.2.2.1,ke s.2.2.2.1,jA s.2.2.2.2.1,s5 a0.saved] 45)]) [0,6,7] [6] (fun _ h g=>?_) ?_
 ·refine S [6,3] ?_;refine J e0 hn h (fun s=>[]) (fun s=>[(7,.box (lX s.2.2.2.2.2) 151),(1000,.box [E9 s.1,jN s.2.1,.int s.2.2.1,ke s.2.2.2.1,jA s.2.2.2.2.1,s5 a0.saved] 45)]) [0,6,7] [6] (fun _ h g=>?_) ?_
  ·refine I [4] ?_ ?_<;>intro _ h
   ·refine B [8] fun _ a h=>?_;refine cA (HK a) ?_;exact je
   refine S [3] ?_;refine J e0 hn h (fun s=>[]) (fun s=>[(7,.box (lX s.2.2.2.2.2) 151),(1000,.box [E9 s.1,jN s.2.1,.int s.2.2.1,ke s.2.2.2.1,jA s.2.2.2.2.1,s5 a0.saved] 45)]) [0,6,7] [6] (fun _ h g=>?_) ?_
   ·refine I [4] ?_ ?_<;>intro _ h
    ·refine B [2,8] fun _ b h=>?_;refine cA (Gq b) ?_;refine kd [0,6,7,8] [6,7,8,1000] ?_;exact Sj [8]
    refine kd [0,5,6,7] [5,6,7,1000] ?_;refine B [8] fun _ c h=>?_;refine cA ((HY c).sw 0 25) ?_;refine B [] fun _ d h=>?_;refine cF (HU d) ?_;exact je
   rintro⟨k,l,m,n,o,p⟩ h;exact je
  rintro⟨y,z,e,f,i,j⟩ h;exact je
 rintro⟨q,t,u,v,w,x⟩ h;exact Sr [3,7]
def om {N a0 a1 r} (h:jX N a0 a1=some r):Spec prog 33 [(2000,GL)] [.agg (O3 a0),.agg (tM a1)] (.ab [.agg (O3 r.1),.agg (nb r.2)]) [(2000,GL)] []:=by
 refine so func33 ntmps33 fun l hn=>?_;unfold jX at h;refine B [3,3] fun _ e h=>?_;refine cA (Aq e) ?_;refine I [2,3,6,3,4] ?_ ?_<;>intro _ h
 ·refine B [3] fun _ f h=>?_;refine cA (Gw f) ?_;refine S [2] ?_;refine kd [4,5,6,7,8,9] [4,5,6,7,2000] ?_;refine I [3,4] ?_ ?_<;>intro _ h
  ·exact Sr [3,7]
  exact Sr [1,3,3,7]
 refine I [3,4] ?_ ?_<;>intro _ h
 ·refine B [3] fun _ i h=>?_;refine cA ((Fx i).sw 1000 6) ?_;refine S [2] ?_;refine kd [4,5,6,10] [4,5,6,10,2000] ?_;exact Sr [8,7]
 refine I [3,4] ?_ ?_<;>intro _ h
 ·refine kd [3,4,5,6] [3,4,5,6,2000] ?_;refine B [3] fun _ a h=>?_;refine cA ((FK a).sw 1000 6) ?_;exact Sr [2,8,7]
 refine S [2] ?_;refine kd [2,3,4,5,6,17] [2,3,4,5,6,2000] ?_;refine S [3] ?_;refine Jb 59 hn h [2,3,4,5,6,17] [2,3,4,5,6,2000] (fun _ h g=>?_) ?_
 ·refine I [4] ?_ ?_<;>intro _ h
  ·exact Sj [1]
  refine S [3] ?_;refine Jb 59 hn h [2,3,4,5,6,17] [2,3,4,5,6,2000] (fun _ h g=>?_) ?_
  ·refine I [4] ?_ ?_<;>intro _ h
   ·exact Sj [1]
   exact Sj [5]
  intro k h;exact je
 intro j h;refine I [4] ?_ ?_<;>intro _ h
 ·refine B [3] fun _ b h=>?_;refine cA ((FB b).sw 1000 6) ?_;exact Sr [2,8,7]
 refine I [3,4] ?_ ?_<;>intro _ h
 ·refine B [3] fun _ c h=>?_;refine cA (Ge c) ?_;exact Sr [2,8,13,7]
 refine I [3,4] ?_ ?_<;>intro _ h
 ·refine B [3] fun _ d h=>?_;refine cA ((FO d).sw 1000 6) ?_;exact Sr [2,8,7]
 exact Sr [1,3,7]
def FL {N a0 r} (h:wG N a0=some r):Spec prog 17 [(2000,GL)] [zO a0] (.ab [.agg (O3 r.1),.aL 0,.int r.2.2]) [(0,zU r.2.1),(2000,GL)] [0]:=by
 refine so func17 ntmps17 fun u hn=>?_;unfold wG at h;refine I [3,2,3,13,4] ?_ ?_<;>intro _ h
 ·refine S [3] ?_;refine nR 3 203 4 51 ?_;exact Sr [7] [(0,203)]
 refine B [1,3] fun n j h=>?_;refine cA (wX j) ?_;refine S [3,2,3] ?_;refine O1 fun i=>?_;refine nR 6 206 4 51 ?_;refine LR e0 hn (n,([]:List fG)) (fun l k v=>rM N l k v.1 v.2) h (fun e v=>[(18,.int (e:Int))]) (fun e v=>[(5,.box (O3 v.1) 45),(206,zU v.2)]) [2,5,6,16,17] [2,2000] [] (fun s=>[]) (fun s=>[(5,.box (O3 s.1) 45),(206,zU s.2)]) [2,5,6] [2,2000] ?_ ?_ ?_
 ·rintro _ g e ⟨q,m⟩ h _;rw[rM] at h;exact Sj [3,2,4,0,20]
 ·rintro _ g e ⟨q,m⟩ t f h _ a _;rw[rM] at h;refine S [3,2,4,0,1,2,6,3] ?_;refine W9 a ?_;refine B [3] fun b d h=>?_;refine cA (om d) ?_;refine kd [2,5,6,9,10,16,17,18] [2,5,9,10,206,2000] ?_;refine S [3,5] ?_;refine bS nb [b.2] ?_;refine A [] fun c h=>?_;refine aM c ?_;refine S [5] ?_;refine MA (AN (U9 a i) ?_);exact le (b.1,(m++[b.2])) [(206,32)]
 rintro⟨o,p⟩ h;exact Sr [3,7] [(0,206)]
def GD {N r} (h:qy N =some r):Spec prog 32 [(2000,GL)] [] (.bool r) [(2000,GL)] []:=by
 refine so func32 ntmps32 fun k hn=>?_;unfold qy at h;refine S [3,3] ?_;refine bS eV [(⟨(3:Int),(5:Int)⟩:V)] ?_;refine bS tM [(⟨(1:Int),(⟨#[65]⟩:ByteArray),(0:Int),(1:Int),(⟨BY,(0:Int),(0:Int),(0:Int),[]⟩:Me),(⟨(⟨(0:Int),(0:Int)⟩:V),BY,[]⟩:O8)⟩:cK),(⟨(3:Int),BY,(4:Int),(0:Int),(⟨BY,(0:Int),(0:Int),(0:Int),[]⟩:Me),(⟨(⟨(0:Int),(0:Int)⟩:V),BY,[]⟩:O8)⟩:cK),(⟨(7:Int),BY,(0:Int),(0:Int),(⟨BY,(0:Int),(0:Int),(0:Int),[]⟩:Me),(⟨(⟨(0:Int),(0:Int)⟩:V),BY,[]⟩:O8)⟩:cK),(⟨(4:Int),BY,(0:Int),(0:Int),(⟨BY,(0:Int),(0:Int),(0:Int),[]⟩:Me),(⟨(⟨(3:Int),(2:Int)⟩:V),(⟨#[43]⟩:ByteArray),[(⟨(3:Int),(5:Int)⟩:V)]⟩:O8)⟩:cK),(⟨(8:Int),BY,(0:Int),(0:Int),(⟨BY,(0:Int),(0:Int),(0:Int),[]⟩:Me),(⟨(⟨(0:Int),(0:Int)⟩:V),BY,[]⟩:O8)⟩:cK)] ?_;refine B [] fun _ e h=>?_;refine cF ((FL e).sw 0 17) ?_;refine kd [1,2,3] [1,17,2000] ?_;refine B [3] fun _ f h=>?_;refine cA (wX f) ?_;refine B [] fun _ i h=>?_;refine cA (om i) ?_;refine S [2] ?_;refine Jb 0 hn h [] [2000] (fun _ h g=>?_) ?_
 ·refine I [5] ?_ ?_<;>intro _ h
  ·refine I [0,13,0] ?_ ?_<;>intro _ h
   ·refine B [0] fun _ a h=>?_;refine X8 a ?_;refine S [0] ?_;refine K6 (l6 a).2 ?_;refine I [0] ?_ ?_<;>intro _ h
    ·refine B [0] fun _ b h=>?_;refine X8 b ?_;refine S [0] ?_;refine K6 (l6 b).2 ?_;refine I [0] ?_ ?_<;>intro _ h
     ·refine B [0] fun _ c h=>?_;refine X8 c ?_;refine S [0] ?_;refine K6 (l6 c).2 ?_;refine I [0] ?_ ?_<;>intro _ h
      ·refine I [0,13,0] ?_ ?_<;>intro _ h
       ·refine I [0] ?_ ?_<;>intro _ h
        ·refine I [0,13,0] ?_ ?_<;>intro _ h
         ·refine B [0] fun _ d h=>?_;refine cA (Aq d) ?_;exact Sj [0,13,0]
         exact Sj [0]
        exact Sj [0]
       exact Sj [0]
      exact Sj [0]
     exact Sj [0]
    exact Sj [0]
   exact Sj [0]
  exact Sj [0]
 intro j h;exact Sr [7]
def Ep {N a0 a1 r} (h:uC N a0 a1=some r):Spec prog 9 [(2000,GL)] [zO a0,zO a1] (.bool r) [(2000,GL)] []:=by
 refine so func9 ntmps9 fun L hn=>?_;unfold uC at h;refine B [3,2,3] fun _ t h=>?_;refine cA (GD t) ?_;refine I [4] ?_ ?_<;>intro _ h
 ·exact Sr [3,7]
 refine I [1,2,3,13,13,12,4] ?_ ?_<;>intro _ h
 ·exact Sr [3,7]
 refine B [1,3] fun C u h=>?_;refine cA (wX u) ?_;refine S [2,3] ?_;refine O1 fun q=>?_;refine LR e0 hn C (fun l k v=>X7 N l k v) h (fun a v=>[(24,.int (a:Int))]) (fun a v=>[(5,.box (O3 v) 45)]) [1,5,22,23] [2000] [] (fun s=>[]) (fun s=>[(5,.box (O3 s) 45)]) [1,5] [2000] ?_ ?_ ?_
 ·intro _ g a y h _;rw[X7] at h;exact Sj [3,2,4,0,20]
 ·intro _ g a y H o h _ c _;rw[X7] at h;refine S [3,2,4,0,1,2,6,3] ?_;refine W9 c ?_;refine B [5] fun w f h=>?_;refine cA (om f) ?_;refine S [5] ?_;refine MA (AN (U9 c q) ?_);exact le w.1 []
 intro D h;refine B [3] fun x i h=>?_;refine cA (om i) ?_;refine I [2,3,4] ?_ ?_<;>intro _ h
 ·exact Sr [3,7]
 refine S [1,2,3] ?_;refine O1 fun e=>?_;refine LR e0 hn x.1 (fun l k v=>U0 N l k v) h (fun b v=>[(46,.int (b:Int))]) (fun b v=>[(8,.box (O3 v) 45)]) [5,8,9,44,45] [5,9,2000] [] (fun s=>[]) (fun s=>[(8,.box (O3 s) 45)]) [5,8,9] [5,9,2000] ?_ ?_ ?_
 ·intro _ g b z h _;rw[U0] at h;exact Sj [3,2,4,0,20]
 ·intro _ g b z K p h _ d _;rw[U0] at h;refine S [3,2,4,0,1,2] ?_;refine J e0 hn h (fun s=>[]) (fun s=>[(8,.box (O3 s) 45)]) [5,8,9,44,45,46] [5,9,2000] (fun _ h g=>?_) ?_
  ·refine S [6,3] ?_;refine W9 d ?_;refine S [3] ?_;refine J e0 hn h (fun s=>[]) (fun s=>[(8,.box (O3 s) 45)]) [5,8,9,44,45,46] [5,9,2000] (fun _ h g=>?_) ?_
   ·refine I [4] ?_ ?_<;>intro _ h
    ·refine B [5] fun _ j h=>?_;refine cA (om j) ?_;exact je
    exact Sj [1]
   intro F h;exact je
  intro A h;refine S [5] ?_;refine MA (AN (U9 d e) ?_);exact le A []
 intro E h;refine B [3] fun _ m h=>?_;refine cA (om m) ?_;refine S [3,3,2] ?_;refine Jb 4 hn h [] [2000] (fun _ h g=>?_) ?_
 ·refine I [5] ?_ ?_<;>intro _ h
  ·refine I [0] ?_ ?_<;>intro _ h
   ·refine B [0] fun _ n h=>?_;refine cA (Fm n) ?_;exact Sj [0]
   exact Sj [0]
  exact Sj [0]
 intro G h;exact Sr [7]
end
end Go.Proofs.YtibjcppjfkamhaaGreatDoor
