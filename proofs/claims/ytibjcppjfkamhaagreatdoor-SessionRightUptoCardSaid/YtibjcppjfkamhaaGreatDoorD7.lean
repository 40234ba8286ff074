import Derived.Test.YtibjcppjfkamhaaGreatDoorD4
import Derived.Test.YtibjcppjfkamhaaGreatDoorD5
import Derived.Test.YtibjcppjfkamhaaGreatDoorD6
set_option linter.unusedVariables false
set_option linter.defProp false
set_option linter.unusedSimpArgs false
namespace Go.Proofs.YtibjcppjfkamhaaGreatDoor
open Go.RowKit Go.Proofs.Tryz
open _root_.And renaming intro->AN
open _root_.Bool renaming and_eq_true->IT
open _root_.ByteArray renaming empty->BY
open _root_.List renaming getElem?_eq_some_iff->ME,replicate->MI,map->MJ,mem_of_getElem?->MP,all_eq_true->MR,length_map->MW,getElem?_set->MY,getElem?_append_right->Ma,length_take->Mq
open _root_.Nat renaming ble->IN,le_refl->It,le_of_ble_eq_true->MZ,mul_le_mul_right->Mt
open _root_.Or renaming inl->MF
section
set_option maxHeartbeats 40000000
set_option maxRecDepth 100000
def HL {N a0 a1 a2 r} (h:sK N a0 a1 a2=some r):Spec prog 99 [] [.agg (M8 a0),.agg (kN a1),.int a2] (.aZ [.agg (M8 r.1),.agg (lj r.2)]) [] []:=by
 refine so func99 ntmps99 fun c hn=>?_;unfold sK at h;refine S [3] ?_;refine j6.gh (Gh.bA 3 3 rfl rfl rfl) (fun _=>?_);refine kd [2,3,4,6,7] [4,6,7] ?_;refine B [3] fun _ b h=>?_;refine cA (G0 b (fun _ _ _ _ a=>GZ a) (fun _ _ _ a=>BU a)) ?_;exact Sr [7]
def Fy {N a0 a1 a2 g3 sb g4 r} (h:mT N a0 a1 a2 g3 sb g4=some r) {i:Nat} {b:List AV} (y:∀c d f x e,g3 c d f x=some e->Spec prog i [(1055,.box (eF x) 153)] [.agg (bU c),.int d,.str f,.ptr 1055 0,.fp b] (.aZ [.int e.1,.int e.2.1]) [(1055,.box (eF e.2.2) 153)] []) {j:Nat} (m:∀c d e,g4 c d=some e->Spec prog j [] [.int c,.int d] (.aZ [.agg (eb e.1),.bool e.2]) [] []):Spec prog 125 [(1055,.box (eF sb) 153)] [.agg (M8 a0),.agg (kN a1),.int a2,.fn i [.ptr 1055 0,.fp b],.fn j []] (.aZ [.agg (M8 r.1),.agg (lj r.2.1)]) [(1055,.box (eF r.2.2) 153)] []:=by
 refine so func125 ntmps125 fun Γ hn=>?_;unfold mT at h;refine B [3,2,3] fun _ z h=>?_;refine cA (wA z) ?_;refine I [3,4] ?_ ?_<;>intro _ h
 ·refine B [3] fun _ A h=>?_;refine cA (((jW A).sw 0 24).sw 1 724) ?_;refine j6.ay 24 rfl ?_;exact Sr [7]
 refine B [1,3] fun E C h=>?_;refine cA (((jW C).sw 0 28).sw 1 728) ?_;refine kd [2,3,4,5,6,10,11,13] [5,6,10,11,13,28,728,1055] ?_;refine B [3,2,2,8] fun _ D h=>?_;refine cD (mw D) ?_;refine B [] fun _ o h=>?_;refine cD (jV o) ?_;refine kd [3,4,5,6,10,11,13,14,15,16] [5,6,10,11,13,28,33,728,1055] ?_;refine S [3] ?_;refine nB 33 6 501 10 288 ?_;refine gC (gT 501 502 [(7,(2,29)),(8,(2,29))]) ?_;refine J e0 hn h nl (fun s=>[(33,.box [.ptr 13 0,.fn i [.ptr 1055 0,.fp b],.fn j [],.int s.1,.int s.2.1,.int s.2.2.1,.aK 501,.int s.2.2.2.2.1,.int s.2.2.2.2.2.1,.int s.2.2.2.2.2.2] 251),(501,D9 s.2.2.2.1 [] 502)]) [3,4,5,10,11,13,14] [5,10,11,13,28,502,728,1055] (fun _ h g=>?_) ?_
 ·refine I [4] ?_ ?_<;>intro _ h
  ·refine B [5] fun _ p h=>?_;refine cA (mb (.fn i [.ptr 1055 0,.fp b]) (.fn j []) fun _ _=>((((u7 p _ _).sw 1000 33).sw 1001 13).sw 1003 501)) ?_;exact je
  refine B [5] fun _ q h=>?_;refine cA ((zU q m).bE [(1000,33),(1001,13),(1003,501),(1002,28),(1005,502),(1007,1055),(5,503),(4,504)] rfl) ?_;exact je [(501,504),(502,503)]
 rintro⟨F,G,H,K,L,M,O⟩ h;refine S [2] ?_;refine LF e0 hn (sb,E.a7,E.heap,E.aC,F,G,H,K,L,M,O) (fun l v=>n4 N g3 g4 l v.1 v.2.1 v.2.2.1 v.2.2.2.1 v.2.2.2.2.1 v.2.2.2.2.2.1 v.2.2.2.2.2.2.1 v.2.2.2.2.2.2.2.1 v.2.2.2.2.2.2.2.2.1 v.2.2.2.2.2.2.2.2.2.1 v.2.2.2.2.2.2.2.2.2.2) h (fun v=>[]) (fun v=>[(13,.box [N8 v.2.1,.aK 28,.int v.2.2.2.1] 40),(28,Q8 v.2.2.1 [] 728),(33,.box [.ptr 13 0,.fn i [.ptr 1055 0,.fp b],.fn j [],.int v.2.2.2.2.1,.int v.2.2.2.2.2.1,.int v.2.2.2.2.2.2.1,.aK 501,.int v.2.2.2.2.2.2.2.2.1,.int v.2.2.2.2.2.2.2.2.2.1,.int v.2.2.2.2.2.2.2.2.2.2] 251),(501,D9 v.2.2.2.2.2.2.2.1 [] 502),(1055,.box (eF v.1) 153)]) [3,4,5,10,11,13,14] [5,10,11,502,728] [] nl (fun s=>[(13,.box [N8 s.2.1,.aK 28,.int s.2.2.2.1] 40),(28,Q8 s.2.2.1 [] 728),(33,.box [.ptr 13 0,.fn i [.ptr 1055 0,.fp b],.fn j [],.int s.2.2.2.2.1,.int s.2.2.2.2.2.1,.int s.2.2.2.2.2.2.1,.aK 501,.int s.2.2.2.2.2.2.2.2.1,.int s.2.2.2.2.2.2.2.2.2.1,.int s.2.2.2.2.2.2.2.2.2.2] 251),(501,D9 s.2.2.2.2.2.2.2.1 [] 502),(1055,.box (eF s.1) 153)]) [3,4,5,10,11,13,14] [5,10,11,502,728] ?_ ?_
 ·rintro _ g ⟨R,T,U,V,W,X,Y,Z,v34,v35,v36⟩ Q h;rw[n4] at h;refine S [2,2] ?_;refine Jb 70 hn h [3,4,5,10,11,13,14] [5,10,11,13,28,33,501,502,728,1055] (fun _ h g=>?_) ?_
  ·exact F8 [5] [0,13,0] [0]
  intro v63 h;refine I [4] ?_ ?_<;>intro _ h
  ·refine B [1,6,5] fun a t h=>?_;refine cA ((Es t (fun c d f x e P=>(y c d f x e P).sw 1055 1007) m).bE [(1000,33),(1001,13),(1003,501),(1002,28),(1004,728),(1005,502),(1007,1055),(3,505),(2,506),(5,507),(4,508)] rfl) ?_;exact le (a.1,a.2.w.a7,a.2.w.heap,a.2.w.aC,a.2.fuel,a.2.sends,a.2.turns,a.2.aE,a.2.back.k,a.2.back.n,a.2.err) [(28,506),(728,505),(501,508),(502,507)]
  exact Sj [20]
 rintro⟨v48,v49,v50,v51,v52,v53,v54,v55,v56,v57,v58⟩ h;refine I [2,3,4] ?_ ?_<;>intro _ h
 ·refine B [2,8] fun _ u h=>?_;refine cA (((jW u).sw 0 79).sw 1 779) ?_;refine j6.ay 79 rfl ?_;exact Sr [7]
 refine S [1,2,8] ?_;refine j6.ay 28 rfl ?_;exact Sr [7]
def Gr {N a0 a1 a2 a3 a4 r} (h:rp N a0 a1 a2 a3 a4=some r):Spec prog 100 [] [.agg (M8 a0),.agg (kN a1),.int a2,kY a3,jC a4] (.agg (eF r)) [] []:=by
 refine so func100 ntmps100 fun e hn=>?_;unfold rp at h;refine B [3,3] fun _ b h=>?_;refine cA ((ug b).sw 0 13) ?_;refine B [] fun _ c h=>?_;refine cA ((B7 c).sw 0 15) ?_;refine j6.gh (Gh.bA 5 5 rfl rfl rfl) (fun _=>?_);refine j6.e7 11 [N8 ([]:List Cl),jO ([]:List Ob),.int (0:Int),.int (0:Int),.int (0:Int),.int (0:Int),.int (0:Int),.aK 13,.aK 15,.int (0:Int),.int (0:Int)] rfl aT ?_;refine j6.ar 13 rfl ?_;refine j6.ar 15 rfl ?_;refine kd [2,5,6,10,11] [6,10,11] ?_;refine B [3] fun _ d h=>?_;refine cA ((Fy d (fun _ _ _ _ _ a=>(Ey a).sw 1048 1055) (fun _ _ _ a=>BU a)).sw 1055 11) ?_;exact Sr [3,7]
def Hf {N a0 a1 a2 a3 r} (h:rM N a0 a1 a2 a3=some r):Spec prog 101 [] [.agg (M8 a0),.agg (kN a1),.int a2,EL a3] (.aZ [.agg (M8 r.1),.agg (lj r.2)]) [] []:=by
 refine so func101 ntmps101 fun c hn=>?_;unfold rM at h;refine S [3] ?_;refine j6.gh (Gh.bA 4 4 rfl rfl rfl) (fun _=>?_);refine j6.gh (Gh.bA 7 7 rfl rfl rfl) (fun _=>?_);refine kd [2,4,5,7,8,9] [5,8,9] ?_;refine B [3] fun _ b h=>?_;refine cA (G1 b (fun _ _ _ _ a=>Gl a) (fun _ _ _ a=>HA a)) ?_;exact Sr [7]
def GH {N a0 a1 a2 r} (h:rT N a0 a1 a2=some r):Spec prog 67 [(1000,.box (Y7 a0) 45)] [.ptr 1000 0,.int a1,.agg (kN a2)] (.agg (nf r.1)) [(1000,.box (Y7 r.2) 45)] []:=by
 refine so func67 ntmps67 fun m hn=>?_;unfold rT at h;refine S [3,3,2,3] ?_;refine J e0 hn h nl (fun s=>[(7,.box (lj s.2.2.2.2.2) 151),(1000,.box [N8 s.1,jO s.2.1,.int s.2.2.1,kY s.2.2.2.1,jC s.2.2.2.2.1,s5 a0.saved] 45)]) [0,6,7] [6] (fun _ h g=>?_) ?_
 ·refine S [6,3] ?_;refine Jk e0 hn h nl (fun s=>[(7,.box (lj s.2.2.2.2.2) 151),(1000,.box [N8 s.1,jO s.2.1,.int s.2.2.1,kY s.2.2.2.1,jC s.2.2.2.2.1,s5 a0.saved] 45)]) [0,6,7] [6] [] fun _ h g=>?_;refine I [4] ?_ ?_<;>intro _ h
  ·refine B [8] fun _ a h=>?_;refine cA (HL a) ?_;exact je
  refine S [3] ?_;refine Jk e0 hn h nl (fun s=>[(7,.box (lj s.2.2.2.2.2) 151),(1000,.box [N8 s.1,jO s.2.1,.int s.2.2.1,kY s.2.2.2.1,jC s.2.2.2.2.1,s5 a0.saved] 45)]) [0,6,7] [6] [] fun _ h g=>?_;refine I [4] ?_ ?_<;>intro _ h
  ·refine B [2,8] fun _ b h=>?_;refine cA (Gr b) ?_;refine kd [0,6,7,8] [6,7,8,1000] ?_;exact Sj [8]
  refine kd [0,5,6,7] [5,6,7,1000] ?_;refine B [8] fun _ c h=>?_;refine cA ((Hc c).sw 0 25) ?_;refine B [] fun _ d h=>?_;refine cF (Hf d) ?_;exact je
 rintro⟨e,f,i,j,k,l⟩ h;exact Sr [3,7]
def wb {N a0 a1 r} (h:mS N a0 a1=some r):Spec prog 33 [(2000,GL)] [.agg (Y7 a0),.agg (tF a1)] (.aZ [.agg (Y7 r.1),.agg (nf r.2)]) [(2000,GL)] []:=by
 refine so func33 ntmps33 fun k hn=>?_;unfold mS at h;refine B [3,3] fun _ e h=>?_;refine cA (Ag e) ?_;refine I [2,3,6,3,4] ?_ ?_<;>intro _ h
 ·refine B [3] fun _ f h=>?_;refine cA (H3 f) ?_;refine S [2] ?_;refine kd [4,5,6,7,8,9] [4,5,6,7,2000] ?_;exact ia [3,4] [3,7] [1,3,3,7]
 refine I [3,4] ?_ ?_<;>intro _ h
 ·refine B [3] fun _ i h=>?_;refine cA ((Fu i).sw 1000 6) ?_;refine S [2] ?_;refine kd [4,5,6,10] [4,5,6,10,2000] ?_;exact Sr [8,7]
 refine I [3,4] ?_ ?_<;>intro _ h
 ·refine kd [3,4,5,6] [3,4,5,6,2000] ?_;refine B [3] fun _ a h=>?_;refine cA ((FA a).sw 1000 6) ?_;exact Sr [2,8,7]
 refine S [2] ?_;refine kd [2,3,4,5,6,17] [2,3,4,5,6,2000] ?_;refine S [3] ?_;refine Jb 59 hn h [2,3,4,5,6,17] [2,3,4,5,6,2000] (fun _ h g=>?_) ?_
 ·refine Ij [4] [1] fun _ h=>?_;refine S [3] ?_;refine eA 59 hn h [2,3,4,5,6,17] [2,3,4,5,6,2000] [] fun _ h g=>?_;exact F8 [4] [1] [5]
 intro j h;refine I [4] ?_ ?_<;>intro _ h
 ·refine B [3] fun _ b h=>?_;refine cA ((GH b).sw 1000 6) ?_;exact Sr [2,8,7]
 refine I [3,4] ?_ ?_<;>intro _ h
 ·refine B [3] fun _ c h=>?_;refine cA (Gf c) ?_;exact Sr [2,8,13,7]
 refine I [3,4] ?_ ?_<;>intro _ h
 ·refine B [3] fun _ d h=>?_;refine cA ((FB d).sw 1000 6) ?_;exact Sr [2,8,7]
 exact Sr [1,3,7]
def GK {N a0 r} (h:wD N a0=some r):Spec prog 17 [(2000,GL)] [EX a0] (.aZ [.agg (Y7 r.1),.aK 0,.int r.2.2]) [(0,zP r.2.1),(2000,GL)] [0]:=by
 refine so func17 ntmps17 fun u hn=>?_;unfold wD at h;refine I [3,2,3,13,4] ?_ ?_<;>intro _ h
 ·refine S [3] ?_;refine nR 3 203 4 51 ?_;exact Sr [7] [(0,203)]
 refine B [1,3] fun n j h=>?_;refine cA (wT j) ?_;refine S [3,2,3] ?_;refine J2 fun i=>?_;refine nR 6 206 4 51 ?_;refine LR e0 hn (n,([]:List fZ)) (fun l k v=>rE N l k v.1 v.2) h (fun e v=>[(18,.int (e:Int))]) (fun e v=>[(5,.box (Y7 v.1) 45),(206,zP v.2)]) [2,5,6,16,17] [2,2000] [] nl (fun s=>[(5,.box (Y7 s.1) 45),(206,zP s.2)]) [2,5,6] [2,2000] ?_ ?_ ?_
 ·rintro _ g e ⟨q,m⟩ h _;rw[rE] at h;exact Sj [3,2,4,0,20]
 ·rintro _ g e ⟨q,m⟩ t f h _ a _;rw[rE] at h;refine S [3,2,4,0,1,2,6,3] ?_;refine P9 a ?_;refine B [3] fun b d h=>?_;refine cA (wb d) ?_;refine kd [2,5,6,9,10,16,17,18] [2,5,9,10,206,2000] ?_;refine S [3,5] ?_;refine bS nf [b.2] ?_;refine A [] fun c h=>?_;refine aM c ?_;refine S [5] ?_;refine MF (AN (M7 a i) ?_);exact le (b.1,(m++[b.2])) [(206,32)]
 rintro⟨o,p⟩ h;exact Sr [3,7] [(0,206)]
def Fz {N r} (h:qt N =some r):Spec prog 32 [(2000,GL)] [] (.bool r) [(2000,GL)] []:=by
 refine so func32 ntmps32 fun k hn=>?_;unfold qt at h;refine S [3,3] ?_;refine bS eV [(⟨(3:Int),(5:Int)⟩:V)] ?_;refine bS tF [(⟨(1:Int),(⟨#[65]⟩:ByteArray),(0:Int),(1:Int),(⟨BY,(0:Int),(0:Int),(0:Int),[]⟩:Me),(⟨(⟨(0:Int),(0:Int)⟩:V),BY,[]⟩:P8)⟩:cu),(⟨(3:Int),BY,(4:Int),(0:Int),(⟨BY,(0:Int),(0:Int),(0:Int),[]⟩:Me),(⟨(⟨(0:Int),(0:Int)⟩:V),BY,[]⟩:P8)⟩:cu),(⟨(7:Int),BY,(0:Int),(0:Int),(⟨BY,(0:Int),(0:Int),(0:Int),[]⟩:Me),(⟨(⟨(0:Int),(0:Int)⟩:V),BY,[]⟩:P8)⟩:cu),(⟨(4:Int),BY,(0:Int),(0:Int),(⟨BY,(0:Int),(0:Int),(0:Int),[]⟩:Me),(⟨(⟨(3:Int),(2:Int)⟩:V),(⟨#[43]⟩:ByteArray),[(⟨(3:Int),(5:Int)⟩:V)]⟩:P8)⟩:cu),(⟨(8:Int),BY,(0:Int),(0:Int),(⟨BY,(0:Int),(0:Int),(0:Int),[]⟩:Me),(⟨(⟨(0:Int),(0:Int)⟩:V),BY,[]⟩:P8)⟩:cu)] ?_;refine B [] fun _ e h=>?_;refine cF ((GK e).sw 0 17) ?_;refine kd [1,2,3] [1,17,2000] ?_;refine B [3] fun _ f h=>?_;refine cA (wT f) ?_;refine B [] fun _ i h=>?_;refine cA (wb i) ?_;refine S [2] ?_;refine Jb 0 hn h [] [2000] (fun _ h g=>?_) ?_
 ·refine I [5] ?_ ?_<;>intro _ h
  ·refine I [0,13,0] ?_ ?_<;>intro _ h
   ·refine B [0] fun _ a h=>?_;refine bT a ?_;refine S [0] ?_;refine V8 (l6 a).2 ?_;refine I [0] ?_ ?_<;>intro _ h
    ·refine B [0] fun _ b h=>?_;refine bT b ?_;refine S [0] ?_;refine V8 (l6 b).2 ?_;refine I [0] ?_ ?_<;>intro _ h
     ·refine B [0] fun _ c h=>?_;refine bT c ?_;refine S [0] ?_;refine V8 (l6 c).2 ?_;refine I [0] ?_ ?_<;>intro _ h
      ·refine I [0,13,0] ?_ ?_<;>intro _ h
       ·refine I [0] ?_ ?_<;>intro _ h
        ·refine I [0,13,0] ?_ ?_<;>intro _ h
         ·refine B [0] fun _ d h=>?_;refine cA (Ag d) ?_;exact Sj [0,13,0]
         exact Sj [0]
        exact Sj [0]
       exact Sj [0]
      exact Sj [0]
     exact Sj [0]
    exact Sj [0]
   exact Sj [0]
  exact Sj [0]
 intro j h;exact Sr [7]
def Ek {N a0 r} (h:uC N a0=some r):Spec prog 8 [(2000,GL)] [EX a0] (.bool r) [(2000,GL)] []:=by
 refine so func8 ntmps8 fun u hn=>?_;unfold uC at h;refine B [3,2,3] fun _ j h=>?_;refine cA (Fz j) ?_;refine Ir [4] [3,7] fun _ h=>?_;refine Ir [1,2,3,13,4] [3,7] fun _ h=>?_;refine B [1,3] fun p m h=>?_;refine cA (wT m) ?_;refine S [2,3] ?_;refine J2 fun i=>?_;refine LR e1 hn p (fun l k v=>V9 N l k v) h (fun e v=>[(16,.int (e:Int))]) (fun e v=>[(3,.box (Y7 v) 45)]) [3,14,15] [2000] [] nl nl [] [2000] ?_ ?_ ?_
 ·intro _ g e o h _;rw[V9] at h;exact Sj [3,2,4,0,20]
 ·intro _ g e o t f h _ a _;rw[V9] at h;refine S [3,2,4,0,1,2,6,3] ?_;refine P9 a ?_;refine B [3] fun n b h=>?_;refine cA (wb b) ?_;refine S [2,2] ?_;refine Jb 38 hn h [3,6,7,14,15,16] [3,6,7,2000] (fun _ h g=>?_) ?_
  ·refine B [5] fun _ c h=>?_;refine cA (F2 c) ?_;exact F8 [] [0] [0]
  intro q h;refine Ir [4] [3,7] fun _ h=>?_;refine S [1,2,2] ?_;refine Jb 49 hn h [3,6,14,15,16] [3,6,2000] (fun _ h g=>?_) ?_
  ·refine I [5] ?_ ?_<;>intro _ h
   ·refine B [0] fun _ d h=>?_;refine cA (Fg d) ?_;exact Sj [0]
   exact Sj [0]
  intro s h;refine Ir [4] [3,7] fun _ h=>?_;refine S [1,5,5] ?_;refine MF (AN (M7 a i) ?_);exact le n.1 []
 rintro⟨⟩ h;exact Sr [3,7]
end
end Go.Proofs.YtibjcppjfkamhaaGreatDoor
