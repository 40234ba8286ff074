import Derived.Test.YtibjcppjfkamhaaGreatDoorC
set_option linter.unusedVariables false
set_option linter.defProp false
set_option linter.unusedSimpArgs false
namespace Go.Proofs.YtibjcppjfkamhaaGreatDoor
open Go.RowKit Go.Proofs.Tryz
open _root_.And renaming intro->AN
open _root_.Bool renaming and_eq_true->IT
open _root_.ByteArray renaming empty->BY
open _root_.List renaming getElem?_eq_some_iff->ME,replicate->MI,map->MJ,mem_of_getElem?->MP,all_eq_true->MR,length_map->MW,getElem?_set->MY,getElem?_append_right->Ma,length_take->Mq
open _root_.Nat renaming ble->IN,le_refl->It,le_of_ble_eq_true->MZ,mul_le_mul_right->Mt
open _root_.Or renaming inl->MF
section
set_option maxHeartbeats 40000000
set_option maxRecDepth 100000
set_option maxRecDepth 100000
def wT {N r} (h:pH N =some r):Spec prog 30 [] [] (.agg (Y7 r)) [] []:=by
 refine so func30 ntmps30 fun b hn=>?_;unfold pH at h;refine B [3,3] fun _ a h=>?_;refine cA (BF N _ a) ?_;exact Sr [7]
def mf (N:Nat) (l:List V) (r:List V) (h:mr N l=some r):Spec prog 121 [] [.sl 2 (MJ eV l)] (.aK 0) [(0,.row 2 (MJ eV r) 29)] [0]:=by
  obtain⟨d,h⟩:=j7 h;obtain rfl:=oI h;refine Spec.of eg func121 rfl ntmps121 C8 rfl rfl rfl fun f hn=>?_;refine H6 hn ?_;refine j6.seq (j6.seq (j6.ops (jv hn 1 ?_)));refine cY.gh (Gh.nil 3 rfl) ?_;rintro⟨b,c⟩;refine jv hn 1 (cY.done ?_);(repeat (first|refine H6 hn ?_|refine M4 hn ?_|refine O1 hn ?_|refine M3 hn ?_|refine M0 hn ?_|refine K7 hn ?_|refine ao hn ?_));refine nq (fun a=>?_) (fun a=>?_)
  · have e:l=[]:=by simpa using c a
    subst e;refine H6 hn ?_;refine j6.bG 2 5 2 29 rfl rfl rfl ?_;(repeat (first|refine H6 hn ?_|refine M4 hn ?_|refine O1 hn ?_|refine M3 hn ?_|refine M0 hn ?_|refine K7 hn ?_|refine ao hn ?_));exact⟨[(0,5)],_,rfl,rfl,⟨rfl,trivial⟩,rfl,rfl,rfl,rfl,rfl⟩
  · (repeat (first|refine H6 hn ?_|refine M4 hn ?_|refine O1 hn ?_|refine M3 hn ?_|refine M0 hn ?_|refine K7 hn ?_|refine ao hn ?_));refine Exists.intro [] (AN trivial ?_);refine AN (by have:=MZ d;simpa using this) ?_;refine Exists.intro (MJ eV l) (AN (O4 _) ?_);(repeat (first|refine H6 hn ?_|refine M4 hn ?_|refine O1 hn ?_|refine M3 hn ?_|refine M0 hn ?_|refine K7 hn ?_|refine ao hn ?_));exact⟨[(0,7)],_,rfl,rfl,⟨rfl,trivial⟩,rfl,rfl,rfl,rfl,rfl⟩
def ue {N a0 r} (h:lU N a0=some r):Spec prog 92 [] [jO a0] (.aK 0) [(0,Q8 r [] 1),(1,.aF)] [0,1]:=by
 refine so func92 ntmps92 fun o hn=>?_;unfold lU at h;refine S [3,3,2,3] ?_;refine J2 fun i=>?_;refine nR 3 203 2 92 ?_;refine gC (gT 203 501 [(1,(2,29))]) ?_;refine LR e0 hn ([]:List Ob) (fun l k v=>lN N l k v) h (fun f v=>[(8,.int (f:Int))]) (fun f v=>[(203,Q8 v [] 501)]) [3,6,7] [501] [] nl (fun s=>[(203,Q8 s [] 501)]) [3] [501] ?_ ?_ ?_
 ·intro _ g f m h _;rw[lN] at h;exact Sj [3,2,4,0,20]
 ·intro _ g f m e j h _ a _;rw[lN] at h;refine S [3,2,4,0,1,2,6,3] ?_;refine P9 a ?_;refine B [3] fun b d h=>?_;refine cA ((mf N _ _ d).sw 0 14) ?_;refine S [5,11] ?_;refine Exists.intro [(1,(2,29))] (Exists.intro (hF (⟨e.cls,b⟩:Ob)) (Exists.intro [(14,iZ b)] (AN rfl (AN rfl (AN rfl (AN G8 (AN G8 (AN rfl (AN rfl ?_)))))))));refine A [] fun c h=>?_;refine aD c ?_;refine S [5] ?_;refine MF (AN (M7 a i) ?_);exact le (m++[(⟨e.cls,b⟩:Ob)]) [(203,19),(501,719)]
 intro n h;exact Sr [3,7] [(0,203),(1,501)]
def Fe (N:Nat) (l:List Ins) (r:List Ins) (h:u9 N l=some r):Spec prog 122 [] [.sl 5 (MJ bd l)] (.aK 0) [(0,.row 5 (MJ bd r) 55)] [0]:=by
  obtain⟨d,h⟩:=j7 h;obtain rfl:=oI h;refine Spec.of eg func122 rfl ntmps122 C8 rfl rfl rfl fun f hn=>?_;refine H6 hn ?_;refine j6.seq (j6.seq (j6.ops (jv hn 1 ?_)));refine cY.gh (Gh.nil 3 rfl) ?_;rintro⟨b,c⟩;refine jv hn 1 (cY.done ?_);(repeat (first|refine H6 hn ?_|refine M4 hn ?_|refine O1 hn ?_|refine M3 hn ?_|refine M0 hn ?_|refine K7 hn ?_|refine ao hn ?_));refine nq (fun a=>?_) (fun a=>?_)
  · have e:l=[]:=by simpa using c a
    subst e;refine H6 hn ?_;refine j6.bG 2 5 5 55 rfl rfl rfl ?_;(repeat (first|refine H6 hn ?_|refine M4 hn ?_|refine O1 hn ?_|refine M3 hn ?_|refine M0 hn ?_|refine K7 hn ?_|refine ao hn ?_));exact⟨[(0,5)],_,rfl,rfl,⟨rfl,trivial⟩,rfl,rfl,rfl,rfl,rfl⟩
  · (repeat (first|refine H6 hn ?_|refine M4 hn ?_|refine O1 hn ?_|refine M3 hn ?_|refine M0 hn ?_|refine K7 hn ?_|refine ao hn ?_));refine Exists.intro [] (AN trivial ?_);refine AN (by have:=MZ d;simpa using this) ?_;refine Exists.intro (MJ bd l) (AN (O4 _) ?_);(repeat (first|refine H6 hn ?_|refine M4 hn ?_|refine O1 hn ?_|refine M3 hn ?_|refine M0 hn ?_|refine K7 hn ?_|refine ao hn ?_));exact⟨[(0,7)],_,rfl,rfl,⟨rfl,trivial⟩,rfl,rfl,rfl,rfl,rfl⟩
def uZ {N a0 r} (h:lJ N a0=some r):Spec prog 93 [] [.agg (G9 a0)] (.agg (G9 r)) [] []:=by
 refine so func93 ntmps93 fun b hn=>?_;unfold lJ at h;refine B [3,3] fun _ a h=>?_;refine cA ((Fe N _ _ a).sw 0 5) ?_;refine S [3] ?_;refine j6.ar 5 rfl ?_;exact Sr [7]
def jW {N a0 r} (h:gd N a0=some r):Spec prog 60 [] [.agg (M8 a0)] (.agg [N8 r.a7,.aK 0,.int r.aC]) [(0,Q8 r.heap [] 1),(1,.aF)] [0,1]:=by
 refine so func60 ntmps60 fun C hn=>?_;unfold gd at h;refine B [3,2,8] fun _ u h=>?_;refine cA (((ue u).sw 0 11).sw 1 711) ?_;refine S [2,3] ?_;refine J2 fun t=>?_;refine nB 3 0 501 4 81 ?_;refine LR e0 hn ([]:List Cl) (fun l k v=>lM N l k v) h (fun p v=>[(18,.int (p:Int))]) (fun p v=>[(501,oc v)]) [2,3,16,17] [2,3,11,711] [] nl (fun s=>[(501,oc s)]) [2,3] [2,3,11,711] ?_ ?_ ?_
 ·intro _ g p x h _;rw[lM] at h;exact Sj [3,2,4,0,20]
 ·intro _ g p x a w h _ c _;rw[lM] at h;refine S [3,2,4,0,1,2,6,3] ?_;refine P9 c ?_;refine S [3,2,3] ?_;refine J2 fun i=>?_;refine nR 6 206 5 27 ?_;refine LR e0 hn ([]:List Me) (fun l k v=>lO N l k v) h (fun b v=>[(25,.int (b:Int))]) (fun b v=>[(206,km v)]) [2,3,5,6,16,17,18,23,24] [2,3,5,11,501,711] [] nl (fun s=>[(206,km s)]) [2,3,5,6,16,17,18] [2,3,5,11,501,711] ?_ ?_ ?_
  ·intro _ g b n h _;rw[lO] at h;exact Sj [3,2,4,0,20]
  ·intro _ g b n y q h _ d _;rw[lO] at h;refine S [3,2,4,0,1,2,6,3] ?_;refine P9 d ?_;refine B [5] fun m j h=>?_;refine cA (uZ j) ?_;refine bS G9 [m] ?_;refine A [] fun e h=>?_;refine aM e ?_;refine kd [2,3,5,6,16,17,18,23,24,25] [2,3,5,11,33,501,711] ?_;refine S [5] ?_;refine MF (AN (M7 d i) ?_);exact le (n++[m]) [(206,33)]
  intro o h;refine S [3,5,12] ?_;refine bS fI [(⟨a.name,a.aQ,a.aG,o⟩:Cl)] ?_;refine A [] fun f h=>?_;refine aM f ?_;refine S [5] ?_;refine MF (AN (M7 c t) ?_);exact le (x++[(⟨a.name,a.aQ,a.aG,o⟩:Cl)]) [(501,41)]
 intro z h;refine S [3] ?_;refine j6.ar 501 rfl ?_;exact Sr [7] [(0,11),(1,711)]
def uF (N:Nat) (l:List Ln) (r:List Ln) (h:X7 N l=some r):Spec prog 94 [] [.sl 2 (MJ V7 l)] (.aK 0) [(0,.row 2 (MJ V7 r) 167)] [0]:=by
  obtain⟨d,h⟩:=j7 h;obtain rfl:=oI h;refine Spec.of eg func94 rfl ntmps94 C8 rfl rfl rfl fun f hn=>?_;refine H6 hn ?_;refine j6.seq (j6.seq (j6.ops (jv hn 1 ?_)));refine cY.gh (Gh.nil 3 rfl) ?_;rintro⟨b,c⟩;refine jv hn 1 (cY.done ?_);(repeat (first|refine H6 hn ?_|refine M4 hn ?_|refine O1 hn ?_|refine M3 hn ?_|refine M0 hn ?_|refine K7 hn ?_|refine ao hn ?_));refine nq (fun a=>?_) (fun a=>?_)
  · have e:l=[]:=by simpa using c a
    subst e;refine H6 hn ?_;refine j6.bG 2 5 2 167 rfl rfl rfl ?_;(repeat (first|refine H6 hn ?_|refine M4 hn ?_|refine O1 hn ?_|refine M3 hn ?_|refine M0 hn ?_|refine K7 hn ?_|refine ao hn ?_));exact⟨[(0,5)],_,rfl,rfl,⟨rfl,trivial⟩,rfl,rfl,rfl,rfl,rfl⟩
  · (repeat (first|refine H6 hn ?_|refine M4 hn ?_|refine O1 hn ?_|refine M3 hn ?_|refine M0 hn ?_|refine K7 hn ?_|refine ao hn ?_));refine Exists.intro [] (AN trivial ?_);refine AN (by have:=MZ d;simpa using this) ?_;refine Exists.intro (MJ V7 l) (AN (O4 _) ?_);(repeat (first|refine H6 hn ?_|refine M4 hn ?_|refine O1 hn ?_|refine M3 hn ?_|refine M0 hn ?_|refine K7 hn ?_|refine ao hn ?_));exact⟨[(0,7)],_,rfl,rfl,⟨rfl,trivial⟩,rfl,rfl,rfl,rfl,rfl⟩
def ug {N a0 r} (h:lV N a0=some r):Spec prog 61 [] [kY a0] (.aK 0) [(0,d60 r)] [0]:=by
 refine so func61 ntmps61 fun o hn=>?_;unfold lV at h;refine S [3,3,2,3] ?_;refine J2 fun i=>?_;refine nR 3 203 6 159 ?_;refine LR e0 hn ([]:List Ce) (fun l k v=>lK N l k v) h (fun f v=>[(8,.int (f:Int))]) (fun f v=>[(203,d60 v)]) [3,6,7] [] [] nl (fun s=>[(203,d60 s)]) [3] [] ?_ ?_ ?_
 ·intro _ g f m h _;rw[lK] at h;exact Sj [3,2,4,0,20]
 ·intro _ g f m a j h _ b _;rw[lK] at h;refine S [3,2,4,0,1,2,6,3] ?_;refine P9 b ?_;refine B [3] fun e d h=>?_;refine cA ((uF N _ _ d).sw 0 14) ?_;refine S [5] ?_;refine bS hC [(⟨a.site,a.aC,a.many,e⟩:Ce)] ?_;refine A [] fun c h=>?_;refine aM c ?_;refine S [5] ?_;refine MF (AN (M7 b i) ?_);exact le (m++[(⟨a.site,a.aC,a.many,e⟩:Ce)]) [(203,19)]
 intro n h;exact Sr [3,7] [(0,203)]
def B7 {N a0 r} (h:pX N a0=some r):Spec prog 62 [] [jC a0] (.aK 0) [(0,yr r)] [0]:=by
 refine so func62 ntmps62 fun o hn=>?_;unfold pX at h;refine S [3,3,2,3] ?_;refine J2 fun i=>?_;refine nR 3 203 4 162 ?_;refine LR e0 hn ([]:List Tl) (fun l k v=>lP N l k v) h (fun f v=>[(8,.int (f:Int))]) (fun f v=>[(203,yr v)]) [3,6,7] [] [] nl (fun s=>[(203,yr s)]) [3] [] ?_ ?_ ?_
 ·intro _ g f m h _;rw[lP] at h;exact Sj [3,2,4,0,20]
 ·intro _ g f m e j h _ a _;rw[lP] at h;refine S [3,2,4,0,1,2,6,3] ?_;refine P9 a ?_;refine B [3] fun d c h=>?_;refine cA ((uF N _ _ c).sw 0 14) ?_;refine S [5] ?_;refine bS hJ [(⟨e.site,d⟩:Tl)] ?_;refine A [] fun b h=>?_;refine aM b ?_;refine S [5] ?_;refine MF (AN (M7 a i) ?_);exact le (m++[(⟨e.site,d⟩:Tl)]) [(203,19)]
 intro n h;exact Sr [3,7] [(0,203)]
def Fc (N:Nat) (l:List Int) (r:List Int) (h:wQ N l=some r):Spec prog 63 [] [.sl 1 (MJ (oJ .u8) l)] (.aK 0) [(0,.row 1 (MJ (oJ .u8) r) 5)] [0]:=by
  obtain⟨d,h⟩:=j7 h;obtain rfl:=oI h;refine Spec.of eg func63 rfl ntmps63 C8 rfl rfl rfl fun f hn=>?_;refine H6 hn ?_;refine j6.seq (j6.seq (j6.ops (jv hn 1 ?_)));refine cY.gh (Gh.nil 3 rfl) ?_;rintro⟨b,c⟩;refine jv hn 1 (cY.done ?_);(repeat (first|refine H6 hn ?_|refine M4 hn ?_|refine O1 hn ?_|refine M3 hn ?_|refine M0 hn ?_|refine K7 hn ?_|refine ao hn ?_));refine nq (fun a=>?_) (fun a=>?_)
  · have e:l=[]:=by simpa using c a
    subst e;refine H6 hn ?_;refine j6.bG 2 5 1 5 rfl rfl rfl ?_;(repeat (first|refine H6 hn ?_|refine M4 hn ?_|refine O1 hn ?_|refine M3 hn ?_|refine M0 hn ?_|refine K7 hn ?_|refine ao hn ?_));exact⟨[(0,5)],_,rfl,rfl,⟨rfl,trivial⟩,rfl,rfl,rfl,rfl,rfl⟩
  · (repeat (first|refine H6 hn ?_|refine M4 hn ?_|refine O1 hn ?_|refine M3 hn ?_|refine M0 hn ?_|refine K7 hn ?_|refine ao hn ?_));refine Exists.intro [] (AN trivial ?_);refine AN (by have:=MZ d;simpa using this) ?_;refine Exists.intro (MJ (oJ .u8) l) (AN (O4 _) ?_);(repeat (first|refine H6 hn ?_|refine M4 hn ?_|refine O1 hn ?_|refine M3 hn ?_|refine M0 hn ?_|refine K7 hn ?_|refine ao hn ?_));exact⟨[(0,7)],_,rfl,rfl,⟨rfl,trivial⟩,rfl,rfl,rfl,rfl,rfl⟩
def Ag {N a0 r} (h:pI N a0=some r):Spec prog 29 [] [.agg (Y7 a0)] (.agg (Y7 r)) [] []:=by
 refine so func29 ntmps29 fun e hn=>?_;unfold pI at h;refine B [3,2,8] fun _ a h=>?_;refine cA (((jW a).sw 0 5).sw 1 705) ?_;refine B [] fun _ b h=>?_;refine cA ((ug b).sw 0 8) ?_;refine B [] fun _ c h=>?_;refine cA ((B7 c).sw 0 11) ?_;refine B [] fun _ d h=>?_;refine cA ((Fc N _ _ d).sw 0 14) ?_;refine j6.ay 5 rfl ?_;refine j6.ar 8 rfl ?_;refine j6.ar 11 rfl ?_;refine j6.ar 14 rfl ?_;exact Sr [7]
def qp {N a0 r} (h:kE N a0=some r):Spec prog 36 [] [.str a0] (.bool r) [] []:=by
 refine so func36 ntmps36 fun m hn=>?_;unfold kE at h;refine S [3,2,2] ?_;refine Jb 11 hn h [0] [] (fun _ h g=>?_) ?_
 ·exact F8 [5,18] [0] [0,18,0]
 intro j h;refine Ir [4] [3,7] fun _ h=>?_;refine S [1,2,3,18] ?_;refine j6.cK 13 rfl (fun b=>?_);refine LU e1 hn () (fun l k v=>nF N a0 l k) h (fun e v=>[(14,.int (e:Int))]) (fun e v=>[]) [0,13] [] [] nl nl [] [] ?_ ?_ ?_
 ·intro _ g e _ h _;rw[nF] at h;exact Sj [3,2,4,0,20]
 ·intro _ g e _ f h a _;rw[nF] at h;refine S [3,2,4,0,1,2,6,3,2] ?_;refine Jb 26 hn h [0,13,14] [] (fun _ h g=>?_) ?_
  ·refine B [5] fun _ c h=>?_;refine uw c ?_;refine Ij [10] [0] fun _ h=>?_;refine B [0] fun _ d h=>?_;refine uw d ?_;exact Sj [0,10,0]
  intro i h;refine Ir [4] [3,7] fun _ h=>?_;refine S [1,5] ?_;refine MF (AN (jc a b) ?_);exact le () []
 rintro⟨⟩ h;exact Sr [3,7]
def Ef {N a0 g1 r} (h:U1 N a0 g1=some r) {m:Nat} {a:List AV} (f:∀d n,g1 d=some n->Spec prog m [] [.agg (fI d),.fp a] (.bool n) [] []):Spec prog 123 [] [N8 a0,.fn m [.fp a]] (.int r) [] []:=by
 refine so func123 ntmps123 fun p hn=>?_;unfold U1 at h;refine S [3,2,3] ?_;refine J2 fun i=>?_;refine LR e1 hn () (fun l k v=>E9 N g1 l k) h (fun e v=>[(8,.int (e:Int))]) (fun e v=>[]) [0,1,7] [] [] nl nl [] [] ?_ ?_ ?_
 ·intro _ g e _ h _;rw[E9] at h;exact Sj [3,2,4,0,20]
 ·intro _ g e _ o j h _ c _;rw[E9] at h;refine S [3,2,4,0,1,2,6,3,3] ?_;refine P9 c ?_;refine B [] fun _ b h=>?_;refine cA (f _ _ b) ?_;refine Ir [4] [3,7] fun _ h=>?_;refine S [1,5] ?_;refine MF (AN (M7 c i) ?_);exact le () []
 rintro⟨⟩ h;exact Sr [3,7]
def Eb {N a0 g1 r} (h:J6 N a0 g1=some r) {e:Nat} {a:List AV} (c:∀b f,g1 b=some f->Spec prog e [] [.agg (fI b),.fp a] (.bool f) [] []):Spec prog 95 [] [N8 a0,.fn e [.fp a]] (.bool r) [] []:=by
 refine so func95 ntmps95 fun i hn=>?_;unfold J6 at h;refine B [3,3] fun _ d h=>?_;refine cA (Ef d c) ?_;exact Sr [7]
def F0 {N a0 b0 r} (h:p7 N a0 b0=some r):Spec prog 96 [] [.agg (fI a0),.fp [.str b0]] (.bool r) [] []:=by
 refine so func96 ntmps96 fun a hn=>?_;unfold p7 at h;exact Sr [3,3,7]
def mq {N a0 a1 r} (h:iI N a0 a1=some r):Spec prog 37 [] [.agg (M8 a0),.int a1] (.int r) [] []:=by
 refine so func37 ntmps37 fun n hn=>?_;unfold iI at h;refine S [3,3,2,3] ?_;refine LF e0 hn (a1,(0:Int),(0:Int)) (fun l v=>ow N a0 l v.1 v.2.1 v.2.2) h (fun v=>[(1,.int v.1),(5,.int v.2.1),(6,.int v.2.2)]) (fun v=>[]) [2] [2] [] (fun s=>[(5,.int s)]) nl [] [] ?_ ?_
 ·rintro _ g ⟨k,i,j⟩ e h;rw[ow] at h;refine S [2,2] ?_;refine Jb 22 hn h [1,2,5,6] [2] (fun _ h g=>?_) ?_
  ·refine I [5] ?_ ?_<;>intro _ h
   ·exact F8 [0,13,0] [0,13,0] [0]
   exact Sj [0]
  intro f h;refine I [4] ?_ ?_<;>intro _ h
  ·refine B [1,2,6,3] fun c a h=>?_;refine G6 a ?_;refine B [12,5] fun d b h=>?_;refine G6 b ?_;refine kd [1,2,5,6] [2] ?_;refine S [5,12] ?_;exact le (d.aQ,(wr (i+c.aG)),(wr (j+(1:Int)))) []
  exact Sj [20]
 intro m h;exact Sr [3,7]
def GP {N a0 r} (h:rX N a0=some r):Spec prog 60 [] [.agg (M8 a0)] (.agg [.aK 0,jO r.heap,.int r.aC]) [(0,oc r.a7)] [0]:=by
 refine so func60 ntmps60 fun C hn=>?_;unfold rX at h;refine B [3,2,8] fun _ u h=>?_;refine cA (((ue u).sw 0 11).sw 1 711) ?_;refine S [2,3] ?_;refine J2 fun t=>?_;refine nB 3 0 501 4 81 ?_;refine LR e0 hn ([]:List Cl) (fun l k v=>lB N l k v) h (fun p v=>[(18,.int (p:Int))]) (fun p v=>[(501,oc v)]) [2,3,16,17] [2,3,11,711] [] nl (fun s=>[(501,oc s)]) [2,3] [2,3,11,711] ?_ ?_ ?_
 ·intro _ g p x h _;rw[lB] at h;exact Sj [3,2,4,0,20]
 ·intro _ g p x a w h _ c _;rw[lB] at h;refine S [3,2,4,0,1,2,6,3] ?_;refine P9 c ?_;refine S [3,2,3] ?_;refine J2 fun i=>?_;refine nR 6 206 5 27 ?_;refine LR e0 hn ([]:List Me) (fun l k v=>kz N l k v) h (fun b v=>[(25,.int (b:Int))]) (fun b v=>[(206,km v)]) [2,3,5,6,16,17,18,23,24] [2,3,5,11,501,711] [] nl (fun s=>[(206,km s)]) [2,3,5,6,16,17,18] [2,3,5,11,501,711] ?_ ?_ ?_
  ·intro _ g b n h _;rw[kz] at h;exact Sj [3,2,4,0,20]
  ·intro _ g b n y q h _ d _;rw[kz] at h;refine S [3,2,4,0,1,2,6,3] ?_;refine P9 d ?_;refine B [5] fun m j h=>?_;refine cA (uZ j) ?_;refine bS G9 [m] ?_;refine A [] fun e h=>?_;refine aM e ?_;refine kd [2,3,5,6,16,17,18,23,24,25] [2,3,5,11,33,501,711] ?_;refine S [5] ?_;refine MF (AN (M7 d i) ?_);exact le (n++[m]) [(206,33)]
  intro o h;refine S [3,5,12] ?_;refine bS fI [(⟨a.name,a.aQ,a.aG,o⟩:Cl)] ?_;refine A [] fun f h=>?_;refine aM f ?_;refine S [5] ?_;refine MF (AN (M7 c t) ?_);exact le (x++[(⟨a.name,a.aQ,a.aG,o⟩:Cl)]) [(501,41)]
 intro z h;refine S [3] ?_;refine j6.ay 11 rfl ?_;exact Sr [7] [(0,501)]
def H3 {N a0 a1 a2 a3 r} (h:sA N a0 a1 a2 a3=some r):Spec prog 64 [] [.agg (M8 a0),.str a1,.int a2,.int a3] (.aZ [.agg (M8 r.1),.int r.2.1,.int r.2.2]) [] []:=by
 refine so func64 ntmps64 fun l hn=>?_;unfold sA at h;refine S [3,2,6,2] ?_;refine j6.gh (Gh.bA 5 5 rfl rfl rfl) (fun _=>?_);refine Jb 12 hn h [2,3,4,5,8] [4,8] (fun _ h g=>?_) ?_
 ·refine B [5] fun _ d h=>?_;refine cA (qp d) ?_;refine Ij [] [0] fun _ h=>?_;refine B [0] fun _ e h=>?_;refine cA (Eb e (fun _ _ f=>F0 f)) ?_;exact Sj [0]
 intro j h;refine Ir [4] [3,7] fun _ h=>?_;refine S [2] ?_;refine Jb 23 hn h [2,3,4,5,8] [4,8] (fun _ h g=>?_) ?_
 ·exact F8 [5] [0] [0,13,0]
 intro k h;refine Ir [4] [3,7] fun _ h=>?_;refine S [2] ?_;refine Jb 34 hn h [2,3,4,5,8] [4,8] (fun _ h g=>?_) ?_
 ·refine Ij [5] [0] fun _ h=>?_;refine B [0] fun _ b h=>?_;refine cA (mq b) ?_;refine Ij [0,12,0] [0] fun _ h=>?_;exact F8 [0] [0] [0]
 intro i h;refine Ir [4] [3,7] fun _ h=>?_;refine Ir [3,13,4] [3,7] fun _ h=>?_;refine B [1,3] fun _ c h=>?_;refine cA ((GP c).sw 0 61) ?_;refine S [3,12] ?_;refine bS fI [(⟨a1,a2,a3,[]⟩:Cl)] ?_;refine A [] fun a h=>?_;refine aM a ?_;refine S [2] ?_;refine kd [4,8,11] [4,8,11,69] ?_;refine S [8,13] ?_;refine j6.ar 69 rfl ?_;exact Sr [7]
def rA {N a0 a1 r} (h:kB N a0 a1=some r):Spec prog 107 [] [.int a0,.int a1] (.bool r) [] []:=by
 refine so func107 ntmps107 fun b hn=>?_;unfold kB at h;refine S [3,2] ?_;refine Jb 4 hn h [] [] (fun _ h g=>?_) ?_
 ·exact F8 [5] [0] [0]
 intro a h;exact Sr [7]
def GG {N a0 a1 a2 a3 r} (h:rR N a0 a1 a2 a3=some r):Spec prog 74 [] [.fp (M8 a0),.int a1,.fp (G9 a2),.agg (bd a3)] (.int r) [] []:=by
 refine so func74 ntmps74 fun q hn=>?_;unfold rR at h;refine S [3,3,3,2,3] ?_;refine J e1 hn h (fun s=>[(10,.bool s.1),(11,.bool s.2)]) nl [7] [7] (fun _ h g=>?_) ?_
 ·refine S [6,2,3] ?_;refine Jb 14 hn h [0,1,2,7,9,11,13] [7] (fun _ h g=>?_) ?_
  ·refine Ij [4] [1] fun _ h=>?_;refine S [3] ?_;refine eA 14 hn h [0,1,2,7,9,11,13] [7] [] fun _ h g=>?_;refine Ij [4] [1] fun _ h=>?_;refine S [3] ?_;refine eA 14 hn h [0,1,2,7,9,11,13] [7] [] fun _ h g=>?_;refine Ij [4] [1] fun _ h=>?_;refine S [3] ?_;refine eA 14 hn h [0,1,2,7,9,11,13] [7] [] fun _ h g=>?_;refine Ij [4] [1] fun _ h=>?_;refine S [3] ?_;refine eA 14 hn h [0,1,2,7,9,11,13] [7] [] fun _ h g=>?_;refine Ij [4] [1] fun _ h=>?_;refine kd [0,1,2,7,9,11,13] [7] ?_;refine S [3] ?_;refine eA 14 hn h [0,1,2,7,9,11,13] [7] [] fun _ h g=>?_;exact F8 [4] [1] [5]
  intro p h;refine Jk e1 hn h (fun s=>[(10,.bool s.1),(11,.bool s.2)]) nl [7] [7] [] fun _ h g=>?_;refine Ij [4] [5] fun _ h=>?_;refine S [3] ?_;refine Jk e1 hn h (fun s=>[(10,.bool s.1),(11,.bool s.2)]) nl [7] [7] [] fun _ h g=>?_;refine I [4] ?_ ?_<;>intro _ h
  ·refine B [8] fun _ a h=>?_;refine cA (rA a) ?_;exact je
  refine S [2,3] ?_;refine Jb 35 hn h [0,1,2,7,9,11,13] [7] (fun _ h g=>?_) ?_
  ·exact F8 [4] [1] [5]
  intro j h;refine Jk e1 hn h (fun s=>[(10,.bool s.1),(11,.bool s.2)]) nl [7] [7] [] fun _ h g=>?_;refine I [4] ?_ ?_<;>intro _ h
  ·refine B [8] fun _ b h=>?_;refine cA (rA b) ?_;exact je
  refine S [2,3] ?_;refine Jb 46 hn h [0,1,2,7,9,11,13] [7] (fun _ h g=>?_) ?_
  ·exact F8 [4] [1] [5]
  intro k h;refine Jk e1 hn h (fun s=>[(10,.bool s.1),(11,.bool s.2)]) nl [7] [7] [] fun _ h g=>?_;refine I [4] ?_ ?_<;>intro _ h
  ·refine B [8] fun _ c h=>?_;refine cA (mq c) ?_;refine B [] fun _ d h=>?_;refine cA (rA d) ?_;exact je
  refine S [3] ?_;refine Jk e1 hn h (fun s=>[(10,.bool s.1),(11,.bool s.2)]) nl [7] [7] [] fun _ h g=>?_;refine I [4] ?_ ?_<;>intro _ h
  ·refine eA 10 hn h [7,11] [7] [] fun _ h g=>?_;exact F8 [5] [0] [0]
  refine S [3] ?_;refine Jk e1 hn h (fun s=>[(10,.bool s.1),(11,.bool s.2)]) nl [7] [7] [] fun _ h g=>?_;refine I [4] ?_ ?_<;>intro _ h
  ·refine eA 10 hn h [7,11] [7] [] fun _ h g=>?_;refine kd [0,7,11] [7] ?_;refine Ij [8] [0] fun _ h=>?_;exact F8 [0] [0,13,0] [0]
  refine S [3] ?_;refine Jk e1 hn h (fun s=>[(10,.bool s.1),(11,.bool s.2)]) nl [7] [7] [] fun _ h g=>?_;refine I [4] ?_ ?_<;>intro _ h
  ·refine B [5] fun _ e h=>?_;refine cA (rA e) ?_;exact je
  refine S [2,3] ?_;refine Jb 94 hn h [2,7,9,11] [7] (fun _ h g=>?_) ?_
  ·exact F8 [4] [1] [5]
  intro l h;refine I [4] ?_ ?_<;>intro _ h
  ·refine B [8,13] fun _ f h=>?_;refine cA (rA f) ?_;exact je
  exact Sr [3,7]
 rintro⟨n,o⟩ h;refine Ir [2,6,3,4] [3,7] fun _ h=>?_;refine S [2] ?_;refine Jb 109 hn h [] [] (fun _ h g=>?_) ?_
 ·refine I [5] ?_ ?_<;>intro _ h
  ·refine B [0] fun _ i h=>?_;refine cA (qp i) ?_;refine Ij [0] [0] fun _ h=>?_;refine I [0] ?_ ?_<;>intro _ h
   ·refine Ij [0] [0] fun _ h=>?_;exact F8 [0] [0] [0]
   exact F8 [0] [0] [0]
  refine I [0] ?_ ?_<;>intro _ h
  ·refine Ij [0] [0] fun _ h=>?_;exact F8 [0] [0] [0]
  exact F8 [0] [0] [0]
 intro m h;exact ia [4] [3,7] [1,3,7]
def FK {N a0 r} (h:rZ N a0=some r):Spec prog 108 [] [.agg (bd a0)] (.aZ [.int r.1,.int r.2]) [] []:=by
 refine so func108 ntmps108 fun b hn=>?_;unfold rZ at h;refine S [3,2,3,6,2,3] ?_;refine Jb 6 hn h [1,5] [1] (fun _ h g=>?_) ?_
 ·refine Ij [4] [1] fun _ h=>?_;refine S [3] ?_;refine eA 6 hn h [1,5] [1] [] fun _ h g=>?_;refine Ij [4] [1] fun _ h=>?_;refine S [3] ?_;refine eA 6 hn h [1,5] [1] [] fun _ h g=>?_;refine Ij [4] [1] fun _ h=>?_;refine S [3] ?_;refine eA 6 hn h [1,5] [1] [] fun _ h g=>?_;exact F8 [4] [1] [5]
 intro a h;refine Ir [4] [3,7] fun _ h=>?_;refine Ir [3,4] [3,7] fun _ h=>?_;refine Ir [3,4] [3,12,7] fun _ h=>?_;exact ia [3,4] [3,7] [1,3,7]
def GI {N a0 r} (h:rS N a0=some r):Spec prog 75 [] [.agg (G9 a0)] (.aZ [.aK 0,.agg (vY r.2)]) [(0,w3 r.1)] [0]:=by
 refine so func75 ntmps75 fun W hn=>?_;unfold rS at h;refine A [3,3,13] fun z h=>?_;refine kj (enc:=cE) (x:=(0:Int)) z aT ?_;refine S [2,3,13] ?_;refine j6.cK 17 rfl (fun u=>?_);refine LU e0 hn (MI (a0.code.length:Int).toNat (0:Int)) (fun l k v=>ky N l k v) h (fun y v=>[(18,.int (y:Int))]) (fun y v=>[(15,w3 v)]) [1,3,4,17] [1,3] [] nl (fun s=>[(15,w3 s)]) [1,3,4] [1,3] ?_ ?_ ?_
 ·intro _ g y G h _;rw[ky] at h;exact Sj [3,2,4,0,20]
 ·intro _ g y G H h m _;rw[ky] at h;refine B [3,2,4,0,1,2,6,3,5] fun _ c h=>?_;refine bT c ?_;refine sM (l6 c).2 (-1:Int) ?_;refine S [5] ?_;refine MF (AN (jc m u) ?_);exact le (G.set ((y:Int).toNat) (-1:Int)) []
 intro V h;refine S [3] ?_;refine bS vJ [(⟨(0:Int),(0:Int)⟩:dp)] ?_;refine S [2] ?_;refine LF e1 hn (V,[(⟨(0:Int),(0:Int)⟩:dp)]) (fun l v=>mo N a0 l v.1 v.2) h (fun v=>[]) (fun v=>[(15,w3 v.1),(26,d49 v.2)]) [1,3,4,6] [1,3] [] nl (fun s=>[(15,w3 s)]) [3,4] [3] ?_ ?_
 ·rintro _ g ⟨L,M⟩ K h;rw[mo] at h;refine I [2,3,13,4] ?_ ?_<;>intro _ h
  ·refine S [1] ?_;refine J e1 hn h (fun s=>[(6,.aK 39)]) (fun s=>[(15,w3 s.1),(39,d49 s.2)]) [1,3,4] [1,3] (fun _ h g=>?_) ?_
   ·refine B [6,2,8] fun E d h=>?_;refine bT d ?_;refine S [17] ?_;refine V8 (l6 d).2 ?_;refine B [] fun n e h=>?_;refine bT e ?_;refine S [17] ?_;refine V8 (l6 e).2 ?_;refine kd [1,3,4,6,7,8] [1,3,15,26] ?_;refine A [3] fun o h=>?_;refine LA o rfl rfl ?_;refine S [2,2] ?_;refine Jb 48 hn h [1,3,4,6,7,8] [1,3,15,39] (fun _ h g=>?_) ?_
    ·exact F8 [5] [0] [0,13,0]
    intro P h;refine I [4] ?_ ?_<;>intro _ h
    ·refine S [2,8,13] ?_;refine nR 2 202 1 3 ?_;exact Sr [7] [(0,202)]
    refine B [1,2,3] fun _ f h=>?_;refine bT f ?_;refine V8 (l6 f).2 ?_;refine I [4] ?_ ?_<;>intro _ h
    ·refine B [2,3] fun _ i h=>?_;refine bT i ?_;refine V8 (l6 i).2 ?_;refine I [4] ?_ ?_<;>intro _ h
     ·refine kd [3,7] [3] ?_;refine S [3] ?_;refine nR 2 202 1 3 ?_;exact Sr [7] [(0,202)]
     exact Sj [1,20]
    refine B [1,3] fun _ j h=>?_;refine bT j ?_;refine sM (l6 j).2 n.f1 ?_;refine B [3] fun F w h=>?_;refine G6 w ?_;refine kd [1,3,4,6,7,8,9] [1,3,9,15,39] ?_;refine B [3] fun b t h=>?_;refine cA (FK t) ?_;refine S [2,2] ?_;refine Jb 91 hn h [1,3,4,6,7,8,9,10,11] [1,3,9,15,39] (fun _ h g=>?_) ?_
    ·refine Ij [5] [0] fun _ h=>?_;exact F8 [0] [0] [0]
    intro Q h;refine I [4] ?_ ?_<;>intro _ h
    ·refine S [3] ?_;refine nR 2 202 1 3 ?_;exact Sr [7] [(0,202)]
    refine I [1,3,12,12,2,3,4] ?_ ?_<;>intro _ h
    ·refine kd [3,7] [3] ?_;refine S [3] ?_;refine nR 2 202 1 3 ?_;exact Sr [7] [(0,202)]
    refine S [1,2,2] ?_;refine Jb 110 hn h [1,3,4,6,7,8,9] [1,3,9,15,39] (fun _ h g=>?_) ?_
    ·refine kd [1,3,4,6,7,8,9] [1,3,9,15,39] ?_;exact F8 [5] [0] [0]
    intro R h;refine J e0 hn h (fun s=>[(6,.aK 117)]) (fun s=>[(117,d49 s)]) [1,3,4,8,9] [1,3,9,15] (fun _ h g=>?_) ?_
    ·refine I [4] ?_ ?_<;>intro _ h
     ·refine S [5,12] ?_;refine bS vJ [(⟨(wr (E.f0+(1:Int))),(wr (n.f1+(wr (b.2-b.1))))⟩:dp)] ?_;refine A [] fun p h=>?_;refine aM p ?_;exact je
     exact Sj [1] [(117,39)]
    intro T h;refine S [2] ?_;refine Jb 125 hn h [1,3,4,6,8,9] [1,3,9,15,117] (fun _ h g=>?_) ?_
    ·exact F8 [5] [0] [0]
    intro U h;refine Jk e0 hn h (fun s=>[(6,.aK 132)]) (fun s=>[(132,d49 s)]) [1,3,4] [1,3,15] [(39,132)] fun _ h g=>?_;refine I [4] ?_ ?_<;>intro _ h
    ·refine S [5] ?_;refine bS vJ [(⟨F.a,(wr (n.f1+(wr (b.2-b.1))))⟩:dp)] ?_;refine A [] fun q h=>?_;refine aM q ?_;exact je
    exact Sj [1] [(132,117)]
   rintro⟨C,D⟩ h;exact le (C,D) [(26,39)]
  exact Sj [20]
 intro O h;exact Sr [3,7] [(0,15)]
def B3 {N a0 a1 a2 r} (h:pU N a0 a1 a2=some r):Spec prog 39 [] [.agg (M8 a0),.int a1,.agg (G9 a2)] (.agg (vY r)) [] []:=by
 refine so func39 ntmps39 fun p hn=>?_;unfold pU at h;refine S [3,2,6,2] ?_;refine Jb 12 hn h [1,3,5,6] [3,5,6] (fun _ h g=>?_) ?_
 ·exact F8 [5] [0] [0,13,0]
 intro n h;refine Ir [4] [3,7] fun _ h=>?_;refine B [3] fun _ i h=>?_;refine cA (qp i) ?_;refine Ir [4] [3,7] fun _ h=>?_;refine S [2] ?_;refine Jb 29 hn h [1,3,5,6] [3,5,6] (fun _ h g=>?_) ?_
 ·refine Ij [5] [0] fun _ h=>?_;refine Ij [0] [0] fun _ h=>?_;exact F8 [0] [0] [0]
 intro o h;refine Ir [4] [3,7] fun _ h=>?_;refine Ir [3,4] [3,7] fun _ h=>?_;refine S [2] ?_;refine Jb 54 hn h [1,3,5,6] [3,5,6] (fun _ h g=>?_) ?_
 ·exact F8 [5,13] [0] [0,13,0]
 intro j h;refine Ir [4] [3,7] fun _ h=>?_;refine S [1,2,3] ?_;refine J2 fun c=>?_;refine j6.gh (Gh.bA 3 3 rfl rfl rfl) (fun _=>?_);refine j6.gh (Gh.bA 5 5 rfl rfl rfl) (fun _=>?_);refine LR e1 hn () (fun l k v=>nC N a0 a1 a2 l k) h (fun a v=>[(69,.int (a:Int))]) (fun a v=>[]) [1,3,5,6,67,68] [6] [] nl nl [5,6] [6] ?_ ?_ ?_
 ·intro _ g a _ h _;rw[nC] at h;exact Sj [3,2,4,0,20]
 ·intro _ g a _ m f h _ b _;rw[nC] at h;refine S [3,2,4,0,1,2,6,3] ?_;refine P9 b ?_;refine B [3] fun _ d h=>?_;refine cA (GG d) ?_;refine kd [1,3,5,6,7,9,67,68,69] [6] ?_;refine Ir [3,4] [3,7] fun _ h=>?_;refine S [1,5] ?_;refine MF (AN (M7 b c) ?_);exact le () []
 rintro⟨⟩ h;refine B [3] fun _ e h=>?_;refine cA ((GI e).sw 0 85) ?_;exact Sr [3,7]
def Z8 {N a0 a1 g2 r} (h:y7 N a0 a1 g2=some r) {o:Nat} (c:∀j k p,g2 j k=some p->Spec prog o [] [.agg (G9 j),.str k] (.int p) [] []):Spec prog 106 [] [Lt a0,.str a1,.fn o []] (.aZ [.int r.1,.bool r.2]) [] []:=by
 refine so func106 ntmps106 fun y hn=>?_;unfold y7 at h;refine S [3,3,13,3,2] ?_;refine LF e0 hn ((0:Int),(a0.length:Int)) (fun l v=>u6 N a0 a1 g2 l v.1 v.2) h (fun v=>[(9,.int v.1),(10,.int v.2)]) (fun v=>[]) [0,1,2,8] [] [] (fun s=>[(9,.int s)]) nl [0,1,2,8] [] ?_ ?_
 ·rintro _ g ⟨w,x⟩ q h;rw[u6] at h;refine I [2,3,4] ?_ ?_<;>intro _ h
  ·refine S [1] ?_;refine J e0 hn h (fun s=>[(9,.int s.1),(10,.int s.2)]) nl [0,1,2,8] [] (fun _ h g=>?_) ?_
   ·refine A [6,3,12] fun a h=>?_;refine yx a ?_;refine A [10,10] fun b h=>?_;refine yx b ?_;refine B [3] fun _ f h=>?_;refine G6 f ?_;refine B [] fun _ d h=>?_;refine cA (c _ _ _ d) ?_;refine Jk e0 hn h (fun s=>[(9,.int s.1),(10,.int s.2)]) nl [0,1,2,8] [] [] fun _ h g=>?_;refine I [4] ?_ ?_<;>intro _ h
    ·refine kd [0,1,2,8,10,11] [] ?_;exact Sj [5,12]
    refine kd [0,1,2,8,9,11] [] ?_;exact Sj [5]
   rintro⟨m,n⟩ h;exact le (m,n) []
  exact Sj [20]
 intro u h;refine S [2] ?_;refine J e0 hn h (fun s=>[(6,.int u),(7,.bool s)]) nl [] [] (fun _ h g=>?_) ?_
 ·refine I [5] ?_ ?_<;>intro _ h
  ·refine B [0] fun _ i h=>?_;refine G6 i ?_;refine B [0] fun _ e h=>?_;refine cA (c _ _ _ e) ?_;exact Sj [0]
  exact Sj [0]
 intro t h;exact Sr [7]
def zv {N a0 r} (h:cmp_isNaN_string N a0=some r):Spec prog 145 [] [.str a0] (.bool r) [] []:=by
 refine so func145 ntmps145 fun a hn=>?_;unfold cmp_isNaN_string at h;exact Sr [3,3,7]
def FU {N a0 a1 r} (h:uG N a0 a1=some r):Spec prog 105 [] [.str a0,.str a1] (.int r) [] []:=by
 refine so func105 ntmps105 fun c hn=>?_;unfold uG at h;refine B [3,3] fun _ a h=>?_;refine cA (zv a) ?_;refine B [3] fun _ b h=>?_;refine cA (zv b) ?_;refine I [2,3,4] ?_ ?_<;>intro _ h
 ·exact ia [2,3,4] [3,7] [1,3,7]
 refine Ir [1,2,3,4] [3,7] fun _ h=>?_;refine Ir [1,2,3,4] [3,7] fun _ h=>?_;refine I [1,2,3,4] ?_ ?_<;>intro _ h
 ·refine kd [] [] ?_;exact Sr [3,7]
 refine S [1] ?_;refine kd [] [] ?_;exact Sr [3,7]
def Ae {N a0 a1 r} (h:jY N a0 a1=some r):Spec prog 72 [] [.agg (G9 a0),.str a1] (.int r) [] []:=by
 refine so func72 ntmps72 fun b hn=>?_;unfold jY at h;refine B [3,3] fun _ a h=>?_;refine cA (FU a) ?_;exact Sr [7]
def GY {N a0 r} (h:rb N a0=some r):Spec prog 60 [] [.agg (M8 a0)] (.agg [.aK 0,jO r.heap,.int r.aC]) [(0,d81 r.a7 [] 1),(1,.aF)] [0,1]:=by
 refine so func60 ntmps60 fun C hn=>?_;unfold rb at h;refine B [3,2,8] fun _ u h=>?_;refine cA (((ue u).sw 0 11).sw 1 711) ?_;refine S [2,3] ?_;refine J2 fun t=>?_;refine nB 3 0 501 4 81 ?_;refine gC (gT 501 502 [(3,(5,27))]) ?_;refine LR e0 hn ([]:List Cl) (fun l k v=>lC N l k v) h (fun p v=>[(18,.int (p:Int))]) (fun p v=>[(501,d81 v [] 502)]) [2,3,16,17] [2,3,11,502,711] [] nl (fun s=>[(501,d81 s [] 502)]) [2,3] [2,3,11,502,711] ?_ ?_ ?_
 ·intro _ g p x h _;rw[lC] at h;exact Sj [3,2,4,0,20]
 ·intro _ g p x a w h _ c _;rw[lC] at h;refine S [3,2,4,0,1,2,6,3] ?_;refine P9 c ?_;refine S [3,2,3] ?_;refine J2 fun j=>?_;refine nR 6 206 5 27 ?_;refine LR e0 hn ([]:List Me) (fun l k v=>lA N l k v) h (fun b v=>[(25,.int (b:Int))]) (fun b v=>[(206,km v)]) [2,3,5,6,16,17,18,23,24] [2,3,5,11,501,502,711] [] nl (fun s=>[(206,km s)]) [2,3,5,6,16,17,18] [2,3,5,11,501,502,711] ?_ ?_ ?_
  ·intro _ g b o h _;rw[lA] at h;exact Sj [3,2,4,0,20]
  ·intro _ g b o y q h _ d _;rw[lA] at h;refine S [3,2,4,0,1,2,6,3] ?_;refine P9 d ?_;refine B [5] fun n m h=>?_;refine cA (uZ m) ?_;refine bS G9 [n] ?_;refine A [] fun f h=>?_;refine aM f ?_;refine kd [2,3,5,6,16,17,18,23,24,25] [2,3,5,11,33,501,502,711] ?_;refine S [5] ?_;refine MF (AN (M7 d j) ?_);exact le (o++[n]) [(206,33)]
  intro e h;refine S [3,5,11] ?_;refine Exists.intro [(3,(5,27))] (Exists.intro (fI (⟨a.name,a.aQ,a.aG,e⟩:Cl)) (Exists.intro [(206,km e)] (AN rfl (AN rfl (AN rfl (AN G8 (AN G8 (AN rfl (AN rfl ?_)))))))));refine A [] fun i h=>?_;refine aD i ?_;refine S [5] ?_;refine MF (AN (M7 c t) ?_);exact le (x++[(⟨a.name,a.aQ,a.aG,e⟩:Cl)]) [(501,41),(502,741)]
 intro z h;refine S [3] ?_;refine j6.ay 11 rfl ?_;exact Sr [7] [(0,501),(1,502)]
def G2 {N a0 a1 a2 r} (h:qq N a0 a1 a2=some r):Spec prog 97 [] [.agg (M8 a0),.int a1,.agg (G9 a2)] (.aZ [.agg (M8 r.1),.int r.2]) [] []:=by
 refine so func97 ntmps97 fun w hn=>?_;unfold qq at h;refine S [3,2,2] ?_;refine Jb 20 hn h [1,3,5,6] [3,5,6] (fun _ h g=>?_) ?_
 ·exact F8 [5] [0] [0,13,0]
 intro v h;refine Ir [4] [3,7] fun _ h=>?_;refine B [1,2,8] fun _ n h=>?_;refine G6 n ?_;refine B [] fun q m h=>?_;refine cA (Z8 m (fun _ _ _ p=>Ae p)) ?_;refine S [2,2] ?_;refine Jb 45 hn h [1,3,5,6,8,9] [3,5,6] (fun _ h g=>?_) ?_
 ·refine kd [1,3,5,6,8,9] [3,5,6] ?_;refine I [5] ?_ ?_<;>intro _ h
  ·refine B [0] fun _ k h=>?_;refine G6 k ?_;exact Sj [0,13,0]
  exact Sj [0]
 intro t h;refine Ir [4] [3,7] fun _ h=>?_;refine B [1,3] fun _ f h=>?_;refine cA (((GY f).sw 0 48).sw 1 748) ?_;refine B [3] fun e a h=>?_;refine iD a ?_;refine S [2,3] ?_;refine J e0 hn h nl (fun s=>[(48,d81 s [] 501),(501,.aF)]) [5,6,8,10,11] [5,6,10] (fun _ h g=>?_) ?_
 ·refine I [4] ?_ ?_<;>intro _ h
  ·refine gC (gD 48 501 502 a1.toNat 3 (l6 a).2) ?_;refine kd [5,6,8,10,11] [5,6,10,48,501,502] ?_;refine S [5] ?_;refine hD (l6 a).2 ?_;refine bS G9 [(⟨BY,(0:Int),(0:Int),(0:Int),[]⟩:Me)] ?_;refine B [] fun o i h=>?_;refine cA ((((Fa N _ _ _ _ i).sw 1000 501).sw 1032 62).sw 0 63) ?_;refine hS (l6 a).2 ?_;refine gE (gA 48 63 503 a1.toNat 3 ((l6 a).2) (⟨e.name,e.aQ,e.aG,o⟩:Cl)) ?_;exact je [(501,503)]
  exact Sj [1] [(501,748)]
 intro u h;refine B [2] fun c b h=>?_;refine gC (gD 48 504 505 a1.toNat 3 b) ?_;refine kd [5,6,8,10,11] [5,6,10,48,504,505] ?_;refine S [8] ?_;refine hD b ?_;refine B [] fun l j h=>?_;refine cA (uZ j) ?_;refine B [] fun _ d h=>?_;refine bT d ?_;refine sM (l6 d).2 l ?_;refine gC (gA 48 504 506 a1.toNat 3 b (⟨c.name,c.aQ,c.aG,(c.aB.set q.1.toNat l)⟩:Cl)) ?_;refine kd [6,10] [6,10,48,506] ?_;refine S [3,12,3] ?_;refine j6.ay 48 rfl ?_;exact Sr [7]
def Fu {N a0 a1 a2 r} (h:uc N a0 a1 a2=some r):Spec prog 65 [(1000,.box (Y7 a0) 45)] [.ptr 1000 0,.int a1,.agg (G9 a2)] (.agg (nf r.1)) [(1000,.box (Y7 r.2) 45)] []:=by
 refine so func65 ntmps65 fun d hn=>?_;unfold uc at h;refine B [3,2,2,8] fun _ a h=>?_;refine cA (B3 a) ?_;refine Ir [3,4] [3,7] fun _ h=>?_;refine B [1,2,8] fun _ b h=>?_;refine cA (G2 b) ?_;refine S [2] ?_;refine kd [0,6,8,9] [6,8,1000] ?_;refine S [3] ?_;refine J e0 hn h nl (fun s=>[(1000,.box (Y7 s) 45)]) [0,6,9] [6] (fun _ h g=>?_) ?_
 ·exact F8 [4] [5] [1]
 intro c h;exact Sr [3,7]
def B9 {N a0 a1 a2 r} (h:ja N a0 a1 a2=some r):Spec prog 98 [] [jO a0,.int a1,.int a2] (.aZ [.aK 0,.agg (eV r.2.1),.int r.2.2]) [(0,Q8 r.1 [] 1),(1,.aF)] [0,1]:=by
 refine so func98 ntmps98 fun d hn=>?_;unfold ja at h;refine I [3,2,3,13,4] ?_ ?_<;>intro _ h
 ·refine S [3] ?_;refine nR 6 206 2 92 ?_;refine gC (gT 206 501 [(1,(2,29))]) ?_;exact Sr [7] [(0,206),(1,501)]
 refine B [1,2,8] fun _ c h=>?_;refine cA (((ue c).sw 0 14).sw 1 714) ?_;refine A [] fun a h=>?_;refine kj (enc:=eV) (x:=(⟨(0:Int),(0:Int)⟩:V)) a aT ?_;refine S [11] ?_;refine Exists.intro [(1,(2,29))] (Exists.intro (hF (⟨a1,(MI (max a2 (0:Int)).toNat (⟨(0:Int),(0:Int)⟩:V))⟩:Ob)) (Exists.intro [(18,iZ (MI (max a2 (0:Int)).toNat (⟨(0:Int),(0:Int)⟩:V)))] (AN rfl (AN rfl (AN rfl (AN G8 (AN G8 (AN rfl (AN rfl ?_)))))))));refine A [] fun b h=>?_;refine aD b ?_;exact Sr [13,7] [(0,21),(1,721)]
def FA {N a0 a1 r} (h:uk N a0 a1=some r):Spec prog 66 [(1000,.box (Y7 a0) 45)] [.ptr 1000 0,.int a1] (.agg (nf r.1)) [(1000,.box (Y7 r.2) 45)] []:=by
 refine so func66 ntmps66 fun d hn=>?_;unfold uk at h;refine S [3,2,2] ?_;refine Jb 23 hn h [0,1,4] [4,1000] (fun _ h g=>?_) ?_
 ·refine I [5] ?_ ?_<;>intro _ h
  ·exact F8 [0] [0] [0,13,0]
  exact Sj [0]
 intro c h;refine Ir [4] [3,7] fun _ h=>?_;refine S [1,2] ?_;refine kd [0,1,4] [4,1000] ?_;refine B [8] fun _ b h=>?_;refine cA (mq b) ?_;refine B [] fun _ a h=>?_;refine cA (((B9 a).sw 0 38).sw 1 738) ?_;refine S [2] ?_;refine kd [0,4,5,6,7] [4,6,38,738,1000] ?_;refine Ir [3,4] [3,7] fun _ h=>?_;refine S [1,3,3] ?_;refine j6.ay 38 rfl ?_;exact Sr [7]
def Ac {N a0 a1 r} (h:pD N a0 a1=some r):Spec prog 76 [] [.agg (eV a0),.int a1] (.int r) [] []:=by
 refine so func76 ntmps76 fun d hn=>?_;unfold pD at h;refine S [3,2,3] ?_;refine J e1 hn h nl nl [] [] (fun _ h g=>?_) ?_
 ·refine S [6,2,3] ?_;refine Jb 7 hn h [1,2,6] [2] (fun _ h g=>?_) ?_
  ·refine Ij [4] [1] fun _ h=>?_;refine S [3] ?_;refine eA 7 hn h [1,2,6] [2] [] fun _ h g=>?_;exact F8 [4] [1] [5]
  intro c h;refine Jk e1 hn h nl nl [] [] [] fun _ h g=>?_;refine I [4] ?_ ?_<;>intro _ h
  ·refine Ir [3,4] [3,7] fun _ h=>?_;exact Sj [1]
  refine S [3] ?_;refine Jk e1 hn h nl nl [] [] [] fun _ h g=>?_;refine I [4] ?_ ?_<;>intro _ h
  ·refine S [2] ?_;refine Jb 23 hn h [] [] (fun _ h g=>?_) ?_
   ·exact F8 [5] [0] [0]
   intro a h;refine Ir [4] [3,7] fun _ h=>?_;exact Sj [1]
  refine I [3,4] ?_ ?_<;>intro _ h
  ·refine S [2] ?_;refine Jb 34 hn h [] [] (fun _ h g=>?_) ?_
   ·exact F8 [5] [0] [0]
   intro b h;refine Ir [4] [3,7] fun _ h=>?_;exact Sj [1]
  exact Sr [3,7]
 rintro⟨⟩ h;exact Sr [3,7]
def wA {N a0 a1 a2 r} (h:pb N a0 a1 a2=some r):Spec prog 163 [] [.agg (M8 a0),.agg (kN a1),.int a2] (.int r) [] []:=by
 refine so func163 ntmps163 fun o hn=>?_;unfold pb at h;refine B [3,2,3] fun _ j h=>?_;refine cA (qp j) ?_;refine Ir [4] [3,7] fun _ h=>?_;refine Ir [1,2,3,13,4] [3,7] fun _ h=>?_;refine S [1,2,2] ?_;refine Jb 23 hn h [3,4] [3,4] (fun _ h g=>?_) ?_
 ·exact F8 [5] [0] [0]
 intro n h;refine Ir [4] [3,7] fun _ h=>?_;refine S [1,2,3] ?_;refine bS eV [a1.aR] ?_;refine A [] fun c h=>?_;refine aM c ?_;refine J2 fun d=>?_;refine LR e1 hn () (fun l k v=>nG N a0 a1 l k) h (fun a v=>[(31,.int (a:Int))]) (fun a v=>[]) [3,29,30] [3,29] [] nl nl [] [] ?_ ?_ ?_
 ·intro _ g a _ h _;rw[nG] at h;exact Sj [3,2,4,0,20]
 ·intro _ g a _ m i h _ f _;rw[nG] at h;refine B [3,2,4,0,1,2,6,3] fun _ b h=>?_;refine bT b ?_;refine V8 (l6 b).2 ?_;refine B [3,13] fun _ e h=>?_;refine cA (Ac e) ?_;refine Ir [3,4] [3,7] fun _ h=>?_;refine S [1,5] ?_;refine MF (AN (M7 f d) ?_);exact le () []
 rintro⟨⟩ h;exact Sr [3,7]
def mw {N a0 a1 r} (h:kC N a0 a1=some r):Spec prog 164 [] [jO a0,.agg (eV a1)] (.int r) [] []:=by
 refine so func164 ntmps164 fun d hn=>?_;unfold kC at h;refine Ir [3,2,3,6,3,4] [3,7] fun _ h=>?_;refine S [2,3] ?_;refine Jb 9 hn h [0,3,6] [3] (fun _ h g=>?_) ?_
 ·exact F8 [4] [1] [5]
 intro b h;refine Ir [4] [3,7] fun _ h=>?_;refine Ir [3,4] [3,7] fun _ h=>?_;refine S [1,2,2] ?_;refine Jb 28 hn h [0,3] [3] (fun _ h g=>?_) ?_
 ·refine I [5] ?_ ?_<;>intro _ h
  ·exact F8 [0] [0,13,0] [0]
  exact Sj [0]
 intro c h;refine I [4] ?_ ?_<;>intro _ h
 ·refine B [3] fun _ a h=>?_;refine G6 a ?_;exact Sr [7]
 exact Sr [1,3,7]
def jV {N a0 a1 a2 r} (h:fR N a0 a1 a2=some r):Spec prog 73 [] [.agg (M8 a0),.int a1,.str a2] (.aZ [.int r.1,.int r.2]) [] []:=by
 refine so func73 ntmps73 fun m hn=>?_;unfold fR at h;refine S [3,2,3] ?_;refine LF e1 hn (a1,(0:Int)) (fun l v=>n9 N a0 a2 l v.1 v.2) h (fun v=>[(1,.int v.1),(8,.int v.2)]) (fun v=>[]) [2,3] [3] [] nl nl [] [] ?_ ?_
 ·rintro _ g ⟨k,i⟩ j h;rw[n9] at h;refine S [2,2] ?_;refine Jb 26 hn h [1,2,3,8] [3] (fun _ h g=>?_) ?_
  ·refine I [5] ?_ ?_<;>intro _ h
   ·exact F8 [0,13,0] [0,13,0] [0]
   exact Sj [0]
  intro f h;refine I [4] ?_ ?_<;>intro _ h
  ·refine B [1,2,6,2,3] fun _ b h=>?_;refine G6 b ?_;refine B [] fun _ a h=>?_;refine cA (Z8 a (fun _ _ _ e=>Ae e)) ?_;refine kd [1,2,3,8,9,10] [3] ?_;refine Ir [3,4] [3,7] fun _ h=>?_;refine B [1,5] fun d c h=>?_;refine G6 c ?_;refine S [5,12] ?_;exact le (d.aQ,(wr (i+(1:Int)))) []
  exact Sj [20]
 rintro⟨⟩ h;exact Sr [3,7]
def u7 {N a0 a1 r} (h:I1 N a0 a1=some r) (a b:Value):Spec prog 165 [(1000,mB a0 (.aU a) (.aU b) 1001 1003)] [.ptr 1000 0,.int a1] (.aZ []) [(1000,mB r (.aU a) (.aU b) 1001 1003)] []:=by
 refine so func165 ntmps165 fun d hn=>?_;unfold I1 at h;refine S [15,3] ?_;refine J e0 hn h nl (fun s=>[(1000,.box [.ptr 1001 0,.aU a,.aU b,.int a0.fuel,.int a0.sends,.int a0.turns,.aK 1003,.int a0.back.k,.int a0.back.n,.int s] 251)]) [0] [] (fun _ h g=>?_) ?_
 ·exact F8 [4] [5] [1]
 intro c h;exact Sr [14]
def M6 {N a0 a1 r} (h:kp N a0 a1=some r) (a b:Value):Spec prog 195 [(1000,mB a0 (.aU a) (.aU b) 1001 1003),(1003,D9 a0.aE [] 1005)] [.ptr 1000 0,.bool a1] (.bool r.1) [(1000,mB r.2 (.aU a) (.aU b) 1001 1003),(1003,D9 a0.aE [] 1005)] []:=by
 refine so func195 ntmps195 fun n hn=>?_;unfold kp at h;refine S [3,2] ?_;refine J e1 hn h nl (fun s=>[(1000,.box [.ptr 1001 0,.aU a,.aU b,.int s.1,.int s.2.1,.int s.2.2.1,.aK 1003,.int s.2.2.2.1,.int s.2.2.2.2.1,.int s.2.2.2.2.2] 251)]) [0] [1003] (fun _ h g=>?_) ?_
 ·refine S [6,2,8] ?_;refine Jk e1 hn h nl (fun s=>[(1000,.box [.ptr 1001 0,.aU a,.aU b,.int s.1,.int s.2.1,.int s.2.2.1,.aK 1003,.int s.2.2.2.1,.int s.2.2.2.2.1,.int s.2.2.2.2.2] 251)]) [0] [1003] [] fun _ h g=>?_;refine I [4] ?_ ?_<;>intro _ h
  ·refine B [5] fun _ c h=>?_;refine cA (mb (.aU a) (.aU b) fun _ _=>(u7 c _ _)) ?_;exact je
  refine S [2] ?_;refine Jb 24 hn h [0] [1000,1003] (fun _ h g=>?_) ?_
  ·exact F8 [5] [0,13,0] [0]
  intro e h;refine I [4] ?_ ?_<;>intro _ h
  ·refine B [5] fun _ d h=>?_;refine cA (mb (.aU a) (.aU b) fun _ _=>(u7 d _ _)) ?_;exact je
  exact Sr [3,12,3,7]
 rintro⟨f,i,j,k,l,m⟩ h;exact Sr [3,7]
def wR {N a0 r} (h:nJ N a0=some r):Spec prog 225 [] [.int a0] (.agg (eV r)) [] []:=by
 refine so func225 ntmps225 fun a hn=>?_;unfold nJ at h;exact Sr [3,3,16,7]
def wY {N a0 r} (h:pT N a0=some r):Spec prog 226 [] [.bool a0] (.agg (eV r)) [] []:=by
 refine so func226 ntmps226 fun a hn=>?_;unfold pT at h;exact ia [3,2,3,4] [3,7] [1,3,7]
def wX {N a0 a1 a2 r} (h:rr N a0 a1 a2=some r):Spec prog 196 [] [.int a0,.agg (eV a1),.agg (eV a2)] (.aZ [.agg (eV r.1),.int r.2]) [] []:=by
 refine so func196 ntmps196 fun i hn=>?_;unfold rr at h;refine S [3,2,2] ?_;refine Jb 16 hn h [0,4,5,6] [4,5,6] (fun _ h g=>?_) ?_
 ·exact F8 [5] [0] [0]
 intro f h;refine Ir [4] [3,7] fun _ h=>?_;refine I [1,3,2,3,6,3,4] ?_ ?_<;>intro _ h
 ·refine B [3,12] fun _ e h=>?_;refine cA (wR e) ?_;exact Sr [7]
 refine I [3,4] ?_ ?_<;>intro _ h
 ·refine B [3,12] fun _ a h=>?_;refine cA (wR a) ?_;exact Sr [7]
 refine I [3,4] ?_ ?_<;>intro _ h
 ·refine B [3,12] fun _ b h=>?_;refine cA (wR b) ?_;exact Sr [7]
 refine I [3,4] ?_ ?_<;>intro _ h
 ·refine B [3] fun _ c h=>?_;refine cA (wY c) ?_;exact Sr [7]
 refine I [3,4] ?_ ?_<;>intro _ h
 ·refine kd [4,5,6] [4,5,6] ?_;refine B [3] fun _ d h=>?_;refine cA (wY d) ?_;exact Sr [7]
 refine S [1] ?_;refine kd [6] [6] ?_;exact Sr [3,7]
def oe {N a0 a1 r} (h:kr N a0 a1=some r) (d e:Value):Spec prog 197 [(1000,mB a0 (.aU d) (.aU e) 1001 1003),(1003,D9 a0.aE [] 1005)] [.ptr 1000 0,.agg (eV a1)] (.aZ []) [(1000,mB r (.aU d) (.aU e) 1001 1003),(1003,D9 r.aE [] 5),(5,.aF)] [5]:=by
 refine so func197 ntmps197 fun f hn=>?_;unfold kr at h;refine I [15,3,2,3,13,4] ?_ ?_<;>intro _ h
 ·refine S [3] ?_;refine gC (gS 1003 501) ?_;exact Sr [7] [(5,501)]
 refine B [1,2,8,13,12] fun b a h=>?_;refine iD a ?_;refine gC (gD 1003 502 503 ((wr ((a0.aE.length:Int)-(1:Int))).toNat) 8 (l6 a).2) ?_;refine kd [0,3,4] [3,502,503,1000,1003] ?_;refine S [8] ?_;refine hD (l6 a).2 ?_;refine bS eV [a1] ?_;refine A [] fun c h=>?_;refine aM c ?_;refine hS (l6 a).2 ?_;refine gE (gA 1003 33 504 ((wr ((a0.aE.length:Int)-(1:Int))).toNat) 8 ((l6 a).2) (⟨b.aI,b.aL,b.aY,b.code,b.aR,b.args,b.a8,(b.aA++[a1]),b.aH⟩:j3)) ?_;exact Sr [14] [(5,504)]
def zp {N a0 gq a1 a2 a3 a4 r} (h:O3 N a0 gq a1 a2 a3 a4=some r) {c:Nat} {a:List AV} {b:Nat} (z:∀v y K,gq v y=some K->Spec prog b [] [.int v,.int y] (.aZ [.agg (eb K.1),.bool K.2]) [] []):Spec prog 166 [(1000,mB a0 (.fn c [.fp a]) (.fn b []) 1001 1003),(1001,.box [N8 a0.w.a7,.aK 1002,.int a0.w.aC] 40),(1003,D9 a0.aE [] 1005)] [.ptr 1000 0,.int a1,.int a2,.agg (eV a3),zK a4] (.aZ []) [(1000,mB r (.fn c [.fp a]) (.fn b []) 1001 4),(1001,.box [N8 a0.w.a7,.aK 1002,.int a0.w.aC] 40),(4,D9 r.aE [] 5),(5,.aF),(1003,.aF)] [5,4]:=by
 refine so func166 ntmps166 fun L hn=>?_;unfold O3 at h;refine B [15,3,3] fun _ D h=>?_;refine G6 D ?_;refine B [] fun _ E h=>?_;refine G6 E ?_;refine S [2] ?_;refine kd [0,1,2,4,8,10] [8,1000,1001,1003] ?_;refine I [3,13,4] ?_ ?_<;>intro _ h
 ·refine B [3] fun _ C h=>?_;refine cA (mb (.fn c [.fp a]) (.fn b []) fun _ _=>(u7 C _ _)) ?_;refine gC (gR 1000 6 1003 501 502) ?_;exact Sr [7] [(4,501),(5,502)]
 refine I [1,2,3,4] ?_ ?_<;>intro _ h
 ·refine S [2] ?_;refine kd [0,4,8,10] [8,1000,1001,1003] ?_;refine B [3] fun _ i h=>?_;refine cA (mb (.fn c [.fp a]) (.fn b []) fun _ _=>(M6 i _ _)) ?_;refine I [4] ?_ ?_<;>intro _ h
  ·refine gC (gR 1000 6 1003 503 504) ?_;exact Sr [7] [(4,503),(5,504)]
  refine B [1,2,8] fun _ t h=>?_;refine G6 t ?_;refine B [] fun _ j h=>?_;refine cA (wX j) ?_;refine S [2] ?_;refine kd [0,11,12] [11,1000,1001,1003] ?_;refine I [3,4] ?_ ?_<;>intro _ h
  ·refine B [3] fun _ l h=>?_;refine cA (mb (.fn c [.fp a]) (.fn b []) fun _ _=>(u7 l _ _)) ?_;refine gC (gR 1000 6 1003 505 506) ?_;exact Sr [7] [(4,505),(5,506)]
  refine B [1,3] fun _ m h=>?_;refine cA (mb (.fn c [.fp a]) (.fn b []) fun _ _=>((oe m _ _).sw 5 507)) ?_;refine gC (gR 1000 6 1003 508 509) ?_;exact Sr [7] [(4,508),(5,509)]
 refine S [1,2] ?_;refine kd [0,1,2,4,8,10] [8,1000,1001,1003] ?_;refine B [3] fun _ o h=>?_;refine cA (mb (.fn c [.fp a]) (.fn b []) fun _ _=>(M6 o _ _)) ?_;refine I [4] ?_ ?_<;>intro _ h
 ·refine gC (gR 1000 6 1003 510 511) ?_;exact Sr [7] [(4,510),(5,511)]
 refine S [1,2] ?_;refine kd [0,1,2,4,8,10] [8,1000,1001,1003] ?_;refine B [8] fun F p h=>?_;refine cA ((mf N _ _ p).sw 0 77) ?_;refine A [] fun d h=>?_;refine kj (enc:=eV) (x:=(⟨(0:Int),(0:Int)⟩:V)) d aT ?_;refine S [2] ?_;refine kd [0,1,2,13] [13,77,82,1000,1001,1003] ?_;refine B [3] fun _ q h=>?_;refine cA (z _ _ _ q) ?_;refine S [3] ?_;refine J e0 hn h nl (fun s=>[(13,.box [.int a1,.int a2,.bool s.1,oW s.2.1,.int a3.k,.int a3.n,.aK 77,.aK 99,.aJ,.int (0:Int)] 288),(99,iZ s.2.2)]) [0,13] [77,1000,1001,1003] (fun _ h g=>?_) ?_
 ·refine I [4] ?_ ?_<;>intro _ h
  ·refine kd [0,13,14] [13,14,77,82,1000,1001,1003] ?_;refine A [8] fun e h=>?_;refine kj (enc:=eV) (x:=(⟨(0:Int),(0:Int)⟩:V)) e aT ?_;exact je
  exact Sj [1] [(99,82)]
 rintro⟨G,H,u⟩ h;refine j6.ar 77 rfl ?_;refine kd [0,13] [13,99,1000,1001,1003] ?_;refine S [8,11] ?_;refine Exists.intro [(7,(2,29)),(8,(2,29))] (Exists.intro (vW (⟨a1,a2,G,H,a3,F,u,[],(0:Int)⟩:j3)) (Exists.intro [(99,iZ u)] (AN rfl (AN rfl (AN rfl (AN G8 (AN G8 (AN rfl (AN rfl ?_)))))))));refine A [] fun f h=>?_;refine aD f ?_;exact Sr [14] [(4,110),(5,810)]
def Eh {N a0 gl gq a1 a2 a3 r} (h:mi N a0 gl gq a1 a2 a3=some r) {u:Nat} {c:List AV} (y:∀d f t i,gl d f t=some i->Spec prog u [] [.agg (bU d),.int f,.str t,.fp c] (.aZ [.int i.1,.int i.2]) [] []) {v:Nat} (z:∀d f i,gq d f=some i->Spec prog v [] [.int d,.int f] (.aZ [.agg (eb i.1),.bool i.2]) [] []):Spec prog 198 [(1000,mB a0 (.fn u [.fp c]) (.fn v []) 1001 1003),(1001,.box [N8 a0.w.a7,.aK 1002,.int a0.w.aC] 40),(1002,Q8 a0.w.heap [] 1004),(1003,D9 a0.aE [] 1005)] [.ptr 1000 0,.ep 1003 a1 10 0,.agg (bd a2),.int a3] (.aZ []) [(1000,mB r (.fn u [.fp c]) (.fn v []) 1001 4),(1001,.box [N8 a0.w.a7,.aK 1002,.int a0.w.aC] 40),(1002,Q8 a0.w.heap [] 1004),(4,D9 r.aE [] 5),(5,.aF),(1003,.aF)] [5,4]:=by
 refine so func198 ntmps198 fun F hn=>?_;unfold mi at h;refine B [15,3,2] fun e b h=>?_;refine gC (gD 1003 501 502 a1 8 b) ?_;refine kd [0,1,3,6] [6,501,502,1000,1001,1002,1003] ?_;refine S [8] ?_;refine hD b ?_;refine S [13,12,2] ?_;refine kd [0,1,3,6,8] [6,501,502,1000,1001,1002,1003] ?_;refine S [8] ?_;refine hD b ?_;refine A [] fun x h=>?_;refine d41 x rfl rfl ?_;refine B [] fun _ C h=>?_;refine vE ((Spec.drop1 (mf N _ _ C)).sw 0 28) ⟨d42 _,trivial⟩ ?_;refine hD b ?_;refine B [12] fun _ q h=>?_;refine bT q ?_;refine V8 (l6 q).2 ?_;refine S [2] ?_;refine gC (gB 1003 501 503 a1 8 b) ?_;refine kd [0,1,3,6,8,9,10] [6,10,28,503,1000,1001,1002,1003] ?_;refine S [8] ?_;refine V8 b ?_;refine V8 b ?_;refine B [] fun _ o h=>?_;refine G6 o ?_;refine V8 b ?_;refine B [] fun D p h=>?_;refine G6 p ?_;refine S [2] ?_;refine kd [0,1,6,8,9,10,11] [6,10,11,28,503,1000,1001,1002,1003] ?_;refine S [3] ?_;refine V8 b ?_;refine J e0 hn h nl (fun s=>[(11,.box [.int e.aI,.str D.name,.int s] 156)]) [0,1,6,8,9,10,11] [6,10,28,503,1000,1001,1002,1003] (fun _ h g=>?_) ?_
 ·exact F8 [4] [5] [1]
 intro E h;refine S [2] ?_;refine kd [0,1,6,8,9,10,11] [6,10,11,28,503,1000,1001,1002,1003] ?_;refine B [8] fun _ k h=>?_;refine cD (mw k) ?_;refine B [] fun _ l h=>?_;refine cA (y _ _ _ _ l) ?_;refine S [2] ?_;refine kd [0,1,8,9,10,12,13] [10,28,503,1000,1001,1002,1003] ?_;refine I [3,4] ?_ ?_<;>intro _ h
 ·refine B [3] fun _ m h=>?_;refine cA (mb (.fn u [.fp c]) (.fn v []) fun _ _=>(u7 m _ _)) ?_;refine gC (gR 1000 6 1003 504 505) ?_;exact Sr [7] [(4,504),(5,505)]
 refine S [1] ?_;refine gC (gD 1003 506 507 a1 8 b) ?_;refine kd [0,1,8,9,10,12,13] [10,28,506,507,1000,1001,1002,1003] ?_;refine S [3] ?_;refine hD b ?_;refine A [12] fun j h=>?_;refine jr j rfl rfl ?_;refine hS b ?_;refine gC (gA 1003 102 508 a1 8 b (⟨e.aI,e.aL,e.aY,e.code,e.aR,e.args,e.a8,(e.aA.take (wr ((wr ((e.aA.length:Int)-a2.a))-(1:Int))).toNat),e.aH⟩:j3)) ?_;refine kd [0,1,9,10,12,13] [10,28,508,1000,1001,1002,1003] ?_;refine B [5] fun _ n h=>?_;refine cF ((((zp n z).sw 1005 508).sw 5 509).sw 4 510) ?_;exact Sr [14] [(4,510),(5,509)]
def og {N a0 a1 a2 r} (h:kt N a0 a1 a2=some r) (d e:Value):Spec prog 199 [(1000,mB a0 (.aU d) (.aU e) 1001 1003),(1003,D9 a0.aE [] 1005)] [.ptr 1000 0,.ep 1003 a1 10 0,.int a2] (.aZ []) [(1000,mB r (.aU d) (.aU e) 1001 1003),(1003,D9 r.aE [] 5),(5,.aF)] [5]:=by
 refine so func199 ntmps199 fun n hn=>?_;unfold kt at h;refine B [15,2,3] fun a c h=>?_;refine V8 c ?_;refine J e0 hn h nl (fun s=>[(1000,.box [.ptr 1001 0,.aU d,.aU e,.int s.1,.int s.2.1,.int s.2.2.1,.aK 1003,.int s.2.2.2.1,.int s.2.2.2.2.1,.int s.2.2.2.2.2] 251)]) [0,1,2] [1003] (fun _ h g=>?_) ?_
 ·refine I [4] ?_ ?_<;>intro _ h
  ·refine S [3,12,3] ?_;refine Jk e0 hn h nl (fun s=>[(1000,.box [.ptr 1001 0,.aU d,.aU e,.int s.1,.int s.2.1,.int s.2.2.1,.aK 1003,.int s.2.2.2.1,.int s.2.2.2.2.1,.int s.2.2.2.2.2] 251)]) [0,1,2] [1003] [] fun _ h g=>?_;refine I [4] ?_ ?_<;>intro _ h
   ·refine kd [0,1,2] [1000,1003] ?_;refine B [5] fun _ b h=>?_;refine cA (mb (.aU d) (.aU e) fun _ _=>(u7 b _ _)) ?_;exact je
   exact Sj [1]
  exact Sj [1]
 rintro⟨f,i,j,k,l,m⟩ h;refine S [5] ?_;refine sD c (⟨a.aI,a.aL,a.aY,a.code,a.aR,a.args,a.a8,a.aA,a2⟩:j3) ?_;refine gE (gS 1003 501) ?_;exact Sr [14] [(5,501)]
def kv {N fr a0 r} (h:Y9 N fr a0=some r):Spec prog 200 [(1003,D9 fr [] 1005)] [.ep 1003 a0 10 0] (.agg (eV r.1)) [(1003,D9 r.2 [] 5),(5,.aF)] [5]:=by
 refine so func200 ntmps200 fun e hn=>?_;unfold Y9 at h;refine B [3,2] fun b a h=>?_;refine gC (gD 1003 501 502 a0 8 a) ?_;refine kd [0,2] [2,501,502,1003] ?_;refine S [8] ?_;refine hD a ?_;refine hD a ?_;refine B [13,12] fun _ c h=>?_;refine bT c ?_;refine V8 (l6 c).2 ?_;refine S [2,8] ?_;refine hD a ?_;refine hD a ?_;refine A [13,12] fun d h=>?_;refine jr d rfl rfl ?_;refine hS a ?_;refine gC (gA 1003 27 503 a0 8 a (⟨b.aI,b.aL,b.aY,b.code,b.aR,b.args,b.a8,(b.aA.take (wr ((b.aA.length:Int)-(1:Int))).toNat),b.aH⟩:j3)) ?_;refine kd [0,2,3] [2,3,503,1003] ?_;exact Sr [3,7] [(5,503)]
def w7 {N a0 a1 a2 r} (h:oj N a0 a1 a2=some r) (l m:Value):Spec prog 201 [(1000,mB a0 (.aU l) (.aU m) 1001 1003),(1001,.box [N8 a0.w.a7,.aK 1002,.int a0.w.aC] 40),(1002,Q8 a0.w.heap [] 1004),(1003,D9 a0.aE [] 1005)] [.ptr 1000 0,.ep 1003 a1 10 0,.agg (bd a2)] (.aZ []) [(1000,mB r (.aU l) (.aU m) 1001 1003),(1001,.box [N8 a0.w.a7,.aK 1002,.int a0.w.aC] 40),(1002,Q8 a0.w.heap [] 1004),(1003,D9 r.aE [] 5),(5,.aF)] [5]:=by
 refine so func201 ntmps201 fun n hn=>?_;unfold oj at h;refine B [15,3,2,2] fun b a h=>?_;refine gC (gD 1003 501 502 a1 8 a) ?_;refine kd [0,1,5] [5,501,502,1000,1001,1002,1003] ?_;refine S [8] ?_;refine hD a ?_;refine hD a ?_;refine B [13,12,12] fun _ j h=>?_;refine bT j ?_;refine V8 (l6 j).2 ?_;refine B [] fun _ k h=>?_;refine cD (mw k) ?_;refine I [4] ?_ ?_<;>intro _ h
 ·refine gC (gB 1003 501 503 a1 8 a) ?_;exact Sr [7] [(5,503)]
 refine S [1,2] ?_;refine gC (gB 1003 501 504 a1 8 a) ?_;refine kd [0,1,5] [5,504,1000,1001,1002,1003] ?_;refine S [8] ?_;refine V8 a ?_;refine B [] fun _ f h=>?_;refine G6 f ?_;refine V8 a ?_;refine B [] fun d i h=>?_;refine G6 i ?_;refine gC (gD 1003 505 506 a1 7 a) ?_;refine kd [0,1,5,6] [5,505,506,1000,1001,1002,1003] ?_;refine S [8] ?_;refine hD a ?_;refine A [] fun e h=>?_;refine jr e rfl rfl ?_;refine sD a (⟨b.aI,b.aL,false,b.code,b.aR,b.args,b.a8,b.aA,b.aH⟩:j3) ?_;refine sD (setAt a) (⟨b.aI,b.aL,false,d.code,b.aR,b.args,b.a8,b.aA,b.aH⟩:j3) ?_;refine hS (setAt (setAt a)) ?_;refine sD (setAt (setAt a)) (⟨b.aI,b.aL,false,d.code,b.aR,b.args,b.a8,b.aA,a2.c⟩:j3) ?_;refine gE (gA 1003 68 507 a1 7 (setAt (setAt (setAt a))) (⟨b.aI,b.aL,false,d.code,b.aR,b.args,(b.a8.take d.a8.toNat),b.aA,a2.c⟩:j3)) ?_;exact Sr [14] [(5,507)]
def Z5 {N a0 fr b0 r} (h:O6 N a0 fr b0=some r):Spec prog 227 [(1016,.box [.ep 1019 b0 10 0] 289),(1019,D9 fr [] 1021)] [.agg (eV a0),.ptr 1016 0] (.aZ []) [(1016,.box [.ep 1019 b0 10 0] 289),(1019,D9 r [] 21),(21,.aF)] [21]:=by
 refine so func227 ntmps227 fun d hn=>?_;unfold O6 at h;refine B [15,3] fun b a h=>?_;refine gC (gD 1019 501 502 b0 8 a) ?_;refine kd [1,2] [2,501,502,1016,1019] ?_;refine S [8] ?_;refine hD a ?_;refine bS eV [a0] ?_;refine A [] fun c h=>?_;refine aM c ?_;refine hS a ?_;refine gE (gA 1019 10 503 b0 8 a (⟨b.aI,b.aL,b.aY,b.code,b.aR,b.args,b.a8,(b.aA++[a0]),b.aH⟩:j3)) ?_;exact Sr [14] [(21,503)]
def zq {N a0 fr b0 r} (h:oh N a0 fr b0=some r):Spec prog 227 [(1016,.box [.ep 1019 b0 10 0] 289),(1019,D9 fr [(b0,7,1022)] 1021)] [.agg (eV a0),.ptr 1016 0] (.aZ []) [(1016,.box [.ep 1019 b0 10 0] 289),(1019,D9 r [(b0,7,1022)] 21),(21,.aF)] [21]:=by
 refine so func227 ntmps227 fun d hn=>?_;unfold oh at h;refine B [15,3] fun b a h=>?_;refine gC (gD 1019 501 502 b0 8 a) ?_;refine kd [1,2] [2,501,502,1016,1019] ?_;refine S [8] ?_;refine hD a ?_;refine bS eV [a0] ?_;refine A [] fun c h=>?_;refine aM c ?_;refine hS a ?_;refine gE (gA 1019 10 503 b0 8 a (⟨b.aI,b.aL,b.aY,b.code,b.aR,b.args,b.a8,(b.aA++[a0]),b.aH⟩:j3)) ?_;exact Sr [14] [(21,503)]
def Am {N a0 a1 a2 r} (h:pO N a0 a1 a2=some r):Spec prog 228 [] [jO a0,.agg (eV a1),.int a2] (.agg (eV r)) [] []:=by
 refine so func228 ntmps228 fun e hn=>?_;unfold pO at h;refine S [3,2,2] ?_;refine Jb 36 hn h [0,2,4,6] [4,6] (fun _ h g=>?_) ?_
 ·refine Ij [5] [0] fun _ h=>?_;refine Ij [0] [0] fun _ h=>?_;refine Ij [0,13,0] [0] fun _ h=>?_;refine Ij [0] [0] fun _ h=>?_;refine B [0] fun _ c h=>?_;refine G6 c ?_;exact Sj [0,13,0]
 intro d h;refine Ir [4] [3,7] fun _ h=>?_;refine B [1,3] fun _ a h=>?_;refine G6 a ?_;refine B [] fun _ b h=>?_;refine G6 b ?_;exact Sr [7]
def Em {N a0 sk fr b0 r} (h:qx N a0 sk fr b0=some r):Spec prog 227 [(1016,.box [.ep 1019 b0 10 0] 289),(1019,D9 fr [(b0,8,1022)] 1021),(1022,iZ sk)] [.agg (eV a0),.ptr 1016 0] (.aZ []) [(1016,.box [.ep 1019 b0 10 0] 289),(1019,D9 fr [(b0,8,22)] 1021),(22,iZ r),(1022,.aF)] [22]:=by
 refine so func227 ntmps227 fun c hn=>?_;unfold qx at h;refine B [15,3,8] fun _ a h=>?_;refine hD a ?_;refine bS eV [a0] ?_;refine A [] fun b h=>?_;refine aM b ?_;refine hS a ?_;exact Sr [14] [(22,10)]
def A4 {N fr a0 r} (h:ot N fr a0=some r):Spec prog 200 [(1003,D9 fr [(a0,7,1006)] 1005)] [.ep 1003 a0 10 0] (.agg (eV r.1)) [(1003,D9 r.2 [(a0,7,1006)] 5),(5,.aF)] [5]:=by
 refine so func200 ntmps200 fun e hn=>?_;unfold ot at h;refine B [3,2] fun b a h=>?_;refine gC (gD 1003 501 502 a0 8 a) ?_;refine kd [0,2] [2,501,502,1003] ?_;refine S [8] ?_;refine hD a ?_;refine hD a ?_;refine B [13,12] fun _ c h=>?_;refine bT c ?_;refine V8 (l6 c).2 ?_;refine S [2,8] ?_;refine hD a ?_;refine hD a ?_;refine A [13,12] fun d h=>?_;refine jr d rfl rfl ?_;refine hS a ?_;refine gC (gA 1003 27 503 a0 8 a (⟨b.aI,b.aL,b.aY,b.code,b.aR,b.args,b.a8,(b.aA.take (wr ((b.aA.length:Int)-(1:Int))).toNat),b.aH⟩:j3)) ?_;refine kd [0,2,3] [2,3,503,1003] ?_;exact Sr [3,7] [(5,503)]
def zr {N a0 a1 a2 a3 r} (h:oo N a0 a1 a2 a3=some r) (i j:Value):Spec prog 229 [(1000,mB a0 (.aU i) (.aU j) 1001 1003),(1001,.box [N8 a0.w.a7,.aK 1002,.int a0.w.aC] 40),(1002,Q8 a0.w.heap [] 1004)] [.ptr 1000 0,.agg (eV a1),.int a2,.agg (eV a3)] (.aZ []) [(1000,mB r (.aU i) (.aU j) 1001 1003),(1001,.box [N8 a0.w.a7,.aK 1002,.int a0.w.aC] 40),(1002,Q8 r.w.heap [] 3),(3,.aF)] [3]:=by
 refine so func229 ntmps229 fun o hn=>?_;unfold oo at h;refine S [15,3,2] ?_;refine J e0 hn h (fun s=>[(40,.bool s)]) (fun s=>[(501,.aF),(1002,Q8 a0.w.heap [] 501)]) [0,2,5,7] [5,7,1000,1001] (fun _ h g=>?_) ?_
 ·rcases EF h with⟨b,h⟩|⟨m,b,h⟩
  ·refine kd [0,2,5,7] [5,7,1000,1001,1002] ?_;refine I [8] ?_ ?_<;>intro _ h
   ·refine I [0,13,0] ?_ ?_<;>intro _ h
    ·cases h
    refine S [0] ?_;refine gE (gS 1002 501) ?_;exact je
   refine S [0] ?_;refine gE (gS 1002 502) ?_;exact je [(501,502)]
  refine gC (gD 1002 503 504 a1.n.toNat 1 b) ?_;refine kd [0,2,5,7] [5,7,503,504,1000,1001,1002] ?_;refine I [8] ?_ ?_<;>intro _ h
  ·refine I [0,13,0] ?_ ?_<;>intro _ h
   ·refine B [0] fun _ d h=>?_;refine iD d ?_;refine S [0] ?_;refine hD b ?_;refine S [0,13,0] ?_;refine gE (gB 1002 503 505 a1.n.toNat 1 b) ?_;exact je [(501,505)]
   refine S [0] ?_;refine gE (gB 1002 503 506 a1.n.toNat 1 b) ?_;exact je [(501,506)]
  refine S [0] ?_;refine gE (gB 1002 503 507 a1.n.toNat 1 b) ?_;exact je [(501,507)]
 intro l h;refine J e0 hn h nl (fun s=>[(508,.aF),(1002,Q8 s [] 508)]) [0] [1000,1001] (fun _ h g=>?_) ?_
 ·refine I [4] ?_ ?_<;>intro _ h
  ·rcases EF h with⟨a,h⟩|⟨f,a,h⟩
   ·cases h
   refine gC (gD 1002 508 509 a1.n.toNat 1 a) ?_;refine kd [0,2,5,7] [5,7,508,509,1000,1001,1002] ?_;refine B [8] fun _ e h=>?_;refine iD e ?_;refine hD a ?_;refine B [] fun _ c h=>?_;refine bT c ?_;refine sM (l6 c).2 a3 ?_;refine gE (gA 1002 508 510 a1.n.toNat 1 a (⟨f.cls,(f.aG.set a2.toNat a3)⟩:Ob)) ?_;exact je [(508,510)]
  exact Sj [1] [(508,501)]
 intro k h;exact Sr [14] [(3,508)]
def w8 {N a0 a1 a2 r} (h:om N a0 a1 a2=some r) (i j:Value):Spec prog 202 [(1000,mB a0 (.aU i) (.aU j) 1001 1003),(1001,.box [N8 a0.w.a7,.aK 1002,.int a0.w.aC] 40),(1002,Q8 a0.w.heap [] 1004),(1003,D9 a0.aE [] 1005)] [.ptr 1000 0,.ep 1003 a1 10 0,.agg (bd a2)] (.aZ []) [(1000,mB r (.aU i) (.aU j) 1001 1003),(1001,.box [N8 r.w.a7,.aK 2,.int r.w.aC] 40),(2,Q8 r.w.heap [] 3),(3,.aF),(1002,.aF),(1003,D9 r.aE [] 5),(5,.aF)] [3,2,5]:=by
 refine so func202 ntmps202 fun Γ hn=>?_;unfold om at h;refine S [15,3,3,3] ?_;refine J e1 hn h nl (fun s=>[(186,Q8 s.1 [] 518),(501,.aF),(518,.aF),(1000,.box [.ptr 1001 0,.aU i,.aU j,.int s.2.1,.int s.2.2.1,.int s.2.2.2.1,.aK 1003,.int s.2.2.2.2.2.1,.int s.2.2.2.2.2.2.1,.int s.2.2.2.2.2.2.2] 251),(1001,.box [N8 a0.w.a7,.aK 186,.int a0.w.aC] 40),(1002,.aF),(1003,D9 s.2.2.2.2.1 [] 501)]) [0,1] [] (fun _ h g=>?_) ?_
 ·refine S [6,3] ?_;refine Jk e1 hn h nl (fun s=>[(186,Q8 s.1 [] 518),(501,.aF),(518,.aF),(1000,.box [.ptr 1001 0,.aU i,.aU j,.int s.2.1,.int s.2.2.1,.int s.2.2.2.1,.aK 1003,.int s.2.2.2.2.2.1,.int s.2.2.2.2.2.2.1,.int s.2.2.2.2.2.2.2] 251),(1001,.box [N8 a0.w.a7,.aK 186,.int a0.w.aC] 40),(1002,.aF),(1003,D9 s.2.2.2.2.1 [] 501)]) [0,1] [] [] fun _ h g=>?_;refine I [4] ?_ ?_<;>intro _ h
  ·refine B [5] fun _ hx21 h=>?_;refine V8 hx21 ?_;refine B [] fun _ Y h=>?_;refine cA ((Z5 Y).bE [(1016,4),(1019,1003),(1021,1005),(21,501)] rfl) ?_;refine gE (gR 1001 1 1002 502 503) ?_;exact je [(186,502),(518,503)]
  refine S [3] ?_;refine Jk e1 hn h nl (fun s=>[(186,Q8 s.1 [] 520),(504,.aF),(520,.aF),(1000,.box [.ptr 1001 0,.aU i,.aU j,.int s.2.1,.int s.2.2.1,.int s.2.2.2.1,.aK 1003,.int s.2.2.2.2.2.1,.int s.2.2.2.2.2.2.1,.int s.2.2.2.2.2.2.2] 251),(1001,.box [N8 a0.w.a7,.aK 186,.int a0.w.aC] 40),(1002,.aF),(1003,D9 s.2.2.2.2.1 [] 504)]) [0,1] [] [(518,520),(501,504)] fun _ h g=>?_;refine I [4] ?_ ?_<;>intro _ h
  ·refine B [8] fun _ hx35 h=>?_;refine V8 hx35 ?_;refine B [] fun _ hx37 h=>?_;refine G6 hx37 ?_;refine B [] fun _ Z h=>?_;refine cA ((Z5 Z).bE [(1016,4),(1019,1003),(1021,1005),(21,504)] rfl) ?_;refine gE (gR 1001 1 1002 505 506) ?_;exact je [(186,505),(520,506)]
  refine S [3] ?_;refine Jk e1 hn h nl (fun s=>[(186,Q8 s.1 [] 522),(507,.aF),(522,.aF),(1000,.box [.ptr 1001 0,.aU i,.aU j,.int s.2.1,.int s.2.2.1,.int s.2.2.2.1,.aK 1003,.int s.2.2.2.2.2.1,.int s.2.2.2.2.2.2.1,.int s.2.2.2.2.2.2.2] 251),(1001,.box [N8 a0.w.a7,.aK 186,.int a0.w.aC] 40),(1002,.aF),(1003,D9 s.2.2.2.2.1 [] 507)]) [0,1] [] [(520,522),(504,507)] fun _ h g=>?_;refine I [4] ?_ ?_<;>intro _ h
  ·refine B [] fun x50 C h=>?_;refine gC (gD 1003 507 508 a1 7 C) ?_;refine kd [0,1,4,5,6] [4,5,507,508,1000,1001,1002,1003] ?_;refine S [8] ?_;refine hD C ?_;refine B [] fun _ D h=>?_;refine bT D ?_;refine V8 (l6 D).2 ?_;refine B [] fun _ hr55 h=>?_;refine cA ((zq hr55).bE [(1022,507),(1016,4),(1019,1003),(1021,508),(21,509)] rfl) ?_;refine B [] fun k hx57 h=>?_;refine gE (gA 1003 507 510 a1 7 hx57 (⟨k.aI,k.aL,k.aY,k.code,k.aR,k.args,x50.a8,k.aA,k.aH⟩:j3)) ?_;refine gE (gR 1001 1 1002 511 512) ?_;exact je [(186,511),(522,512),(507,510)]
  refine S [3] ?_;refine Jk e1 hn h nl (fun s=>[(186,Q8 s.1 [] 525),(513,.aF),(525,.aF),(1000,.box [.ptr 1001 0,.aU i,.aU j,.int s.2.1,.int s.2.2.1,.int s.2.2.2.1,.aK 1003,.int s.2.2.2.2.2.1,.int s.2.2.2.2.2.2.1,.int s.2.2.2.2.2.2.2] 251),(1001,.box [N8 a0.w.a7,.aK 186,.int a0.w.aC] 40),(1002,.aF),(1003,D9 s.2.2.2.2.1 [] 513)]) [0,1] [] [(522,525),(507,513)] fun _ h g=>?_;refine I [4] ?_ ?_<;>intro _ h
  ·refine kd [0,1,4,5,6] [4,5,1000,1001,1002,1003] ?_;refine B [8] fun _ hx69 h=>?_;refine V8 hx69 ?_;refine B [] fun _ hr71 h=>?_;refine cD (Am hr71) ?_;refine B [] fun _ hr73 h=>?_;refine cA ((Z5 hr73).bE [(1016,4),(1019,1003),(1021,1005),(21,513)] rfl) ?_;refine gE (gR 1001 1 1002 514 515) ?_;exact je [(186,514),(525,515)]
  refine kd [0,1,4,5,6,12] [4,5,1000,1001,1002,1003] ?_;refine S [3] ?_;refine Jk e1 hn h nl (fun s=>[(186,Q8 s.1 [] 527),(516,.aF),(527,.aF),(1000,.box [.ptr 1001 0,.aU i,.aU j,.int s.2.1,.int s.2.2.1,.int s.2.2.2.1,.aK 1003,.int s.2.2.2.2.2.1,.int s.2.2.2.2.2.2.1,.int s.2.2.2.2.2.2.2] 251),(1001,.box [N8 a0.w.a7,.aK 186,.int a0.w.aC] 40),(1002,.aF),(1003,D9 s.2.2.2.2.1 [] 516)]) [0,1] [] [(525,527),(513,516)] fun _ h g=>?_;refine I [4] ?_ ?_<;>intro _ h
  ·refine B [5] fun _ hr85 h=>?_;refine cA ((Z5 hr85).bE [(1016,4),(1019,1003),(1021,1005),(21,516)] rfl) ?_;refine gE (gR 1001 1 1002 517 518) ?_;exact je [(186,517),(527,518)]
  refine S [3] ?_;refine Jk e1 hn h nl (fun s=>[(186,Q8 s.1 [] 529),(519,.aF),(529,.aF),(1000,.box [.ptr 1001 0,.aU i,.aU j,.int s.2.1,.int s.2.2.1,.int s.2.2.2.1,.aK 1003,.int s.2.2.2.2.2.1,.int s.2.2.2.2.2.2.1,.int s.2.2.2.2.2.2.2] 251),(1001,.box [N8 a0.w.a7,.aK 186,.int a0.w.aC] 40),(1002,.aF),(1003,D9 s.2.2.2.2.1 [] 519)]) [0,1] [] [(527,529),(516,519)] fun _ h g=>?_;refine I [4] ?_ ?_<;>intro _ h
  ·refine B [5] fun _ hr97 h=>?_;refine cA ((Z5 hr97).bE [(1016,4),(1019,1003),(1021,1005),(21,519)] rfl) ?_;refine gE (gR 1001 1 1002 520 521) ?_;exact je [(186,520),(529,521)]
  refine S [2,3] ?_;refine Jb 75 hn h [0,1,4,5,6,12] [4,5,1000,1001,1002,1003] (fun _ h g=>?_) ?_
  ·exact F8 [4] [1] [5]
  intro v98 h;refine Jk e1 hn h nl (fun s=>[(186,Q8 s.1 [] 531),(522,.aF),(531,.aF),(1000,.box [.ptr 1001 0,.aU i,.aU j,.int s.2.1,.int s.2.2.1,.int s.2.2.2.1,.aK 1003,.int s.2.2.2.2.2.1,.int s.2.2.2.2.2.2.1,.int s.2.2.2.2.2.2.2] 251),(1001,.box [N8 a0.w.a7,.aK 186,.int a0.w.aC] 40),(1002,.aF),(1003,D9 s.2.2.2.2.1 [] 522)]) [0,1] [] [(529,531),(519,522)] fun _ h g=>?_;refine I [4] ?_ ?_<;>intro _ h
  ·refine B [5] fun _ F h=>?_;refine cA (wY F) ?_;refine B [] fun _ G h=>?_;refine cA ((Z5 G).bE [(1016,4),(1019,1003),(1021,1005),(21,522)] rfl) ?_;refine gE (gR 1001 1 1002 523 524) ?_;exact je [(186,523),(531,524)]
  refine S [3] ?_;refine Jk e1 hn h nl (fun s=>[(186,Q8 s.1 [] 533),(525,.aF),(533,.aF),(1000,.box [.ptr 1001 0,.aU i,.aU j,.int s.2.1,.int s.2.2.1,.int s.2.2.2.1,.aK 1003,.int s.2.2.2.2.2.1,.int s.2.2.2.2.2.2.1,.int s.2.2.2.2.2.2.2] 251),(1001,.box [N8 a0.w.a7,.aK 186,.int a0.w.aC] 40),(1002,.aF),(1003,D9 s.2.2.2.2.1 [] 525)]) [0,1] [] [(531,533),(522,525)] fun _ h g=>?_;refine I [4] ?_ ?_<;>intro _ h
  ·refine B [5] fun _ H h=>?_;refine cA ((kv H).sw 5 525) ?_;refine gE (gR 1001 1 1002 526 527) ?_;exact je [(186,526),(533,527)]
  refine S [3] ?_;refine Jk e1 hn h nl (fun s=>[(186,Q8 s.1 [] 535),(528,.aF),(535,.aF),(1000,.box [.ptr 1001 0,.aU i,.aU j,.int s.2.1,.int s.2.2.1,.int s.2.2.2.1,.aK 1003,.int s.2.2.2.2.2.1,.int s.2.2.2.2.2.2.1,.int s.2.2.2.2.2.2.2] 251),(1001,.box [N8 a0.w.a7,.aK 186,.int a0.w.aC] 40),(1002,.aF),(1003,D9 s.2.2.2.2.1 [] 528)]) [0,1] [] [(533,535),(525,528)] fun _ h g=>?_;refine I [4] ?_ ?_<;>intro _ h
  ·refine B [] fun b f h=>?_;refine gC (gD 1003 528 529 a1 8 f) ?_;refine kd [0,1,4,6] [4,528,529,1000,1001,1002,1003] ?_;refine S [8] ?_;refine hD f ?_;refine hD f ?_;refine B [13,12] fun _ m h=>?_;refine bT m ?_;refine V8 (l6 m).2 ?_;refine B [] fun r142 K h=>?_;refine cA ((Em K).bE [(1022,528),(1016,4),(1019,1003),(1021,529),(22,530)] rfl) ?_;refine gE (gA 1003 530 531 a1 8 f (⟨b.aI,b.aL,b.aY,b.code,b.aR,b.args,b.a8,r142,b.aH⟩:j3)) ?_;refine gE (gR 1001 1 1002 532 533) ?_;exact je [(186,532),(535,533),(528,531)]
  refine S [3] ?_;refine Jk e1 hn h nl (fun s=>[(186,Q8 s.1 [] 538),(534,.aF),(538,.aF),(1000,.box [.ptr 1001 0,.aU i,.aU j,.int s.2.1,.int s.2.2.1,.int s.2.2.2.1,.aK 1003,.int s.2.2.2.2.2.1,.int s.2.2.2.2.2.2.1,.int s.2.2.2.2.2.2.2] 251),(1001,.box [N8 a0.w.a7,.aK 186,.int a0.w.aC] 40),(1002,.aF),(1003,D9 s.2.2.2.2.1 [] 534)]) [0,1] [] [(535,538),(528,534)] fun _ h g=>?_;refine I [4] ?_ ?_<;>intro _ h
  ·refine B [] fun x154 n h=>?_;refine gC (gD 1003 534 535 a1 7 n) ?_;refine kd [0,1,4,5] [4,5,534,535,1000,1001,1002,1003] ?_;refine gz 3 7 hn ?_;refine hD n ?_;refine B [] fun E L h=>?_;refine cA ((((A4 L).sw 1005 535).sw 1006 534).sw 5 536) ?_;refine B [] fun c o h=>?_;refine AN ⟨rfl,⟨rfl,trivial⟩,d11 o rfl rfl G8 rfl ⟨rfl,rfl,rfl,rfl⟩⟩ ?_;refine B [] fun _ p h=>?_;refine bT p ?_;refine sM (l6 p).2 E.1 ?_;refine gE (gA 1003 534 537 a1 7 o (⟨c.aI,c.aL,c.aY,c.code,c.aR,c.args,(x154.a8.set a2.a.toNat E.1),c.aA,c.aH⟩:j3)) ?_;refine gE (gR 1001 1 1002 538 539) ?_;exact je [(186,538),(538,539),(534,537)]
  refine S [3] ?_;refine Jk e1 hn h nl (fun s=>[(186,Q8 s.1 [] 541),(540,.aF),(541,.aF),(1000,.box [.ptr 1001 0,.aU i,.aU j,.int s.2.1,.int s.2.2.1,.int s.2.2.2.1,.aK 1003,.int s.2.2.2.2.2.1,.int s.2.2.2.2.2.2.1,.int s.2.2.2.2.2.2.2] 251),(1001,.box [N8 a0.w.a7,.aK 186,.int a0.w.aC] 40),(1002,.aF),(1003,D9 s.2.2.2.2.1 [] 540)]) [0,1] [] [(538,541),(534,540)] fun _ h g=>?_;refine I [4] ?_ ?_<;>intro _ h
  ·refine gz 4 8 hn ?_;refine B [] fun _ q h=>?_;refine V8 q ?_;refine B [] fun _ l h=>?_;refine cA ((kv l).sw 5 540) ?_;refine B [] fun _ t h=>?_;refine AN ⟨rfl,⟨rfl,trivial⟩,V8 t ⟨congrArg (fun v=>AV.agg (eV v)) (Fl l q t),rfl,rfl,rfl⟩⟩ ?_;refine B [] fun _ M h=>?_;refine cA (mb (.aU i) (.aU j) fun _ _=>((zr M _ _).sw 3 541)) ?_;refine gE (gR 1001 1 1002 542 543) ?_;exact je [(186,542),(541,543)]
  refine S [3] ?_;refine Jk e1 hn h nl (fun s=>[(186,Q8 s.1 [] 550),(544,.aF),(550,.aF),(1000,.box [.ptr 1001 0,.aU i,.aU j,.int s.2.1,.int s.2.2.1,.int s.2.2.2.1,.aK 1003,.int s.2.2.2.2.2.1,.int s.2.2.2.2.2.2.1,.int s.2.2.2.2.2.2.2] 251),(1001,.box [N8 a0.w.a7,.aK 186,.int a0.w.aC] 40),(1002,.aF),(1003,D9 s.2.2.2.2.1 [] 544)]) [0,1] [] [(541,550),(540,544)] fun _ h g=>?_;refine I [4] ?_ ?_<;>intro _ h
  ·refine B [] fun x190 u h=>?_;refine gC (gD 1003 544 545 a1 7 u) ?_;refine kd [0,1,4,5,6] [4,5,544,545,1000,1001,1002,1003] ?_;refine S [8] ?_;refine hD u ?_;refine B [] fun _ x h=>?_;refine bT x ?_;refine V8 (l6 x).2 ?_;refine B [] fun _ O h=>?_;refine cD (Am O) ?_;refine B [] fun _ P h=>?_;refine cA ((zq P).bE [(1022,544),(1016,4),(1019,1003),(1021,545),(21,546)] rfl) ?_;refine B [] fun d X h=>?_;refine gE (gA 1003 544 547 a1 7 X (⟨d.aI,d.aL,d.aY,d.code,d.aR,d.args,x190.a8,d.aA,d.aH⟩:j3)) ?_;refine gE (gR 1001 1 1002 548 549) ?_;exact je [(186,548),(550,549),(544,547)]
  refine kd [0,1,4,5,6,12] [4,5,1000,1001,1002,1003] ?_;refine S [3] ?_;refine Jk e1 hn h nl (fun s=>[(186,Q8 s.1 [] 553),(550,.aF),(553,.aF),(1000,.box [.ptr 1001 0,.aU i,.aU j,.int s.2.1,.int s.2.2.1,.int s.2.2.2.1,.aK 1003,.int s.2.2.2.2.2.1,.int s.2.2.2.2.2.2.1,.int s.2.2.2.2.2.2.2] 251),(1001,.box [N8 a0.w.a7,.aK 186,.int a0.w.aC] 40),(1002,.aF),(1003,D9 s.2.2.2.2.1 [] 550)]) [0,1] [] [(550,553),(544,550)] fun _ h g=>?_;refine I [4] ?_ ?_<;>intro _ h
  ·refine B [] fun x210 y h=>?_;refine gC (gD 1003 550 551 a1 7 y) ?_;refine kd [0,1,4,5] [4,5,550,551,1000,1001,1002,1003] ?_;refine gz 4 12 hn ?_;refine hD y ?_;refine B [] fun _ z h=>?_;refine bT z ?_;refine V8 (l6 z).2 ?_;refine B [] fun _ Q h=>?_;refine cA ((((A4 Q).sw 1005 551).sw 1006 550).sw 5 552) ?_;refine B [] fun e A h=>?_;refine AN ⟨rfl,⟨rfl,trivial⟩,d11 A rfl rfl G8 rfl ⟨rfl,rfl,rfl,rfl⟩⟩ ?_;refine B [] fun _ R h=>?_;refine cA (mb (.aU i) (.aU j) fun _ _=>((zr R _ _).sw 3 553)) ?_;refine gE (gA 1003 550 554 a1 7 A (⟨e.aI,e.aL,e.aY,e.code,e.aR,e.args,x210.a8,e.aA,e.aH⟩:j3)) ?_;refine gE (gR 1001 1 1002 555 556) ?_;exact je [(186,555),(553,556),(550,554)]
  refine S [3] ?_;refine Jk e1 hn h nl (fun s=>[(186,Q8 s.1 [] 886),(560,.aF),(886,.aF),(1001,.box [N8 a0.w.a7,.aK 186,.int a0.w.aC] 40),(1002,.aF),(1003,D9 s.2 [] 560)]) [0,1] [1000] [(553,886),(550,560)] fun _ h g=>?_;refine I [4] ?_ ?_<;>intro _ h
  ·refine S [2] ?_;refine kd [0,1,5,6] [4,5,1000,1001,1002,1003] ?_;refine B [8] fun _ T h=>?_;refine cD (mq T) ?_;refine B [] fun _ U h=>?_;refine vE (((B9 U).sw 0 186).sw 1 886) ⟨LD _,trivial,trivial⟩ ?_;refine S [2] ?_;refine kd [0,1,6,7,8,9] [4,8,186,886,1000,1001,1002,1003] ?_;refine I [3,4] ?_ ?_<;>intro _ h
   ·refine B [3] fun _ V h=>?_;refine cA (mb (.aU i) (.aU j) fun _ _=>(u7 V _ _)) ?_;refine gC (gR 1001 1 1002 557 558) ?_;refine gC (gS 1003 559) ?_;exact Sr [7] [(2,557),(3,558),(5,559)]
   refine B [1,3,5] fun _ W h=>?_;refine cA ((Z5 W).bE [(1016,4),(1019,1003),(1021,1005),(21,560)] rfl) ?_;refine gE (gX 1002) ?_;exact je
  refine S [1] ?_;refine gE (gR 1001 1 1002 561 562) ?_;refine gE (gS 1003 563) ?_;exact je [(186,561),(886,562),(560,563)]
 rintro⟨v1,v2,v3,v4,v5,v6,v7,v8⟩ h;exact Sr [14] [(2,186),(3,518),(5,501)]
def Ej {N a0 gl gq r} (h:mj N a0 gl gq=some r) {b:Nat} {a:List AV} (z:∀e f y p,gl e f y=some p->Spec prog b [] [.agg (bU e),.int f,.str y,.fp a] (.aZ [.int p.1,.int p.2]) [] []) {c:Nat} (C:∀e f p,gq e f=some p->Spec prog c [] [.int e,.int f] (.aZ [.agg (eb p.1),.bool p.2]) [] []):Spec prog 167 [(1000,mB a0 (.fn b [.fp a]) (.fn c []) 1001 1003),(1001,.box [N8 a0.w.a7,.aK 1002,.int a0.w.aC] 40),(1002,Q8 a0.w.heap [] 1004),(1003,D9 a0.aE [] 1005)] [.ptr 1000 0] (.aZ []) [(1000,mB r (.fn b [.fp a]) (.fn c []) 1001 4),(1001,.box [N8 r.w.a7,.aK 2,.int r.w.aC] 40),(2,Q8 r.w.heap [] 3),(3,.aF),(1002,.aF),(4,D9 r.aE [] 5),(5,.aF),(1003,.aF)] [3,2,5,4]:=by
 refine so func167 ntmps167 fun Γ hn=>?_;unfold mj at h;refine B [15,2,8,13,12] fun i d h=>?_;refine iD d ?_;refine S [3] ?_;refine V8 (l6 d).2 ?_;refine kd [0,2,3] [1000,1001,1002,1003] ?_;refine S [3] ?_;refine V8 (l6 d).2 ?_;refine B [] fun _ D h=>?_;refine G6 D ?_;refine S [3] ?_;refine V8 (l6 d).2 ?_;refine S [12] ?_;refine sD (l6 d).2 (⟨i.aI,i.aL,i.aY,i.code,i.aR,i.args,i.a8,i.aA,(wr (i.aH+(1:Int)))⟩:j3) ?_;refine kd [0,2,3,4] [4,1000,1001,1002,1003] ?_;refine S [3] ?_;refine J e0 hn h nl (fun s=>[(501,.aF),(502,D9 s.2.2.2.2.2.2.1 [] 501),(509,.aF),(510,Q8 s.2.1 [] 509),(1000,.box [.ptr 1001 0,.fn b [.fp a],.fn c [],.int s.2.2.2.1,.int s.2.2.2.2.1,.int s.2.2.2.2.2.1,.aK 502,.int s.2.2.2.2.2.2.2.1,.int s.2.2.2.2.2.2.2.2.1,.int s.2.2.2.2.2.2.2.2.2] 251),(1001,.box [N8 s.1,.aK 510,.int s.2.2.1] 40),(1002,.aF),(1003,.aF)]) [0] [] (fun _ h g=>?_) ?_
 ·refine S [6,3] ?_;refine Jk e0 hn h nl (fun s=>[(501,.aF),(502,D9 s.2.2.2.2.2.2.1 [] 501),(509,.aF),(510,Q8 s.2.1 [] 509),(1000,.box [.ptr 1001 0,.fn b [.fp a],.fn c [],.int s.2.2.2.1,.int s.2.2.2.2.1,.int s.2.2.2.2.2.1,.aK 502,.int s.2.2.2.2.2.2.2.1,.int s.2.2.2.2.2.2.2.2.1,.int s.2.2.2.2.2.2.2.2.2] 251),(1001,.box [N8 s.1,.aK 510,.int s.2.2.1] 40),(1002,.aF),(1003,.aF)]) [0] [] [] fun _ h g=>?_;refine I [4] ?_ ?_<;>intro _ h
  ·refine B [5] fun _ q h=>?_;refine cA (((Eh q z C).sw 5 501).sw 4 502) ?_;refine gE (gR 1001 1 1002 503 504) ?_;exact je [(510,503),(509,504)]
  refine S [3] ?_;refine Jk e0 hn h nl (fun s=>[(88,D9 s.2.2.2.2.2.2.1 [] 505),(505,.aF),(511,.aF),(512,Q8 s.2.1 [] 511),(1000,.box [.ptr 1001 0,.fn b [.fp a],.fn c [],.int s.2.2.2.1,.int s.2.2.2.2.1,.int s.2.2.2.2.2.1,.aK 88,.int s.2.2.2.2.2.2.2.1,.int s.2.2.2.2.2.2.2.2.1,.int s.2.2.2.2.2.2.2.2.2] 251),(1001,.box [N8 s.1,.aK 512,.int s.2.2.1] 40),(1002,.aF),(1003,.aF)]) [0] [] [(510,512),(509,511),(502,88),(501,505)] fun _ h g=>?_;refine I [4] ?_ ?_<;>intro _ h
  ·refine B [5] fun _ t h=>?_;refine cA (mb (.fn b [.fp a]) (.fn c []) fun _ _=>((og t _ _).sw 5 505)) ?_;refine gE (gR 1001 1 1002 506 507) ?_;refine gE (gR 1000 6 1003 508 509) ?_;exact je [(512,506),(511,507),(88,508),(505,509)]
  refine S [3] ?_;refine Jk e0 hn h nl (fun s=>[(88,D9 s.2.2.2.2.2.2.1 [] 511),(511,.aF),(515,.aF),(516,Q8 s.2.1 [] 515),(1000,.box [.ptr 1001 0,.fn b [.fp a],.fn c [],.int s.2.2.2.1,.int s.2.2.2.2.1,.int s.2.2.2.2.2.1,.aK 88,.int s.2.2.2.2.2.2.2.1,.int s.2.2.2.2.2.2.2.2.1,.int s.2.2.2.2.2.2.2.2.2] 251),(1001,.box [N8 s.1,.aK 516,.int s.2.2.1] 40),(1002,.aF),(1003,.aF)]) [0] [] [(512,516),(511,515),(505,511)] fun _ h g=>?_;refine I [4] ?_ ?_<;>intro _ h
  ·refine B [3] fun _ u h=>?_;refine cA ((kv u).sw 5 510) ?_;refine S [3] ?_;refine J e0 hn h nl (fun s=>[(511,.aF),(1000,.box [.ptr 1001 0,.fn b [.fp a],.fn c [],.int s.1,.int s.2.1,.int s.2.2.1,.aK 1003,.int s.2.2.2.2.1,.int s.2.2.2.2.2.1,.int s.2.2.2.2.2.2] 251),(1003,D9 s.2.2.2.1 [] 511)]) [0] [1001,1002] (fun _ h g=>?_) ?_
   ·refine S [6] ?_;refine kd [0,2,4,61] [4,510,1000,1001,1002,1003] ?_;refine S [3] ?_;refine Jk e0 hn h nl (fun s=>[(511,.aF),(1000,.box [.ptr 1001 0,.fn b [.fp a],.fn c [],.int s.1,.int s.2.1,.int s.2.2.1,.aK 1003,.int s.2.2.2.2.1,.int s.2.2.2.2.2.1,.int s.2.2.2.2.2.2] 251),(1003,D9 s.2.2.2.1 [] 511)]) [0] [1001,1002] [] fun _ h g=>?_;refine I [4] ?_ ?_<;>intro _ h
    ·refine B [5] fun _ v h=>?_;refine cA (mb (.fn b [.fp a]) (.fn c []) fun _ _=>(((og v _ _).sw 1005 510).sw 5 511)) ?_;exact je
    refine S [3] ?_;refine Jk e0 hn h nl (fun s=>[(1000,.box [.ptr 1001 0,.fn b [.fp a],.fn c [],.int s.1,.int s.2.1,.int s.2.2.1,.aK 1003,.int s.2.2.2.1,.int s.2.2.2.2.1,.int s.2.2.2.2.2] 251)]) [0] [510,1001,1002,1003] [(511,510)] fun _ h g=>?_;refine Ij [4] [1] fun _ h=>?_;refine B [5] fun _ x h=>?_;refine cA (mb (.fn b [.fp a]) (.fn c []) fun _ _=>(u7 x _ _)) ?_;exact je
   rintro⟨Y,Z,v61,v62,v63,v64,v65⟩ h;refine gE (gR 1001 1 1002 512 513) ?_;refine gE (gR 1000 6 1003 514 515) ?_;exact je [(516,512),(515,513),(88,514),(511,515)]
  refine S [3] ?_;refine Jk e0 hn h nl (fun s=>[(88,D9 s.2.2.2.2.2.2.1 [] 517),(517,.aF),(519,.aF),(520,Q8 s.2.1 [] 519),(1000,.box [.ptr 1001 0,.fn b [.fp a],.fn c [],.int s.2.2.2.1,.int s.2.2.2.2.1,.int s.2.2.2.2.2.1,.aK 88,.int s.2.2.2.2.2.2.2.1,.int s.2.2.2.2.2.2.2.2.1,.int s.2.2.2.2.2.2.2.2.2] 251),(1001,.box [N8 s.1,.aK 520,.int s.2.2.1] 40),(1002,.aF),(1003,.aF)]) [0] [] [(516,520),(515,519),(511,517)] fun _ h g=>?_;refine I [4] ?_ ?_<;>intro _ h
  ·refine B [3] fun _ k h=>?_;refine cA ((kv k).sw 5 516) ?_;refine S [2] ?_;refine kd [0,6] [6,516,1000,1001,1002,1003] ?_;refine A [8,13,12] fun j h=>?_;refine jr j rfl rfl ?_;refine B [5] fun _ l h=>?_;refine cA (mb (.fn b [.fp a]) (.fn c []) fun _ _=>((((oe l _ _).sw 1003 88).sw 1005 788).sw 5 517)) ?_;refine gE (gR 1001 1 1002 518 519) ?_;exact je [(520,518)]
  refine S [3] ?_;refine J e0 hn h nl (fun s=>[(520,.aF),(521,.aF),(522,Q8 s.2.1 [] 521),(1000,.box [.ptr 1001 0,.fn b [.fp a],.fn c [],.int s.2.2.2.1,.int s.2.2.2.2.1,.int s.2.2.2.2.2.1,.aK 1003,.int s.2.2.2.2.2.2.2.1,.int s.2.2.2.2.2.2.2.2.1,.int s.2.2.2.2.2.2.2.2.2] 251),(1001,.box [N8 s.1,.aK 522,.int s.2.2.1] 40),(1002,.aF),(1003,D9 s.2.2.2.2.2.2.1 [] 520)]) [0] [] (fun _ h g=>?_) ?_
  ·refine I [4] ?_ ?_<;>intro _ h
   ·refine B [5] fun _ m h=>?_;refine cA (mb (.fn b [.fp a]) (.fn c []) fun _ _=>((w7 m _ _).sw 5 520)) ?_;refine gE (gR 1001 1 1002 521 522) ?_;exact je [(522,521),(521,522)]
   refine S [3] ?_;refine Jk e0 hn h nl (fun s=>[(523,.aF),(524,Q8 s.2.1 [] 523),(525,.aF),(1000,.box [.ptr 1001 0,.fn b [.fp a],.fn c [],.int s.2.2.2.1,.int s.2.2.2.2.1,.int s.2.2.2.2.2.1,.aK 1003,.int s.2.2.2.2.2.2.2.1,.int s.2.2.2.2.2.2.2.2.1,.int s.2.2.2.2.2.2.2.2.2] 251),(1001,.box [N8 s.1,.aK 524,.int s.2.2.1] 40),(1002,.aF),(1003,D9 s.2.2.2.2.2.2.1 [] 525)]) [0] [] [(522,524),(521,523),(520,525)] fun _ h g=>?_;refine I [4] ?_ ?_<;>intro _ h
   ·refine kd [0] [1000,1001,1002,1003] ?_;refine B [5] fun _ n h=>?_;refine cA (mb (.fn b [.fp a]) (.fn c []) fun _ _=>(M6 n _ _)) ?_;refine gE (gR 1001 1 1002 523 524) ?_;refine gE (gS 1003 525) ?_;exact je [(524,523),(523,524)]
   refine kd [0,2,4] [4,1000,1001,1002,1003] ?_;refine B [5] fun _ o h=>?_;refine cA (mb (.fn b [.fp a]) (.fn c []) fun _ _=>((((w8 o _ _).sw 3 526).sw 2 527).sw 5 528)) ?_;exact je [(524,527),(523,526),(525,528)]
  rintro⟨E,F,G,H,K,L,M,O,P,Q⟩ h;refine gE (gR 1000 6 1003 529 530) ?_;exact je [(520,522),(519,521),(88,529),(517,530)]
 rintro⟨v6,v7,v8,v9,R,T,U,V,W,X⟩ h;exact Sr [14] [(2,510),(3,509),(4,502),(5,501)]
def G0 {N a0 a1 a2 g3 g4 r} (h:iK N a0 a1 a2 g3 g4=some r) {f:Nat} {b:List AV} (x:∀c d u e,g3 c d u=some e->Spec prog f [] [.agg (bU c),.int d,.str u,.fp b] (.aZ [.int e.1,.int e.2]) [] []) {i:Nat} (j:∀c d e,g4 c d=some e->Spec prog i [] [.int c,.int d] (.aZ [.agg (eb e.1),.bool e.2]) [] []):Spec prog 125 [] [.agg (M8 a0),.agg (kN a1),.int a2,.fn f [.fp b],.fn i []] (.aZ [.agg (M8 r.1),.agg (lj r.2)]) [] []:=by
 refine so func125 ntmps125 fun Γ hn=>?_;unfold iK at h;refine B [3,2,3] fun _ y h=>?_;refine cA (wA y) ?_;refine I [3,4] ?_ ?_<;>intro _ h
 ·refine B [3] fun _ z h=>?_;refine cA (((jW z).sw 0 24).sw 1 724) ?_;refine j6.ay 24 rfl ?_;exact Sr [7]
 refine B [1,3] fun D A h=>?_;refine cA (((jW A).sw 0 28).sw 1 728) ?_;refine kd [2,3,4,5,6,10,11,13] [5,6,10,11,13,28,728] ?_;refine B [3,2,2,8] fun _ C h=>?_;refine cD (mw C) ?_;refine B [] fun _ m h=>?_;refine cD (jV m) ?_;refine kd [5,6,10,11,13,14,15,16] [5,6,10,11,13,28,33,728] ?_;refine S [3] ?_;refine nB 33 6 501 10 288 ?_;refine gC (gT 501 502 [(7,(2,29)),(8,(2,29))]) ?_;refine J e0 hn h nl (fun s=>[(33,.box [.ptr 13 0,.fn f [.fp b],.fn i [],.int s.1,.int s.2.1,.int s.2.2.1,.aK 501,.int s.2.2.2.2.1,.int s.2.2.2.2.2.1,.int s.2.2.2.2.2.2] 251),(501,D9 s.2.2.2.1 [] 502)]) [5,10,11,13,14] [5,10,11,13,28,502,728] (fun _ h g=>?_) ?_
 ·refine I [4] ?_ ?_<;>intro _ h
  ·refine B [5] fun _ o h=>?_;refine cA (mb (.fn f [.fp b]) (.fn i []) fun _ _=>((((u7 o _ _).sw 1000 33).sw 1001 13).sw 1003 501)) ?_;exact je
  refine B [5] fun _ p h=>?_;refine cA ((zp p j).bE [(1000,33),(1001,13),(1003,501),(1002,28),(1005,502),(5,503),(4,504)] rfl) ?_;exact je [(501,504),(502,503)]
 rintro⟨E,F,G,H,K,L,M⟩ h;refine S [2] ?_;refine LF e0 hn (D.a7,D.heap,D.aC,E,F,G,H,K,L,M) (fun l v=>kD N g3 g4 l v.1 v.2.1 v.2.2.1 v.2.2.2.1 v.2.2.2.2.1 v.2.2.2.2.2.1 v.2.2.2.2.2.2.1 v.2.2.2.2.2.2.2.1 v.2.2.2.2.2.2.2.2.1 v.2.2.2.2.2.2.2.2.2) h (fun v=>[]) (fun v=>[(13,.box [N8 v.1,.aK 28,.int v.2.2.1] 40),(28,Q8 v.2.1 [] 728),(33,.box [.ptr 13 0,.fn f [.fp b],.fn i [],.int v.2.2.2.1,.int v.2.2.2.2.1,.int v.2.2.2.2.2.1,.aK 501,.int v.2.2.2.2.2.2.2.1,.int v.2.2.2.2.2.2.2.2.1,.int v.2.2.2.2.2.2.2.2.2] 251),(501,D9 v.2.2.2.2.2.2.1 [] 502)]) [5,10,11,13,14] [5,10,11,502,728] [] nl (fun s=>[(13,.box [N8 s.1,.aK 28,.int s.2.2.1] 40),(28,Q8 s.2.1 [] 728),(33,.box [.ptr 13 0,.fn f [.fp b],.fn i [],.int s.2.2.2.1,.int s.2.2.2.2.1,.int s.2.2.2.2.2.1,.aK 501,.int s.2.2.2.2.2.2.2.1,.int s.2.2.2.2.2.2.2.2.1,.int s.2.2.2.2.2.2.2.2.2] 251),(501,D9 s.2.2.2.2.2.2.1 [] 502)]) [5,10,11,13,14] [5,10,11,502,728] ?_ ?_
 ·rintro _ g ⟨P,Q,R,T,U,V,W,X,Y,Z⟩ O h;rw[kD] at h;refine S [2,2] ?_;refine Jb 70 hn h [5,10,11,13,14] [5,10,11,13,28,33,501,502,728] (fun _ h g=>?_) ?_
  ·exact F8 [5] [0,13,0] [0]
  intro v60 h;refine I [4] ?_ ?_<;>intro _ h
  ·refine B [1,6,5] fun a q h=>?_;refine cA ((Ej q x j).bE [(1000,33),(1001,13),(1003,501),(1002,28),(1004,728),(1005,502),(3,505),(2,506),(5,507),(4,508)] rfl) ?_;exact le (a.w.a7,a.w.heap,a.w.aC,a.fuel,a.sends,a.turns,a.aE,a.back.k,a.back.n,a.err) [(28,506),(728,505),(501,508),(502,507)]
  exact Sj [20]
 rintro⟨v46,v47,v48,v49,v50,v51,v52,v53,v54,v55⟩ h;refine I [2,3,4] ?_ ?_<;>intro _ h
 ·refine B [2,8] fun _ t h=>?_;refine cA (((jW t).sw 0 79).sw 1 779) ?_;refine j6.ay 79 rfl ?_;exact Sr [7]
 refine S [1,2,8] ?_;refine j6.ay 28 rfl ?_;exact Sr [7]
def GZ {N a0 a1 a2 b0 r} (h:pK N a0 a1 a2 b0=some r):Spec prog 126 [] [.agg (bU a0),.int a1,.str a2,.fp (M8 b0)] (.aZ [.int r.1,.int r.2]) [] []:=by
 refine so func126 ntmps126 fun b hn=>?_;unfold pK at h;refine B [3,3] fun _ a h=>?_;refine cA (jV a) ?_;exact Sr [7]
def BU {N a0 a1 r} (h:ph N a0 a1=some r):Spec prog 127 [] [.int a0,.int a1] (.aZ [.agg (eb r.1),.bool r.2]) [] []:=by
 refine so func127 ntmps127 fun a hn=>?_;unfold ph at h;exact Sr [3,3,7]
def HL {N a0 a1 a2 r} (h:sK N a0 a1 a2=some r):Spec prog 99 [] [.agg (M8 a0),.agg (kN a1),.int a2] (.aZ [.agg (M8 r.1),.agg (lj r.2)]) [] []:=by
 refine so func99 ntmps99 fun c hn=>?_;unfold sK at h;refine S [3] ?_;refine j6.gh (Gh.bA 3 3 rfl rfl rfl) (fun _=>?_);refine kd [2,3,4,6,7] [4,6,7] ?_;refine B [3] fun _ b h=>?_;refine cA (G0 b (fun _ _ _ _ a=>GZ a) (fun _ _ _ a=>BU a)) ?_;exact Sr [7]
def zU {N a0 gq a1 a2 a3 a4 r} (h:O3 N a0 gq a1 a2 a3 a4=some r) {c:Nat} {a:List AV} {b:Nat} (z:∀v y K,gq v y=some K->Spec prog b [] [.int v,.int y] (.aZ [.agg (eb K.1),.bool K.2]) [] []):Spec prog 166 [(1000,mB a0 (.fn c [.ptr 1007 0,.fp a]) (.fn b []) 1001 1003),(1001,.box [N8 a0.w.a7,.aK 1002,.int a0.w.aC] 40),(1003,D9 a0.aE [] 1005)] [.ptr 1000 0,.int a1,.int a2,.agg (eV a3),zK a4] (.aZ []) [(1000,mB r (.fn c [.ptr 1007 0,.fp a]) (.fn b []) 1001 4),(1001,.box [N8 a0.w.a7,.aK 1002,.int a0.w.aC] 40),(4,D9 r.aE [] 5),(5,.aF),(1003,.aF)] [5,4]:=by
 refine so func166 ntmps166 fun L hn=>?_;unfold O3 at h;refine B [15,3,3] fun _ D h=>?_;refine G6 D ?_;refine B [] fun _ E h=>?_;refine G6 E ?_;refine S [2] ?_;refine kd [0,1,2,4,8,10] [8,1000,1001,1003] ?_;refine I [3,13,4] ?_ ?_<;>intro _ h
 ·refine B [3] fun _ C h=>?_;refine cA (mb (.fn c [.ptr 1007 0,.fp a]) (.fn b []) fun _ _=>(u7 C _ _)) ?_;refine gC (gR 1000 6 1003 501 502) ?_;exact Sr [7] [(4,501),(5,502)]
 refine I [1,2,3,4] ?_ ?_<;>intro _ h
 ·refine S [2] ?_;refine kd [0,4,8,10] [8,1000,1001,1003] ?_;refine B [3] fun _ i h=>?_;refine cA (mb (.fn c [.ptr 1007 0,.fp a]) (.fn b []) fun _ _=>(M6 i _ _)) ?_;refine I [4] ?_ ?_<;>intro _ h
  ·refine gC (gR 1000 6 1003 503 504) ?_;exact Sr [7] [(4,503),(5,504)]
  refine B [1,2,8] fun _ t h=>?_;refine G6 t ?_;refine B [] fun _ j h=>?_;refine cA (wX j) ?_;refine S [2] ?_;refine kd [0,11,12] [11,1000,1001,1003] ?_;refine I [3,4] ?_ ?_<;>intro _ h
  ·refine B [3] fun _ l h=>?_;refine cA (mb (.fn c [.ptr 1007 0,.fp a]) (.fn b []) fun _ _=>(u7 l _ _)) ?_;refine gC (gR 1000 6 1003 505 506) ?_;exact Sr [7] [(4,505),(5,506)]
  refine B [1,3] fun _ m h=>?_;refine cA (mb (.fn c [.ptr 1007 0,.fp a]) (.fn b []) fun _ _=>((oe m _ _).sw 5 507)) ?_;refine gC (gR 1000 6 1003 508 509) ?_;exact Sr [7] [(4,508),(5,509)]
 refine S [1,2] ?_;refine kd [0,1,2,4,8,10] [8,1000,1001,1003] ?_;refine B [3] fun _ o h=>?_;refine cA (mb (.fn c [.ptr 1007 0,.fp a]) (.fn b []) fun _ _=>(M6 o _ _)) ?_;refine I [4] ?_ ?_<;>intro _ h
 ·refine gC (gR 1000 6 1003 510 511) ?_;exact Sr [7] [(4,510),(5,511)]
 refine S [1,2] ?_;refine kd [0,1,2,4,8,10] [8,1000,1001,1003] ?_;refine B [8] fun F p h=>?_;refine cA ((mf N _ _ p).sw 0 77) ?_;refine A [] fun d h=>?_;refine kj (enc:=eV) (x:=(⟨(0:Int),(0:Int)⟩:V)) d aT ?_;refine S [2] ?_;refine kd [0,1,2,13] [13,77,82,1000,1001,1003] ?_;refine B [3] fun _ q h=>?_;refine cA (z _ _ _ q) ?_;refine S [3] ?_;refine J e0 hn h nl (fun s=>[(13,.box [.int a1,.int a2,.bool s.1,oW s.2.1,.int a3.k,.int a3.n,.aK 77,.aK 99,.aJ,.int (0:Int)] 288),(99,iZ s.2.2)]) [0,13] [77,1000,1001,1003] (fun _ h g=>?_) ?_
 ·refine I [4] ?_ ?_<;>intro _ h
  ·refine kd [0,13,14] [13,14,77,82,1000,1001,1003] ?_;refine A [8] fun e h=>?_;refine kj (enc:=eV) (x:=(⟨(0:Int),(0:Int)⟩:V)) e aT ?_;exact je
  exact Sj [1] [(99,82)]
 rintro⟨G,H,u⟩ h;refine j6.ar 77 rfl ?_;refine kd [0,13] [13,99,1000,1001,1003] ?_;refine S [8,11] ?_;refine Exists.intro [(7,(2,29)),(8,(2,29))] (Exists.intro (vW (⟨a1,a2,G,H,a3,F,u,[],(0:Int)⟩:j3)) (Exists.intro [(99,iZ u)] (AN rfl (AN rfl (AN rfl (AN G8 (AN G8 (AN rfl (AN rfl ?_)))))))));refine A [] fun f h=>?_;refine aD f ?_;exact Sr [14] [(4,110),(5,810)]
def Er {N a0 gl gq sb a1 a2 a3 r} (h:r7 N a0 gl gq sb a1 a2 a3=some r) {u:Nat} {c:List AV} (y:∀d f t E i,gl d f t E=some i->Spec prog u [(1007,.box (eF E) 153)] [.agg (bU d),.int f,.str t,.ptr 1007 0,.fp c] (.aZ [.int i.1,.int i.2.1]) [(1007,.box (eF i.2.2) 153)] []) {v:Nat} (z:∀d f i,gq d f=some i->Spec prog v [] [.int d,.int f] (.aZ [.agg (eb i.1),.bool i.2]) [] []):Spec prog 198 [(1000,mB a0 (.fn u [.ptr 1007 0,.fp c]) (.fn v []) 1001 1003),(1001,.box [N8 a0.w.a7,.aK 1002,.int a0.w.aC] 40),(1002,Q8 a0.w.heap [] 1004),(1003,D9 a0.aE [] 1005),(1007,.box (eF sb) 153)] [.ptr 1000 0,.ep 1003 a1 10 0,.agg (bd a2),.int a3] (.aZ []) [(1000,mB r.2 (.fn u [.ptr 1007 0,.fp c]) (.fn v []) 1001 4),(1001,.box [N8 a0.w.a7,.aK 1002,.int a0.w.aC] 40),(1002,Q8 a0.w.heap [] 1004),(4,D9 r.2.aE [] 5),(5,.aF),(1003,.aF),(1007,.box (eF r.1) 153)] [5,4]:=by
 refine so func198 ntmps198 fun G hn=>?_;unfold r7 at h;refine B [15,3,2] fun e b h=>?_;refine gC (gD 1003 501 502 a1 8 b) ?_;refine kd [0,1,3,6] [6,501,502,1000,1001,1002,1003,1007] ?_;refine S [8] ?_;refine hD b ?_;refine S [13,12,2] ?_;refine kd [0,1,3,6,8] [6,501,502,1000,1001,1002,1003,1007] ?_;refine S [8] ?_;refine hD b ?_;refine A [] fun x h=>?_;refine d41 x rfl rfl ?_;refine B [] fun _ C h=>?_;refine vE ((Spec.drop1 (mf N _ _ C)).sw 0 28) ⟨d42 _,trivial⟩ ?_;refine hD b ?_;refine B [12] fun _ q h=>?_;refine bT q ?_;refine V8 (l6 q).2 ?_;refine S [2] ?_;refine gC (gB 1003 501 503 a1 8 b) ?_;refine kd [0,1,3,6,8,9,10] [6,10,28,503,1000,1001,1002,1003,1007] ?_;refine S [8] ?_;refine V8 b ?_;refine V8 b ?_;refine B [] fun _ o h=>?_;refine G6 o ?_;refine V8 b ?_;refine B [] fun D p h=>?_;refine G6 p ?_;refine S [2] ?_;refine kd [0,1,6,8,9,10,11] [6,10,11,28,503,1000,1001,1002,1003,1007] ?_;refine S [3] ?_;refine V8 b ?_;refine J e0 hn h nl (fun s=>[(11,.box [.int e.aI,.str D.name,.int s] 156)]) [0,1,6,8,9,10,11] [6,10,28,503,1000,1001,1002,1003,1007] (fun _ h g=>?_) ?_
 ·exact F8 [4] [5] [1]
 intro F h;refine S [2] ?_;refine kd [0,1,6,8,9,10,11] [6,10,11,28,503,1000,1001,1002,1003,1007] ?_;refine B [8] fun _ k h=>?_;refine cD (mw k) ?_;refine B [] fun _ l h=>?_;refine cA (y _ _ _ _ _ l) ?_;refine S [2] ?_;refine kd [0,1,8,9,10,12,13] [10,28,503,1000,1001,1002,1003,1007] ?_;refine I [3,4] ?_ ?_<;>intro _ h
 ·refine B [3] fun _ m h=>?_;refine cA (mb (.fn u [.ptr 1007 0,.fp c]) (.fn v []) fun _ _=>(u7 m _ _)) ?_;refine gC (gR 1000 6 1003 504 505) ?_;exact Sr [7] [(4,504),(5,505)]
 refine S [1] ?_;refine gC (gD 1003 506 507 a1 8 b) ?_;refine kd [0,1,8,9,10,12,13] [10,28,506,507,1000,1001,1002,1003,1007] ?_;refine S [3] ?_;refine hD b ?_;refine A [12] fun j h=>?_;refine jr j rfl rfl ?_;refine hS b ?_;refine gC (gA 1003 102 508 a1 8 b (⟨e.aI,e.aL,e.aY,e.code,e.aR,e.args,e.a8,(e.aA.take (wr ((wr ((e.aA.length:Int)-a2.a))-(1:Int))).toNat),e.aH⟩:j3)) ?_;refine kd [0,1,9,10,12,13] [10,28,508,1000,1001,1002,1003,1007] ?_;refine B [5] fun _ n h=>?_;refine cF ((((zU n z).sw 1005 508).sw 5 509).sw 4 510) ?_;exact Sr [14] [(4,510),(5,509)]
def Es {N a0 gl gq sb r} (h:r6 N a0 gl gq sb=some r) {b:Nat} {a:List AV} (z:∀e f y E j,gl e f y E=some j->Spec prog b [(1007,.box (eF E) 153)] [.agg (bU e),.int f,.str y,.ptr 1007 0,.fp a] (.aZ [.int j.1,.int j.2.1]) [(1007,.box (eF j.2.2) 153)] []) {c:Nat} (C:∀e f j,gq e f=some j->Spec prog c [] [.int e,.int f] (.aZ [.agg (eb j.1),.bool j.2]) [] []):Spec prog 167 [(1000,mB a0 (.fn b [.ptr 1007 0,.fp a]) (.fn c []) 1001 1003),(1001,.box [N8 a0.w.a7,.aK 1002,.int a0.w.aC] 40),(1002,Q8 a0.w.heap [] 1004),(1003,D9 a0.aE [] 1005),(1007,.box (eF sb) 153)] [.ptr 1000 0] (.aZ []) [(1000,mB r.2 (.fn b [.ptr 1007 0,.fp a]) (.fn c []) 1001 4),(1001,.box [N8 r.2.w.a7,.aK 2,.int r.2.w.aC] 40),(2,Q8 r.2.w.heap [] 3),(3,.aF),(1002,.aF),(4,D9 r.2.aE [] 5),(5,.aF),(1003,.aF),(1007,.box (eF r.1) 153)] [3,2,5,4]:=by
 refine so func167 ntmps167 fun Γ hn=>?_;unfold r6 at h;refine B [15,2,8,13,12] fun i d h=>?_;refine iD d ?_;refine S [3] ?_;refine V8 (l6 d).2 ?_;refine kd [0,2,3] [1000,1001,1002,1003,1007] ?_;refine S [3] ?_;refine V8 (l6 d).2 ?_;refine B [] fun _ D h=>?_;refine G6 D ?_;refine S [3] ?_;refine V8 (l6 d).2 ?_;refine S [12] ?_;refine sD (l6 d).2 (⟨i.aI,i.aL,i.aY,i.code,i.aR,i.args,i.a8,i.aA,(wr (i.aH+(1:Int)))⟩:j3) ?_;refine kd [0,2,3,4] [4,1000,1001,1002,1003,1007] ?_;refine S [3] ?_;refine J e0 hn h nl (fun s=>[(501,.aF),(502,D9 s.2.2.2.2.2.2.2.1 [] 501),(509,.aF),(510,Q8 s.2.1 [] 509),(1000,.box [.ptr 1001 0,.fn b [.ptr 1007 0,.fp a],.fn c [],.int s.2.2.2.2.1,.int s.2.2.2.2.2.1,.int s.2.2.2.2.2.2.1,.aK 502,.int s.2.2.2.2.2.2.2.2.1,.int s.2.2.2.2.2.2.2.2.2.1,.int s.2.2.2.2.2.2.2.2.2.2] 251),(1001,.box [N8 s.1,.aK 510,.int s.2.2.1] 40),(1002,.aF),(1003,.aF),(1007,.box (eF s.2.2.2.1) 153)]) [0] [] (fun _ h g=>?_) ?_
 ·refine S [6,3] ?_;refine Jk e0 hn h nl (fun s=>[(501,.aF),(502,D9 s.2.2.2.2.2.2.2.1 [] 501),(509,.aF),(510,Q8 s.2.1 [] 509),(1000,.box [.ptr 1001 0,.fn b [.ptr 1007 0,.fp a],.fn c [],.int s.2.2.2.2.1,.int s.2.2.2.2.2.1,.int s.2.2.2.2.2.2.1,.aK 502,.int s.2.2.2.2.2.2.2.2.1,.int s.2.2.2.2.2.2.2.2.2.1,.int s.2.2.2.2.2.2.2.2.2.2] 251),(1001,.box [N8 s.1,.aK 510,.int s.2.2.1] 40),(1002,.aF),(1003,.aF),(1007,.box (eF s.2.2.2.1) 153)]) [0] [] [] fun _ h g=>?_;refine I [4] ?_ ?_<;>intro _ h
  ·refine B [5] fun _ q h=>?_;refine cA (((Er q z C).sw 5 501).sw 4 502) ?_;refine gE (gR 1001 1 1002 503 504) ?_;exact je [(510,503),(509,504)]
  refine S [3] ?_;refine Jk e0 hn h nl (fun s=>[(88,D9 s.2.2.2.2.2.2.1 [] 505),(505,.aF),(511,.aF),(512,Q8 s.2.1 [] 511),(1000,.box [.ptr 1001 0,.fn b [.ptr 1007 0,.fp a],.fn c [],.int s.2.2.2.1,.int s.2.2.2.2.1,.int s.2.2.2.2.2.1,.aK 88,.int s.2.2.2.2.2.2.2.1,.int s.2.2.2.2.2.2.2.2.1,.int s.2.2.2.2.2.2.2.2.2] 251),(1001,.box [N8 s.1,.aK 512,.int s.2.2.1] 40),(1002,.aF),(1003,.aF)]) [0] [1007] [(510,512),(509,511),(502,88),(501,505)] fun _ h g=>?_;refine I [4] ?_ ?_<;>intro _ h
  ·refine B [5] fun _ t h=>?_;refine cA (mb (.fn b [.ptr 1007 0,.fp a]) (.fn c []) fun _ _=>((og t _ _).sw 5 505)) ?_;refine gE (gR 1001 1 1002 506 507) ?_;refine gE (gR 1000 6 1003 508 509) ?_;exact je [(512,506),(511,507),(88,508),(505,509)]
  refine S [3] ?_;refine Jk e0 hn h nl (fun s=>[(88,D9 s.2.2.2.2.2.2.1 [] 511),(511,.aF),(515,.aF),(516,Q8 s.2.1 [] 515),(1000,.box [.ptr 1001 0,.fn b [.ptr 1007 0,.fp a],.fn c [],.int s.2.2.2.1,.int s.2.2.2.2.1,.int s.2.2.2.2.2.1,.aK 88,.int s.2.2.2.2.2.2.2.1,.int s.2.2.2.2.2.2.2.2.1,.int s.2.2.2.2.2.2.2.2.2] 251),(1001,.box [N8 s.1,.aK 516,.int s.2.2.1] 40),(1002,.aF),(1003,.aF)]) [0] [1007] [(512,516),(511,515),(505,511)] fun _ h g=>?_;refine I [4] ?_ ?_<;>intro _ h
  ·refine B [3] fun _ u h=>?_;refine cA ((kv u).sw 5 510) ?_;refine S [3] ?_;refine J e0 hn h nl (fun s=>[(511,.aF),(1000,.box [.ptr 1001 0,.fn b [.ptr 1007 0,.fp a],.fn c [],.int s.1,.int s.2.1,.int s.2.2.1,.aK 1003,.int s.2.2.2.2.1,.int s.2.2.2.2.2.1,.int s.2.2.2.2.2.2] 251),(1003,D9 s.2.2.2.1 [] 511)]) [0] [1001,1002,1007] (fun _ h g=>?_) ?_
   ·refine S [6] ?_;refine kd [0,2,4,61] [4,510,1000,1001,1002,1003,1007] ?_;refine S [3] ?_;refine Jk e0 hn h nl (fun s=>[(511,.aF),(1000,.box [.ptr 1001 0,.fn b [.ptr 1007 0,.fp a],.fn c [],.int s.1,.int s.2.1,.int s.2.2.1,.aK 1003,.int s.2.2.2.2.1,.int s.2.2.2.2.2.1,.int s.2.2.2.2.2.2] 251),(1003,D9 s.2.2.2.1 [] 511)]) [0] [1001,1002,1007] [] fun _ h g=>?_;refine I [4] ?_ ?_<;>intro _ h
    ·refine B [5] fun _ v h=>?_;refine cA (mb (.fn b [.ptr 1007 0,.fp a]) (.fn c []) fun _ _=>(((og v _ _).sw 1005 510).sw 5 511)) ?_;exact je
    refine S [3] ?_;refine Jk e0 hn h nl (fun s=>[(1000,.box [.ptr 1001 0,.fn b [.ptr 1007 0,.fp a],.fn c [],.int s.1,.int s.2.1,.int s.2.2.1,.aK 1003,.int s.2.2.2.1,.int s.2.2.2.2.1,.int s.2.2.2.2.2] 251)]) [0] [510,1001,1002,1003,1007] [(511,510)] fun _ h g=>?_;refine Ij [4] [1] fun _ h=>?_;refine B [5] fun _ x h=>?_;refine cA (mb (.fn b [.ptr 1007 0,.fp a]) (.fn c []) fun _ _=>(u7 x _ _)) ?_;exact je
   rintro⟨v61,v62,v63,v64,v65,v66,v67⟩ h;refine gE (gR 1001 1 1002 512 513) ?_;refine gE (gR 1000 6 1003 514 515) ?_;exact je [(516,512),(515,513),(88,514),(511,515)]
  refine S [3] ?_;refine Jk e0 hn h nl (fun s=>[(88,D9 s.2.2.2.2.2.2.1 [] 517),(517,.aF),(519,.aF),(520,Q8 s.2.1 [] 519),(1000,.box [.ptr 1001 0,.fn b [.ptr 1007 0,.fp a],.fn c [],.int s.2.2.2.1,.int s.2.2.2.2.1,.int s.2.2.2.2.2.1,.aK 88,.int s.2.2.2.2.2.2.2.1,.int s.2.2.2.2.2.2.2.2.1,.int s.2.2.2.2.2.2.2.2.2] 251),(1001,.box [N8 s.1,.aK 520,.int s.2.2.1] 40),(1002,.aF),(1003,.aF)]) [0] [1007] [(516,520),(515,519),(511,517)] fun _ h g=>?_;refine I [4] ?_ ?_<;>intro _ h
  ·refine B [3] fun _ l h=>?_;refine cA ((kv l).sw 5 516) ?_;refine S [2] ?_;refine kd [0,6] [6,516,1000,1001,1002,1003,1007] ?_;refine A [8,13,12] fun k h=>?_;refine jr k rfl rfl ?_;refine B [5] fun _ m h=>?_;refine cA (mb (.fn b [.ptr 1007 0,.fp a]) (.fn c []) fun _ _=>((((oe m _ _).sw 1003 88).sw 1005 788).sw 5 517)) ?_;refine gE (gR 1001 1 1002 518 519) ?_;exact je [(520,518)]
  refine S [3] ?_;refine J e0 hn h nl (fun s=>[(520,.aF),(521,.aF),(522,Q8 s.2.1 [] 521),(1000,.box [.ptr 1001 0,.fn b [.ptr 1007 0,.fp a],.fn c [],.int s.2.2.2.1,.int s.2.2.2.2.1,.int s.2.2.2.2.2.1,.aK 1003,.int s.2.2.2.2.2.2.2.1,.int s.2.2.2.2.2.2.2.2.1,.int s.2.2.2.2.2.2.2.2.2] 251),(1001,.box [N8 s.1,.aK 522,.int s.2.2.1] 40),(1002,.aF),(1003,D9 s.2.2.2.2.2.2.1 [] 520)]) [0] [1007] (fun _ h g=>?_) ?_
  ·refine I [4] ?_ ?_<;>intro _ h
   ·refine B [5] fun _ n h=>?_;refine cA (mb (.fn b [.ptr 1007 0,.fp a]) (.fn c []) fun _ _=>((w7 n _ _).sw 5 520)) ?_;refine gE (gR 1001 1 1002 521 522) ?_;exact je [(522,521),(521,522)]
   refine S [3] ?_;refine Jk e0 hn h nl (fun s=>[(523,.aF),(524,Q8 s.2.1 [] 523),(525,.aF),(1000,.box [.ptr 1001 0,.fn b [.ptr 1007 0,.fp a],.fn c [],.int s.2.2.2.1,.int s.2.2.2.2.1,.int s.2.2.2.2.2.1,.aK 1003,.int s.2.2.2.2.2.2.2.1,.int s.2.2.2.2.2.2.2.2.1,.int s.2.2.2.2.2.2.2.2.2] 251),(1001,.box [N8 s.1,.aK 524,.int s.2.2.1] 40),(1002,.aF),(1003,D9 s.2.2.2.2.2.2.1 [] 525)]) [0] [1007] [(522,524),(521,523),(520,525)] fun _ h g=>?_;refine I [4] ?_ ?_<;>intro _ h
   ·refine kd [0] [1000,1001,1002,1003,1007] ?_;refine B [5] fun _ o h=>?_;refine cA (mb (.fn b [.ptr 1007 0,.fp a]) (.fn c []) fun _ _=>(M6 o _ _)) ?_;refine gE (gR 1001 1 1002 523 524) ?_;refine gE (gS 1003 525) ?_;exact je [(524,523),(523,524)]
   refine kd [0,2,4] [4,1000,1001,1002,1003,1007] ?_;refine B [5] fun _ p h=>?_;refine cA (mb (.fn b [.ptr 1007 0,.fp a]) (.fn c []) fun _ _=>((((w8 p _ _).sw 3 526).sw 2 527).sw 5 528)) ?_;exact je [(524,527),(523,526),(525,528)]
  rintro⟨F,G,H,K,L,M,O,P,Q,R⟩ h;refine gE (gR 1000 6 1003 529 530) ?_;exact je [(520,522),(519,521),(88,529),(517,530)]
 rintro⟨v6,v7,v8,v9,T,U,V,W,X,Y,Z⟩ h;exact Sr [14] [(2,510),(3,509),(4,502),(5,501)]
def Fy {N a0 a1 a2 g3 sb g4 r} (h:mT N a0 a1 a2 g3 sb g4=some r) {i:Nat} {b:List AV} (y:∀c d f x e,g3 c d f x=some e->Spec prog i [(1055,.box (eF x) 153)] [.agg (bU c),.int d,.str f,.ptr 1055 0,.fp b] (.aZ [.int e.1,.int e.2.1]) [(1055,.box (eF e.2.2) 153)] []) {j:Nat} (m:∀c d e,g4 c d=some e->Spec prog j [] [.int c,.int d] (.aZ [.agg (eb e.1),.bool e.2]) [] []):Spec prog 125 [(1055,.box (eF sb) 153)] [.agg (M8 a0),.agg (kN a1),.int a2,.fn i [.ptr 1055 0,.fp b],.fn j []] (.aZ [.agg (M8 r.1),.agg (lj r.2.1)]) [(1055,.box (eF r.2.2) 153)] []:=by
 refine so func125 ntmps125 fun Γ hn=>?_;unfold mT at h;refine B [3,2,3] fun _ z h=>?_;refine cA (wA z) ?_;refine I [3,4] ?_ ?_<;>intro _ h
 ·refine B [3] fun _ A h=>?_;refine cA (((jW A).sw 0 24).sw 1 724) ?_;refine j6.ay 24 rfl ?_;exact Sr [7]
 refine B [1,3] fun E C h=>?_;refine cA (((jW C).sw 0 28).sw 1 728) ?_;refine kd [2,3,4,5,6,10,11,13] [5,6,10,11,13,28,728,1055] ?_;refine B [3,2,2,8] fun _ D h=>?_;refine cD (mw D) ?_;refine B [] fun _ o h=>?_;refine cD (jV o) ?_;refine kd [3,4,5,6,10,11,13,14,15,16] [5,6,10,11,13,28,33,728,1055] ?_;refine S [3] ?_;refine nB 33 6 501 10 288 ?_;refine gC (gT 501 502 [(7,(2,29)),(8,(2,29))]) ?_;refine J e0 hn h nl (fun s=>[(33,.box [.ptr 13 0,.fn i [.ptr 1055 0,.fp b],.fn j [],.int s.1,.int s.2.1,.int s.2.2.1,.aK 501,.int s.2.2.2.2.1,.int s.2.2.2.2.2.1,.int s.2.2.2.2.2.2] 251),(501,D9 s.2.2.2.1 [] 502)]) [3,4,5,10,11,13,14] [5,10,11,13,28,502,728,1055] (fun _ h g=>?_) ?_
 ·refine I [4] ?_ ?_<;>intro _ h
  ·refine B [5] fun _ p h=>?_;refine cA (mb (.fn i [.ptr 1055 0,.fp b]) (.fn j []) fun _ _=>((((u7 p _ _).sw 1000 33).sw 1001 13).sw 1003 501)) ?_;exact je
  refine B [5] fun _ q h=>?_;refine cA ((zU q m).bE [(1000,33),(1001,13),(1003,501),(1002,28),(1005,502),(1007,1055),(5,503),(4,504)] rfl) ?_;exact je [(501,504),(502,503)]
 rintro⟨F,G,H,K,L,M,O⟩ h;refine S [2] ?_;refine LF e0 hn (sb,E.a7,E.heap,E.aC,F,G,H,K,L,M,O) (fun l v=>n4 N g3 g4 l v.1 v.2.1 v.2.2.1 v.2.2.2.1 v.2.2.2.2.1 v.2.2.2.2.2.1 v.2.2.2.2.2.2.1 v.2.2.2.2.2.2.2.1 v.2.2.2.2.2.2.2.2.1 v.2.2.2.2.2.2.2.2.2.1 v.2.2.2.2.2.2.2.2.2.2) h (fun v=>[]) (fun v=>[(13,.box [N8 v.2.1,.aK 28,.int v.2.2.2.1] 40),(28,Q8 v.2.2.1 [] 728),(33,.box [.ptr 13 0,.fn i [.ptr 1055 0,.fp b],.fn j [],.int v.2.2.2.2.1,.int v.2.2.2.2.2.1,.int v.2.2.2.2.2.2.1,.aK 501,.int v.2.2.2.2.2.2.2.2.1,.int v.2.2.2.2.2.2.2.2.2.1,.int v.2.2.2.2.2.2.2.2.2.2] 251),(501,D9 v.2.2.2.2.2.2.2.1 [] 502),(1055,.box (eF v.1) 153)]) [3,4,5,10,11,13,14] [5,10,11,502,728] [] nl (fun s=>[(13,.box [N8 s.2.1,.aK 28,.int s.2.2.2.1] 40),(28,Q8 s.2.2.1 [] 728),(33,.box [.ptr 13 0,.fn i [.ptr 1055 0,.fp b],.fn j [],.int s.2.2.2.2.1,.int s.2.2.2.2.2.1,.int s.2.2.2.2.2.2.1,.aK 501,.int s.2.2.2.2.2.2.2.2.1,.int s.2.2.2.2.2.2.2.2.2.1,.int s.2.2.2.2.2.2.2.2.2.2] 251),(501,D9 s.2.2.2.2.2.2.2.1 [] 502),(1055,.box (eF s.1) 153)]) [3,4,5,10,11,13,14] [5,10,11,502,728] ?_ ?_
 ·rintro _ g ⟨R,T,U,V,W,X,Y,Z,v34,v35,v36⟩ Q h;rw[n4] at h;refine S [2,2] ?_;refine Jb 70 hn h [3,4,5,10,11,13,14] [5,10,11,13,28,33,501,502,728,1055] (fun _ h g=>?_) ?_
  ·exact F8 [5] [0,13,0] [0]
  intro v63 h;refine I [4] ?_ ?_<;>intro _ h
  ·refine B [1,6,5] fun a t h=>?_;refine cA ((Es t (fun c d f x e P=>(y c d f x e P).sw 1055 1007) m).bE [(1000,33),(1001,13),(1003,501),(1002,28),(1004,728),(1005,502),(1007,1055),(3,505),(2,506),(5,507),(4,508)] rfl) ?_;exact le (a.1,a.2.w.a7,a.2.w.heap,a.2.w.aC,a.2.fuel,a.2.sends,a.2.turns,a.2.aE,a.2.back.k,a.2.back.n,a.2.err) [(28,506),(728,505),(501,508),(502,507)]
  exact Sj [20]
 rintro⟨v48,v49,v50,v51,v52,v53,v54,v55,v56,v57,v58⟩ h;refine I [2,3,4] ?_ ?_<;>intro _ h
 ·refine B [2,8] fun _ u h=>?_;refine cA (((jW u).sw 0 79).sw 1 779) ?_;refine j6.ay 79 rfl ?_;exact Sr [7]
 refine S [1,2,8] ?_;refine j6.ay 28 rfl ?_;exact Sr [7]
def EZ {N a0 g1 r} (h:O0 N a0 g1=some r) {m:Nat} {a:List AV} (f:∀d n,g1 d=some n->Spec prog m [] [.agg (hC d),.fp a] (.bool n) [] []):Spec prog 230 [] [kY a0,.fn m [.fp a]] (.int r) [] []:=by
 refine so func230 ntmps230 fun p hn=>?_;unfold O0 at h;refine S [3,2,3] ?_;refine J2 fun i=>?_;refine LR e1 hn () (fun l k v=>y9 N g1 l k) h (fun e v=>[(8,.int (e:Int))]) (fun e v=>[]) [0,1,7] [] [] nl nl [] [] ?_ ?_ ?_
 ·intro _ g e _ h _;rw[y9] at h;exact Sj [3,2,4,0,20]
 ·intro _ g e _ o j h _ c _;rw[y9] at h;refine S [3,2,4,0,1,2,6,3,3] ?_;refine P9 c ?_;refine B [] fun _ b h=>?_;refine cA (f _ _ b) ?_;refine Ir [4] [3,7] fun _ h=>?_;refine S [1,5] ?_;refine MF (AN (M7 c i) ?_);exact le () []
 rintro⟨⟩ h;exact Sr [3,7]
def GC {N a0 b0 r} (h:nA N a0 b0=some r):Spec prog 231 [] [.agg (hC a0),.fp (bU b0)] (.bool r) [] []:=by
 refine so func231 ntmps231 fun a hn=>?_;unfold nA at h;exact Sr [3,3,7]
def zm {N a0 a1 r} (h:nP N a0 a1=some r):Spec prog 203 [] [kY a0,.agg (bU a1)] (.int r) [] []:=by
 refine so func203 ntmps203 fun c hn=>?_;unfold nP at h;refine S [3] ?_;refine j6.gh (Gh.bA 3 3 rfl rfl rfl) (fun _=>?_);refine kd [0,3] [] ?_;refine B [3] fun _ a h=>?_;refine cA (EZ a (fun _ _ b=>GC b)) ?_;exact Sr [7]
def HO {N a0 a1 a2 a3 r} (h:sH N a0 a1 a2 a3=some r):Spec prog 168 [] [kY a0,.agg (bU a1),.int a2,.int a3] (.int r) [] []:=by
 refine so func168 ntmps168 fun n hn=>?_;unfold sH at h;refine B [3,3] fun _ f h=>?_;refine cA (zm f) ?_;refine S [2,2] ?_;refine Jb 25 hn h [0,3,9] [] (fun _ h g=>?_) ?_
 ·refine Ij [5] [0] fun _ h=>?_;refine B [0] fun _ i h=>?_;refine G6 i ?_;exact Sj [0]
 intro m h;refine Ir [4] [3,7] fun _ h=>?_;refine B [1,2,3] fun _ d h=>?_;refine G6 d ?_;refine J2 fun c=>?_;refine LR e1 hn () (fun l k v=>nI N a3 l k) h (fun a v=>[(32,.int (a:Int))]) (fun a v=>[]) [3,30,31] [] [] nl nl [] [] ?_ ?_ ?_
 ·intro _ g a _ h _;rw[nI] at h;exact Sj [3,2,4,0,20]
 ·intro _ g a _ j e h _ b _;rw[nI] at h;refine S [3,2,4,0,1,2,6,3] ?_;refine P9 b ?_;refine Ir [3,4] [3,7] fun _ h=>?_;refine S [1,5] ?_;refine MF (AN (M7 b c) ?_);exact le () []
 rintro⟨⟩ h;exact Sr [3,7]
def zV {N a0 g1 r} (h:I9 N a0 g1=some r) {m:Nat} {a:List AV} (f:∀d n,g1 d=some n->Spec prog m [] [.agg (V7 d),.fp a] (.bool n) [] []):Spec prog 172 [] [EN a0,.fn m [.fp a]] (.int r) [] []:=by
 refine so func172 ntmps172 fun p hn=>?_;unfold I9 at h;refine S [3,2,3] ?_;refine J2 fun i=>?_;refine LR e1 hn () (fun l k v=>y8 N g1 l k) h (fun e v=>[(8,.int (e:Int))]) (fun e v=>[]) [0,1,7] [] [] nl nl [] [] ?_ ?_ ?_
 ·intro _ g e _ h _;rw[y8] at h;exact Sj [3,2,4,0,20]
 ·intro _ g e _ o j h _ c _;rw[y8] at h;refine S [3,2,4,0,1,2,6,3,3] ?_;refine P9 c ?_;refine B [] fun _ b h=>?_;refine cA (f _ _ b) ?_;refine Ir [4] [3,7] fun _ h=>?_;refine S [1,5] ?_;refine MF (AN (M7 c i) ?_);exact le () []
 rintro⟨⟩ h;exact Sr [3,7]
def Ec {N a0 g1 r} (h:R5 N a0 g1=some r) {e:Nat} {a:List AV} (c:∀b f,g1 b=some f->Spec prog e [] [.agg (V7 b),.fp a] (.bool f) [] []):Spec prog 204 [] [EN a0,.fn e [.fp a]] (.bool r) [] []:=by
 refine so func204 ntmps204 fun i hn=>?_;unfold R5 at h;refine B [3,3] fun _ d h=>?_;refine cA (zV d c) ?_;exact Sr [7]
def FO {N a0 b0 r} (h:ri N a0 b0=some r):Spec prog 205 [] [.agg (V7 a0),.fp [.int b0]] (.bool r) [] []:=by
 refine so func205 ntmps205 fun a hn=>?_;unfold ri at h;exact Sr [3,3,7]
def d21 (N:Nat) {l:List Ln} (h:Fit l.length 16):X7 N l=some l:=by
  unfold X7;rw[show IN (l.length*16) 140737488355328=true from Nat.ble_eq_true_of_le h];rfl
def Q6 (t:Ce):List AV:=[.int t.site.cls,.str t.site.name,.int t.site.pos,.int t.aC,.bool t.many]
def dB (t:Ce):List AV×List (List AV):=(Q6 t,t.lines.map V7)
def Gd (N:Nat) (l:List Ce) (s:Fit l.length 72) (i:∀t∈l,Fit t.lines.length 16):Spec prog 61 [] [.sl 6 (l.map hC)] (.cI 0) [(0,.nest 6 159 2 167 (l.map dB))] [0]:=by
  refine Spec.of eg func61 rfl ntmps61 C8 rfl rfl rfl fun u hn=>?_;(repeat (first|refine H6 hn ?_|refine M4 hn ?_|refine O1 hn ?_|refine M3 hn ?_|refine M0 hn ?_|refine K7 hn ?_|refine ao hn ?_));refine J2 (fun c=>?_);(repeat (first|refine H6 hn ?_|refine M4 hn ?_|refine O1 hn ?_|refine M3 hn ?_|refine M0 hn ?_|refine K7 hn ?_|refine ao hn ?_));refine j6.bG 3 3 6 159 rfl rfl rfl ?_;refine j6.gh (Gh.mP 100 2 167 rfl rfl) (fun _=>?_);refine j6.loop (ι:={p:Nat×List (Hd×List AV×List (List AV)) // p.1<=l.length/\p.2.map (·.2)=(l.take p.1).map dB}) (fun p=>[(6,.sl 6 (l.map hC)),(7,.int l.length),(8,.int p.1.1),(3,.aK 3)])
    (fun p=>[(3,.row 6 (q8 p.1.2) 159),(100,.pins 2 (Z0 p.1.2) 167)]) (fun p=>l.length-p.1.1) ⟨(0,[]),d9,rfl⟩ [] ?_ ?_ ?_
  · exact⟨⟨rfl,rfl,rfl,rfl,trivial⟩,⟨rfl,rfl,trivial⟩,rfl,rfl⟩
  · intro k;rw[hn];rfl
  rintro⟨⟨k,z⟩,o,b⟩;have o:k<=l.length:=o;have b:z.map (·.2)=(l.take k).map dB:=b;(repeat (first|refine H6 hn ?_|refine M4 hn ?_|refine O1 hn ?_|refine M3 hn ?_|refine M0 hn ?_|refine K7 hn ?_|refine ao hn ?_));refine im (fun a=>?_) (fun j=>?_)
  · have a:k<l.length:=by have:(k:Int)<(l.length:Int):=a;omega
    (repeat (first|refine H6 hn ?_|refine M4 hn ?_|refine O1 hn ?_|refine M3 hn ?_|refine M0 hn ?_|refine K7 hn ?_|refine ao hn ?_));refine AN d9 (AN (by simpa using a) ?_);intro w f r;obtain⟨x,d,rfl⟩:=EM f;have d:l[k]?=some x:=d;(repeat (first|refine H6 hn ?_|refine M4 hn ?_|refine O1 hn ?_|refine M3 hn ?_|refine M0 hn ?_|refine K7 hn ?_|refine ao hn ?_));show L9 _ _ _ _ _;refine L9.a_ ((uF N x.lines x.lines (d21 N (i x (MP d)))).sw 0 14) (by first|exact kF rfl|((repeat (refine AN rfl ?_));exact trivial)) (by(repeat (refine AN rfl ?_));exact trivial) rfl ?_;refine j6.gh (Gh.tq 5 5 14 100 rfl rfl rfl rfl rfl rfl rfl) (fun h=>?_);(repeat (first|refine H6 hn ?_|refine M4 hn ?_|refine O1 hn ?_|refine M3 hn ?_|refine M0 hn ?_|refine K7 hn ?_|refine ao hn ?_));refine Exists.intro [Q6 x++[.aU h.v]] (AN aT ?_);have n:(q8 z).length=k:=by
      have:=jd b;rw[Mq] at this;simp only[q8,MW];omega
    refine AN ?_ (Exists.intro (q8 (z++[(h,dB x)])) (AN (by rw[uN];exact O4 _) ?_))
    · show((q8 z).length+1)*72<=_;rw[n];exact Nat.le_trans (Mt 72 a) s
    (repeat (first|refine H6 hn ?_|refine M4 hn ?_|refine O1 hn ?_|refine M3 hn ?_|refine M0 hn ?_|refine K7 hn ?_|refine ao hn ?_));refine MF (AN (xf a c) ?_);have m:(z++[(h,dB x)]).map (·.2)=(l.take (k+1)).map dB:=by
      rw[xK d,List.map_append,List.map_append,show z.map (·.2)=(l.take k).map dB from b];rfl
    refine⟨⟨(k+1,z++[(h,dB x)]),a,m⟩,[(3,19)],by show l.length-(k+1)<l.length-k;omega,⟨⟨rfl,rfl,rfl,rfl,trivial⟩,⟨rfl,?_,trivial⟩,rfl,rfl⟩⟩
    · exact congrArg (fun q=>some (Obj.pins 2 q 167)) (vG z (h,dB x)).symm
  · have e:k=l.length:=by have:¬(k:Int)<(l.length:Int):=j;omega
    subst e;have b:z.map (·.2)=l.map dB:=by
      have:z.map (·.2)=(l.take l.length).map dB:=b;rwa [List.take_length] at this
    refine M0 hn ?_;show j6 prog u _ _ _ _;refine j6.gh (Gh.close 3 3 100 101 z rfl rfl rfl rfl rfl b rfl rfl rfl rfl rfl) ?_;intro _;(repeat (first|refine H6 hn ?_|refine M4 hn ?_|refine O1 hn ?_|refine M3 hn ?_|refine M0 hn ?_|refine K7 hn ?_|refine ao hn ?_));exact⟨[(0,101)],_,rfl,rfl,⟨rfl,trivial⟩,rfl,rfl,rfl,rfl,rfl⟩
def CS (l:List Ce):du 2 (l.map dB)=l.map hC:=by simp[du,dB,Q6,hC]
theorem d93 (N:Nat) (s:St):∀(l:List Ce) (k:Nat),y9 N (fun x=>nA N x s) l k=some (match l.findIdx? (fun t=>decide (t.site=s)) with|some i=>.ret ((k+i:Nat):Int)|none=>.next ())
  |[],k=>rfl
  |x::l,k=>by
    rw[y9,nY,d93 N s l (k+1)];unfold nA;rw[show cz (bU x.site) (bU s)=decide (x.site=s) from zA x.site s];by_cases e:x.site=s
    · simp[e]
    · cases l.findIdx? (fun t=>decide (t.site=s))<;>simp[e];omega
def Gc (N:Nat) (l:List Ce) (s:St):nP N l s=some (fk (fun t=>decide (t.site=s)) l):=by
  unfold nP O0 fk;rw[d93];cases l.findIdx? (fun t=>decide (t.site=s))<;>simp
theorem Dt (N:Nat) (c:Int):∀(l:List Ln) (k:Nat),y8 N (fun x=>ri N x c) l k=some (match l.findIdx? (fun t=>decide (t.cls=c)) with|some i=>.ret ((k+i:Nat):Int)|none=>.next ())
  |[],k=>rfl
  |x::l,k=>by
    rw[y8,nY,Dt N c l (k+1)];unfold ri;by_cases e:x.cls=c
    · simp[e]
    · cases l.findIdx? (fun t=>decide (t.cls=c))<;>simp[e];omega
def Hu (N:Nat) (c:Int) (l:List Ln):R5 N l (fun x=>ri N x c)=some (decide (0<=fk (fun t=>decide (t.cls=c)) l)):=by
  unfold R5 I9 fk;rw[Dt];cases l.findIdx? (fun t=>decide (t.cls=c))<;>simp
def HJ (N:Nat) (l:List Ce) (s:St) (e:Int) (c:Int) (f:Int) (r:List Ce) (h:sI N l s e c f=some r):Spec prog 169 [] [.sl 6 (l.map hC),.agg (bU s),.int e,.int c,.int f] (.aK 0) [(0,.row 6 (r.map hC) 159)] [0]:=by
  unfold sI at h;obtain⟨R,h⟩:=j7 h;obtain rfl:=oI h;rw[IT,MR] at R;have hf:Fit (l.length+1) 72:=MZ R.1;have M:∀t∈l,Fit (t.lines.length+1) 16:=fun t ht=>MZ (R.2 t ht);clear h R;refine Spec.of eg func169 rfl ntmps169 C8 rfl rfl rfl fun D hn=>?_;refine H6 hn ?_;show j6 prog D _ _ _ _;refine j6.gh (Gh.bA 6 6 rfl rfl rfl) ?_;intro _;show j6 prog D _ _ _ _;refine j6.gh (Gh.bA 8 8 rfl rfl rfl) ?_;intro _;(repeat (first|refine H6 hn ?_|refine M4 hn ?_|refine O1 hn ?_|refine M3 hn ?_|refine M0 hn ?_|refine K7 hn ?_|refine ao hn ?_));show L9 _ _ _ _ _;refine L9.a_ ((Gd N l (Nat.le_trans (Mt _ (Nat.le_succ _)) hf) (fun t ht=>Nat.le_trans (Mt _ (Nat.le_succ _)) (M t ht))).sw 0 15) (by first|exact kF rfl|((repeat (refine AN rfl ?_));exact trivial)) (by(repeat (refine AN rfl ?_));exact trivial) rfl ?_;(repeat (first|refine H6 hn ?_|refine M4 hn ?_|refine O1 hn ?_|refine M3 hn ?_|refine M0 hn ?_|refine K7 hn ?_|refine ao hn ?_));show L9 _ _ _ _ _;refine L9.hU (zm (Gc N l s)) ?_ rfl ?_
  · show dU [.sl 6 (du 2 (l.map dB)),.agg (bU s)] _;rw[CS];exact kF rfl
  show j6 prog D _ _ _ _;refine j6.gh (Gh.open 11 15 102 103 rfl rfl rfl rfl rfl rfl (fun _=>rfl)) ?_;rintro⟨z,G⟩;refine j6.cut (ι:={ q:Nat×Ce×Hd×List (Hd×List AV×List (List AV)) // q.2.2.2[q.1]?=some (q.2.2.1,dB q.2.1)/\q.2.2.2.map (·.2)=(bb (fun t:Ce=>decide (t.site=s)) ⟨s,e,false,[]⟩ l).1.map dB/\(bb (fun t:Ce=>decide (t.site=s)) ⟨s,e,false,[]⟩ l).1[q.1]?=some q.2.1/\(bb (fun t:Ce=>decide (t.site=s)) ⟨s,e,false,[]⟩ l).2=q.1/\Fit (q.2.1.lines.length+1) 16/\q.2.1.site=s })
    (fun q=>[(11,.aK 102),(12,.int q.1.1),(2,.int e),(4,.int f),(6,.fp (bU s)),(8,.fp [.int c])]) (fun q=>[(102,.row 6 (q8 q.1.2.2.2) 159),(103,.pins 2 ((Z0 q.1.2.2.2).eraseIdx q.1.1) 167),(104,.row 2 (q.1.2.1.lines.map V7) 167),(105,.eqv 104 q.1.2.2.1.v)]) ?_ ?_ ?_
  · (repeat (first|refine H6 hn ?_|refine M4 hn ?_|refine O1 hn ?_|refine M3 hn ?_|refine M0 hn ?_|refine K7 hn ?_|refine ao hn ?_));rcases vX (fun t:Ce=>decide (t.site=s)) l with⟨k,x,e1,H,e3,e4⟩|⟨e1,H⟩
    · refine im (fun B=>?_) (fun A=>?_)
      · rw[e1] at B;omega
      · obtain⟨h,P⟩:=Dk G H;have X:(Z0 z).Perm ((h,x.lines.map V7)::(Z0 z).eraseIdx k):=by
          have hk:(Z0 z)[k]?=some (h,x.lines.map V7):=(by simp[Z0,P,dB]);obtain⟨hl,hv⟩:=ME.1 hk;rw[<-hv];exact(List.ae hl).symm
        show j6 prog D _ _ _ _;refine j6.gh (Gh.mR 103 104 105 rfl X rfl rfl rfl rfl rfl) ?_;intro _;refine K7 hn ?_;have ex:bb (fun t:Ce=>decide (t.site=s)) ⟨s,e,false,[]⟩ l=(l,k):=by unfold bb;rw[e4]
        refine⟨⟨(k,x,h,z),P,by rw[ex];exact G,by rw[ex];exact H,by rw[ex],M x (MP H),of_decide_eq_true e3⟩,[],⟨⟨rfl,congrArg AV.int e1,rfl,rfl,rfl,rfl,trivial⟩,⟨rfl,rfl,rfl,rfl,trivial⟩,rfl,rfl⟩⟩
    · refine im (fun B=>?_) (fun A=>?_)
      · (repeat (first|refine H6 hn ?_|refine M4 hn ?_|refine O1 hn ?_|refine M3 hn ?_|refine M0 hn ?_|refine K7 hn ?_|refine ao hn ?_));rintro _ rfl hlen;refine j6.ops (jv hn 7 ?_);refine Exists.intro [[.int s.cls,.str s.name,.int s.pos,.int e,.bool false,.aJ]] (AN aT ?_);refine AN ?_ (Exists.intro (q8 z++[[AV.int s.cls,.str s.name,.int s.pos,.int e,.bool false,.aJ]]) (AN (O4 _) ?_))
        · show((q8 z).length+1)*72<=_;rw[show(q8 z).length=l.length by simp only[q8,MW];exact jd G];exact hf
        have ad:(q8 z++[[AV.int s.cls,.str s.name,.int s.pos,.int e,.bool false,.aJ]])[l.length]?=some [AV.int s.cls,.str s.name,.int s.pos,.int e,.bool false,.aJ]:=by
          rw[Ma (by simp[q8,jd G])];simp[q8,jd G]
        show cY prog D _ _ _ _ _;refine cY.gh (Gh.e8 (r:=28) (i:=l.length) (off:=5) (j:=104) (j':=105) (isz:=2) (ie:=167) rfl ad rfl rfl rfl rfl rfl rfl) ?_;intro _;refine cY.done ?_;have ex:bb (fun t:Ce=>decide (t.site=s)) ⟨s,e,false,[]⟩ l=(l++[⟨s,e,false,[]⟩],l.length):=by unfold bb;rw[H]
        have o:=jd G;refine⟨⟨(l.length,⟨s,e,false,[]⟩,⟨none,0,0⟩,z++[(⟨none,0,0⟩,dB ⟨s,e,false,[]⟩)]),?_,?_,?_,?_,?_,rfl⟩,[(102,28)],⟨⟨rfl,?_,rfl,rfl,rfl,rfl,trivial⟩,⟨?_,?_,rfl,rfl,trivial⟩,rfl,rfl⟩⟩
        · show(z++[_])[l.length]?=_;rw[Ma d9];simp[o]
        · rw[ex];show MJ (fun p:Hd×List AV×List (List AV)=>p.2) (z++[_])=MJ dB (l++[_]);rw[List.map_append,List.map_append,G];rfl
        · rw[ex];show(l++[_])[l.length]?=_;rw[Ma (It _)];simp
        · rw[ex]
        · show(0+1)*16<=_;decide
        · exact congrArg AV.int (by simp[q8,o])
        · refine congrArg (fun q=>some (Obj.row 6 q 159)) ?_;show(q8 z++[_]).set l.length _=q8 (z++[_]);rw[uN,List.set_append_right _ _ (by simp[q8,o])];simp[q8,o,dB,Q6]
        · refine congrArg (fun q=>some (Obj.pins 2 q 167)) ?_;show Z0 z=(Z0 (z++[_])).eraseIdx l.length;rw[vG,List.eraseIdx_append_of_length_le (by simp[Z0,o])];simp[Z0,o]
      · rw[e1] at A;omega
  · intro k;rw[hn];rfl
  rintro⟨⟨k,x,h,z⟩,w,Y,Z,hq4,hq5,F⟩;have w:z[k]?=some (h,dB x):=w;have F:x.site=s:=F;have b:k<(q8 z).length:=by
    have:=(ME.1 w).1;simpa[q8] using this
  have ad:(q8 z)[k]?=some (Q6 x++[.aU h.v]):=by simp[q8,w,dB]
  (repeat (first|refine H6 hn ?_|refine M4 hn ?_|refine O1 hn ?_|refine M3 hn ?_|refine M0 hn ?_|refine K7 hn ?_|refine ao hn ?_));refine AN d9 (AN (by simpa using b) ?_);refine AN (by simpa using b) (fun d a=>?_);have a:(q8 z)[k]?=some d:=a;obtain rfl:d=Q6 x++[.aU h.v]:=oI (a.symm.trans ad);show j6 prog D _ _ _ _;refine j6.gQ (ι:={ q:Ce×Hd // q.1=fb e x/\Fit (q.1.lines.length+1) 16 })
    (fun q=>[(11,.aK 102),(12,.int k),(4,.int f),(8,.fp [.int c])]) (fun q=>[(102,.row 6 ((q8 z).set k (Q6 q.1.1++[.aU q.1.2.v])) 159),(103,.pins 2 ((Z0 z).eraseIdx k) 167),(104,.row 2 (q.1.1.lines.map V7) 167),(105,.eqv 104 q.1.2.v)]) (fun Q2 Q q2x q2r=>?_) (by intro k;rw[hn];rfl) ?_
  · (repeat (first|refine H6 hn ?_|refine M4 hn ?_|refine O1 hn ?_|refine M3 hn ?_|refine M0 hn ?_|refine K7 hn ?_|refine ao hn ?_));refine nq (fun T=>?_) (fun T=>?_)
    · have W:¬x.aC=e:=by simpa using T
      have n:fb e x=⟨x.site,e,false,[]⟩:=N1 W;refine M4 hn ?_;refine AN d9 (AN (by simpa using b) ?_);refine AN (by simpa using b) (fun d a=>?_);have a:(q8 z)[k]?=some d:=a;obtain rfl:d=Q6 x++[.aU h.v]:=oI (a.symm.trans ad);refine Exists.intro ((q8 z).set k [.int s.cls,.str s.name,.int s.pos,.int e,.bool false,.aJ]) (AN (O4 _) ?_);have J:((q8 z).set k [AV.int s.cls,.str s.name,.int s.pos,.int e,.bool false,.aJ])[k]?=some [AV.int s.cls,.str s.name,.int s.pos,.int e,.bool false,.aJ]:=by rw[MY,N2 rfl,N2 b]
      refine Q _ _ ?_;refine X6.gh (Gh.e8 (r:=102) (i:=k) (off:=5) (j:=106) (j':=107) (isz:=2) (ie:=167) rfl J rfl rfl rfl rfl rfl rfl) (fun _=>?_);refine X6.done ?_;refine⟨⟨(fb e x,⟨none,0,0⟩),rfl,by show Fit ((fb e x).lines.length+1) 16;rw[n];show(0+1)*16<=_;decide⟩,[(104,106),(105,107)],trivial,⟨⟨rfl,rfl,rfl,rfl,trivial⟩,⟨?_,rfl,?_,rfl,trivial⟩,rfl,rfl⟩⟩
      · refine congrArg (fun q=>some (Obj.row 6 q 159)) ?_;show((q8 z).set k [AV.int s.cls,.str s.name,.int s.pos,.int e,.bool false,.aJ]).set k [AV.int s.cls,.str s.name,.int s.pos,.int e,.bool false,.aU (⟨none,0,0⟩:Hd).v]=(q8 z).set k (Q6 (fb e x)++[.aU (⟨none,0,0⟩:Hd).v]);rw[List.set_set,n,<-F];rfl
      · refine congrArg (fun q=>some (Obj.row 2 q 167)) ?_;show[]=MJ V7 (fb e x).lines;rw[n];rfl
    · have he:x.aC=e:=by simpa using T
      have n:fb e x=x:=N2 he;refine K7 hn ?_;refine Q _ _ ?_;refine X6.done ?_;refine⟨⟨(fb e x,h),rfl,by show Fit ((fb e x).lines.length+1) 16;rw[n];exact hq5⟩,[],trivial,⟨⟨rfl,rfl,rfl,rfl,trivial⟩,⟨?_,rfl,?_,rfl,trivial⟩,rfl,rfl⟩⟩
      · refine congrArg (fun q=>some (Obj.row 6 q 159)) ?_;show q8 z=(q8 z).set k (Q6 (fb e x)++[.aU h.v]);rw[n];exact(xU ad).symm
      · refine congrArg (fun q=>some (Obj.row 2 q 167)) ?_;show MJ V7 x.lines=MJ V7 (fb e x).lines;rw[n]
  rintro⟨⟨y,g⟩,hy,E⟩;have hy:y=fb e x:=hy;have E:Fit (y.lines.length+1) 16:=E;have m:((q8 z).set k (Q6 y++[.aU g.v]))[k]?=some (Q6 y++[.aU g.v]):=by rw[MY,N2 rfl,N2 b]
  (repeat (first|refine H6 hn ?_|refine M4 hn ?_|refine O1 hn ?_|refine M3 hn ?_|refine M0 hn ?_|refine K7 hn ?_|refine ao hn ?_));refine AN d9 (AN (by simpa using b) ?_);show j6 prog D _ _ _ _;refine j6.oX fun Q4 q4n q4x q4r=>?_;refine j6.gQ (ι:=Hd) (fun q=>[(11,.aK 102),(12,.int k)]) (fun q=>[(102,.row 6 ((q8 z).set k (Q6 (Y3 c f y)++[.aU q.v])) 159),(103,.pins 2 ((Z0 z).eraseIdx k) 167),(104,.row 2 ((Y3 c f y).lines.map V7) 167),(105,.eqv 104 q.v)]) (fun Q3 C q3x q3r=>?_) (by intro k;rw[hn];rfl) ?_
  · (repeat (first|refine H6 hn ?_|refine M4 hn ?_|refine O1 hn ?_|refine M3 hn ?_|refine M0 hn ?_|refine K7 hn ?_|refine ao hn ?_));refine AN (by simpa using b) (fun d a=>?_);have a:((q8 z).set k (Q6 y++[.aU g.v]))[k]?=some d:=a;obtain rfl:d=Q6 y++[.aU g.v]:=oI (a.symm.trans m);refine nq (fun u=>?_) (fun u=>?_)
    · repeat (refine d13 u ?_)
      have hl:Y3 c f y=y:=N2 (MF u);(repeat (first|refine H6 hn ?_|refine M4 hn ?_|refine O1 hn ?_|refine M3 hn ?_|refine M0 hn ?_|refine K7 hn ?_|refine ao hn ?_));refine C _ _ ?_;refine X6.done ?_;refine⟨g,[],trivial,⟨⟨rfl,rfl,trivial⟩,⟨?_,rfl,?_,rfl,trivial⟩,rfl,rfl⟩⟩
      · refine congrArg (fun q=>some (Obj.row 6 q 159)) ?_;show(q8 z).set k (Q6 y++[.aU g.v])=(q8 z).set k (Q6 (Y3 c f y)++[.aU g.v]);rw[hl]
      · refine congrArg (fun q=>some (Obj.row 2 q 167)) ?_;show MJ V7 y.lines=MJ V7 (Y3 c f y).lines;rw[hl]
    · refine nu u ?_;refine nu u ?_;refine nu u ?_;refine AN (by simpa using b) (fun d a=>?_);have a:((q8 z).set k (Q6 y++[.aU g.v]))[k]?=some d:=a;obtain rfl:d=Q6 y++[.aU g.v]:=oI (a.symm.trans m);refine AN rfl ?_;refine nu u ?_;refine nu u ?_;show L9 _ _ _ _ _;refine L9.hU (Ec (Hu N c y.lines) (fun _ _ h=>FO h)) (kF rfl) rfl ?_;refine nu u ?_;(repeat (first|refine H6 hn ?_|refine M4 hn ?_|refine O1 hn ?_|refine M3 hn ?_|refine M0 hn ?_|refine K7 hn ?_|refine ao hn ?_));refine nq (fun U=>?_) (fun U=>?_)
      · have hl:Y3 c f y=y:=N2 (Or.inr (of_decide_eq_true U));(repeat (first|refine H6 hn ?_|refine M4 hn ?_|refine O1 hn ?_|refine M3 hn ?_|refine M0 hn ?_|refine K7 hn ?_|refine ao hn ?_));refine C _ _ ?_;refine X6.done ?_;refine⟨g,[],trivial,⟨⟨rfl,rfl,trivial⟩,⟨?_,rfl,?_,rfl,trivial⟩,rfl,rfl⟩⟩
        · refine congrArg (fun q=>some (Obj.row 6 q 159)) ?_;show(q8 z).set k (Q6 y++[.aU g.v])=(q8 z).set k (Q6 (Y3 c f y)++[.aU g.v]);rw[hl]
        · refine congrArg (fun q=>some (Obj.row 2 q 167)) ?_;show MJ V7 y.lines=MJ V7 (Y3 c f y).lines;rw[hl]
      · have O:¬(y.many=true\/0<=fk (fun t:Ln=>decide (t.cls=c)) y.lines):=by
          rintro(h|h)
          · rw[h] at u;cases u
          · exact absurd h (of_decide_eq_false U)
        (repeat (first|refine H6 hn ?_|refine M4 hn ?_|refine O1 hn ?_|refine M3 hn ?_|refine M0 hn ?_|refine K7 hn ?_|refine ao hn ?_));refine AN (by simpa using b) (fun d a=>?_);have a:((q8 z).set k (Q6 y++[.aU g.v]))[k]?=some d:=a;obtain rfl:d=Q6 y++[.aU g.v]:=oI (a.symm.trans m);refine AN rfl ?_;rintro _ rfl V;(repeat (first|refine H6 hn ?_|refine M4 hn ?_|refine O1 hn ?_|refine M3 hn ?_|refine M0 hn ?_|refine K7 hn ?_|refine ao hn ?_));refine im (fun B=>?_) (fun A=>?_)
        · have I:(3:Int)<=(y.lines.length:Int):=by simpa using B
          have hl:Y3 c f y=⟨y.site,y.aC,true,[]⟩:=by unfold Y3;rw[N1 O,N2 I]
          (repeat (first|refine H6 hn ?_|refine M4 hn ?_|refine O1 hn ?_|refine M3 hn ?_|refine M0 hn ?_|refine K7 hn ?_|refine ao hn ?_));refine AN (by simpa using b) (fun d a=>?_);have a:((q8 z).set k (Q6 y++[.aU g.v]))[k]?=some d:=a;obtain rfl:d=Q6 y++[.aU g.v]:=oI (a.symm.trans m);refine Exists.intro ((q8 z).set k [.int y.site.cls,.str y.site.name,.int y.site.pos,.int y.aC,.bool true,.aU g.v]) (AN (by show bt (((q8 z).set k (Q6 y++[.aU g.v])).set k [AV.int y.site.cls,.str y.site.name,.int y.site.pos,.int y.aC,.bool true,.aU g.v]) _;rw[List.set_set];exact O4 _) ?_);have K:((q8 z).set k [AV.int y.site.cls,.str y.site.name,.int y.site.pos,.int y.aC,.bool true,.aU g.v])[k]?=some [AV.int y.site.cls,.str y.site.name,.int y.site.pos,.int y.aC,.bool true,.aU g.v]:=by rw[MY,N2 rfl,N2 b]
          refine AN (by simpa using b) (fun d a=>?_);have a:((q8 z).set k [AV.int y.site.cls,.str y.site.name,.int y.site.pos,.int y.aC,.bool true,.aU g.v])[k]?=some d:=a;obtain rfl:d=[AV.int y.site.cls,.str y.site.name,.int y.site.pos,.int y.aC,.bool true,.aU g.v]:=oI (a.symm.trans K);refine Exists.intro ((q8 z).set k [.int y.site.cls,.str y.site.name,.int y.site.pos,.int y.aC,.bool true,.aJ]) (AN (by show bt (((q8 z).set k [AV.int y.site.cls,.str y.site.name,.int y.site.pos,.int y.aC,.bool true,.aU g.v]).set k [AV.int y.site.cls,.str y.site.name,.int y.site.pos,.int y.aC,.bool true,.aJ]) _;rw[List.set_set];exact O4 _) ?_);have L:((q8 z).set k [AV.int y.site.cls,.str y.site.name,.int y.site.pos,.int y.aC,.bool true,.aJ])[k]?=some [AV.int y.site.cls,.str y.site.name,.int y.site.pos,.int y.aC,.bool true,.aJ]:=by rw[MY,N2 rfl,N2 b]
          (repeat (first|refine H6 hn ?_|refine M4 hn ?_|refine O1 hn ?_|refine M3 hn ?_|refine M0 hn ?_|refine K7 hn ?_|refine ao hn ?_));refine C _ _ ?_;refine X6.gh (Gh.e8 (r:=102) (i:=k) (off:=5) (j:=106) (j':=107) (isz:=2) (ie:=167) rfl L rfl rfl rfl rfl rfl rfl) (fun _=>?_);refine X6.done ?_;refine⟨⟨none,0,0⟩,[(104,106),(105,107)],trivial,⟨⟨rfl,rfl,trivial⟩,⟨?_,rfl,?_,rfl,trivial⟩,rfl,rfl⟩⟩
          · refine congrArg (fun q=>some (Obj.row 6 q 159)) ?_;show((q8 z).set k [AV.int y.site.cls,.str y.site.name,.int y.site.pos,.int y.aC,.bool true,.aJ]).set k [AV.int y.site.cls,.str y.site.name,.int y.site.pos,.int y.aC,.bool true,.aU (⟨none,0,0⟩:Hd).v]=(q8 z).set k (Q6 (Y3 c f y)++[.aU (⟨none,0,0⟩:Hd).v]);rw[List.set_set,hl];rfl
          · refine congrArg (fun q=>some (Obj.row 2 q 167)) ?_;show[]=MJ V7 (Y3 c f y).lines;rw[hl];rfl
        · have I:¬(3:Int)<=(y.lines.length:Int):=by simpa using A
          have hl:Y3 c f y=⟨y.site,y.aC,y.many,y.lines++[⟨c,f⟩]⟩:=by unfold Y3;rw[N1 O,N1 I]
          refine tY hn C8 ?_;refine AN (by simpa using b) (fun d a=>?_);have a:((q8 z).set k (Q6 y++[.aU g.v]))[k]?=some d:=a;obtain rfl:d=Q6 y++[.aU g.v]:=oI (a.symm.trans m);refine AN rfl ?_;refine Exists.intro (MJ V7 [⟨c,f⟩]) (AN aT ?_);refine AN ?_ (Exists.intro (MJ V7 (y.lines++[⟨c,f⟩])) (AN (sV (O4 _)) ?_))
          · show((y.lines.map V7).length+1)*16<=_;rw[MW];exact E
          refine AN (by simpa using b) (AN ?_ ?_)
          · intro d a;have a:((q8 z).set k (Q6 y++[.aU g.v]))[k]?=some d:=a;obtain rfl:d=Q6 y++[.aU g.v]:=oI (a.symm.trans m);show 5<6;omega
          refine C _ _ ?_;refine X6.gh (Gh.bR 102 106 rfl rfl rfl (fun _=>rfl) rfl) (fun S=>?_);refine X6.done ?_;refine⟨S,[(104,54),(105,106)],trivial,⟨⟨rfl,rfl,trivial⟩,⟨?_,rfl,?_,rfl,trivial⟩,rfl,rfl⟩⟩
          · refine congrArg (fun q=>some (Obj.row 6 q 159)) ?_;show gv ((q8 z).set k (Q6 y++[.aU g.v])) k 5 (.aU S.v)=(q8 z).set k (Q6 (Y3 c f y)++[.aU S.v]);unfold gv;rw[m,hl];show((q8 z).set k _).set k _=_;rw[List.set_set];rfl
          · refine congrArg (fun q=>some (Obj.row 2 q 167)) ?_;show MJ V7 (y.lines++[⟨c,f⟩])=MJ V7 (Y3 c f y).lines;rw[hl]
  intro q;refine q4n _ _ ?_;have hat4:((q8 z).set k (Q6 (Y3 c f y)++[.aU q.v]))[k]?=some (Q6 (Y3 c f y)++[.aU q.v]):=by rw[MY,N2 rfl,N2 b]
  have hzk:k<z.length:=(ME.1 w).1;have X:(Z0 (z.set k (q,Q6 (Y3 c f y),(Y3 c f y).lines.map V7))).Perm ((q,(Y3 c f y).lines.map V7)::(Z0 z).eraseIdx k):=by
    rw[show Z0 (z.set k (q,Q6 (Y3 c f y),(Y3 c f y).lines.map V7))=(Z0 z).set k (q,(Y3 c f y).lines.map V7) by simp[Z0,List.map_set]];exact set_perm (by simpa[Z0] using hzk)
  show j6 prog D _ _ _ _;refine j6.gh (Gh.mQ (h:=q) (ls:=(Y3 c f y).lines.map V7) (l':=Z0 (z.set k (q,Q6 (Y3 c f y),(Y3 c f y).lines.map V7))) 104 105 103 rfl rfl rfl X rfl rfl rfl) (fun _=>?_);have hz2:(z.set k (q,Q6 (Y3 c f y),(Y3 c f y).lines.map V7)).map (·.2)=((bb (fun t:Ce=>decide (t.site=s)) ⟨s,e,false,[]⟩ l).1.modify (bb (fun t:Ce=>decide (t.site=s)) ⟨s,e,false,[]⟩ l).2 (iP e c f)).map dB:=by
    have h2:(bb (fun t:Ce=>decide (t.site=s)) ⟨s,e,false,[]⟩ l).2=k:=hq4;have I:z.map (·.2)=(bb (fun t:Ce=>decide (t.site=s)) ⟨s,e,false,[]⟩ l).1.map dB:=Y;have h4:(bb (fun t:Ce=>decide (t.site=s)) ⟨s,e,false,[]⟩ l).1[k]?=some x:=Z;rw[h2,xD h4,List.map_set,List.map_set,I];unfold iP;rw[<-hy];rfl
  refine j6.gh (Gh.close 11 102 103 108 (z.set k (q,Q6 (Y3 c f y),(Y3 c f y).lines.map V7)) rfl rfl rfl (by show(q8 z).set k _=_;simp[q8,List.map_set]) rfl hz2 rfl rfl rfl rfl rfl) (fun _=>?_);show j6 prog D _ _ _ _;refine j6.flat 11 108 109 rfl rfl rfl rfl rfl ?_;rw[CS];(repeat (first|refine H6 hn ?_|refine M4 hn ?_|refine O1 hn ?_|refine M3 hn ?_|refine M0 hn ?_|refine K7 hn ?_|refine ao hn ?_));exact⟨[(0,109)],_,rfl,rfl,⟨rfl,trivial⟩,rfl,rfl,rfl,rfl,rfl⟩
end
section
set_option maxHeartbeats 40000000
set_option maxRecDepth 100000
set_option maxRecDepth 100000
def Gz {N a0 a1 a2 a3 a4 r} (h:rq N a0 a1 a2 a3 a4=some r):Spec prog 129 [] [kY a0,.agg (M8 a1),.agg (bU a2),.int a3,.str a4] (.aZ [.aK 0,.int r.2.1,.int r.2.2.1,.bool r.2.2.2]) [(0,d60 r.1)] [0]:=by
 refine so func129 ntmps129 fun j hn=>?_;unfold rq at h;refine B [3,2,3] fun _ e h=>?_;refine cA (HO e) ?_;refine S [2] ?_;refine Jb 33 hn h [0,3,4,6,7,14] [6,7] (fun _ h g=>?_) ?_
 ·refine kd [0,3,4,6,7,14] [6,7] ?_;exact F8 [5] [0,13,0] [0]
 intro i h;refine I [4] ?_ ?_<;>intro _ h
 ·refine B [3] fun _ f h=>?_;refine cA (jV f) ?_;refine B [3] fun _ a h=>?_;refine cA ((ug a).sw 0 42) ?_;exact Sr [7] [(0,42)]
 refine B [1,3] fun _ b h=>?_;refine cA (jV b) ?_;refine I [2,3,4] ?_ ?_<;>intro _ h
 ·refine kd [0,17,18] [] ?_;refine B [3] fun _ c h=>?_;refine cA ((ug c).sw 0 55) ?_;exact Sr [7] [(0,55)]
 refine S [1] ?_;refine kd [0,3,6,7,17,18] [6,7] ?_;refine B [3] fun _ d h=>?_;refine cA ((HJ N _ _ _ _ _ _ d).sw 0 64) ?_;exact Sr [7] [(0,64)]
def Ee {N a0 g1 r} (h:U4 N a0 g1=some r) {m:Nat} {a:List AV} (f:∀d n,g1 d=some n->Spec prog m [] [.agg (hJ d),.fp a] (.bool n) [] []):Spec prog 170 [] [jC a0,.fn m [.fp a]] (.int r) [] []:=by
 refine so func170 ntmps170 fun p hn=>?_;unfold U4 at h;refine S [3,2,3] ?_;refine J2 fun i=>?_;refine LR e1 hn () (fun l k v=>F3 N g1 l k) h (fun e v=>[(8,.int (e:Int))]) (fun e v=>[]) [0,1,7] [] [] nl nl [] [] ?_ ?_ ?_
 ·intro _ g e _ h _;rw[F3] at h;exact Sj [3,2,4,0,20]
 ·intro _ g e _ o j h _ c _;rw[F3] at h;refine S [3,2,4,0,1,2,6,3,3] ?_;refine P9 c ?_;refine B [] fun _ b h=>?_;refine cA (f _ _ b) ?_;refine Ir [4] [3,7] fun _ h=>?_;refine S [1,5] ?_;refine MF (AN (M7 c i) ?_);exact le () []
 rintro⟨⟩ h;exact Sr [3,7]
def FI {N a0 b0 r} (h:rh N a0 b0=some r):Spec prog 171 [] [.agg (hJ a0),.fp (bU b0)] (.bool r) [] []:=by
 refine so func171 ntmps171 fun a hn=>?_;unfold rh at h;exact Sr [3,3,7]
def FN {N a0 b0 r} (h:rW N a0 b0=some r):Spec prog 173 [] [.agg (V7 a0),.fp [.int b0]] (.bool r) [] []:=by
 refine so func173 ntmps173 fun a hn=>?_;unfold rW at h;exact Sr [3,3,7]
def IA (N:Nat) {l:List Ln} (h:Fit l.length 16):X7 N l=some l:=by
  unfold X7;rw[show IN (l.length*16) 140737488355328=true from Nat.ble_eq_true_of_le h];rfl
def eY (t:Tl):List AV:=[.int t.site.cls,.str t.site.name,.int t.site.pos]
def dD (t:Tl):List AV×List (List AV):=(eY t,t.a7.map V7)
def Gv (N:Nat) (l:List Tl) (s:Fit l.length 56) (i:∀t∈l,Fit t.a7.length 16):Spec prog 62 [] [.sl 4 (l.map hJ)] (.cI 0) [(0,.nest 4 162 2 167 (l.map dD))] [0]:=by
  refine Spec.of eg func62 rfl ntmps62 C8 rfl rfl rfl fun u hn=>?_;(repeat (first|refine H6 hn ?_|refine M4 hn ?_|refine O1 hn ?_|refine M3 hn ?_|refine M0 hn ?_|refine K7 hn ?_|refine ao hn ?_));refine J2 (fun c=>?_);(repeat (first|refine H6 hn ?_|refine M4 hn ?_|refine O1 hn ?_|refine M3 hn ?_|refine M0 hn ?_|refine K7 hn ?_|refine ao hn ?_));refine j6.bG 3 3 4 162 rfl rfl rfl ?_;refine j6.gh (Gh.mP 100 2 167 rfl rfl) (fun _=>?_);refine j6.loop (ι:={p:Nat×List (Hd×List AV×List (List AV)) // p.1<=l.length/\p.2.map (·.2)=(l.take p.1).map dD}) (fun p=>[(6,.sl 4 (l.map hJ)),(7,.int l.length),(8,.int p.1.1),(3,.aK 3)])
    (fun p=>[(3,.row 4 (q8 p.1.2) 162),(100,.pins 2 (Z0 p.1.2) 167)]) (fun p=>l.length-p.1.1) ⟨(0,[]),d9,rfl⟩ [] ?_ ?_ ?_
  · exact⟨⟨rfl,rfl,rfl,rfl,trivial⟩,⟨rfl,rfl,trivial⟩,rfl,rfl⟩
  · intro k;rw[hn];rfl
  rintro⟨⟨k,z⟩,o,b⟩;have o:k<=l.length:=o;have b:z.map (·.2)=(l.take k).map dD:=b;(repeat (first|refine H6 hn ?_|refine M4 hn ?_|refine O1 hn ?_|refine M3 hn ?_|refine M0 hn ?_|refine K7 hn ?_|refine ao hn ?_));refine im (fun a=>?_) (fun j=>?_)
  · have a:k<l.length:=by have:(k:Int)<(l.length:Int):=a;omega
    (repeat (first|refine H6 hn ?_|refine M4 hn ?_|refine O1 hn ?_|refine M3 hn ?_|refine M0 hn ?_|refine K7 hn ?_|refine ao hn ?_));refine AN d9 (AN (by simpa using a) ?_);intro w f r;obtain⟨x,d,rfl⟩:=EM f;have d:l[k]?=some x:=d;(repeat (first|refine H6 hn ?_|refine M4 hn ?_|refine O1 hn ?_|refine M3 hn ?_|refine M0 hn ?_|refine K7 hn ?_|refine ao hn ?_));show L9 _ _ _ _ _;refine L9.a_ ((uF N x.a7 x.a7 (IA N (i x (MP d)))).sw 0 14) (by first|exact kF rfl|((repeat (refine AN rfl ?_));exact trivial)) (by(repeat (refine AN rfl ?_));exact trivial) rfl ?_;refine j6.gh (Gh.tq 5 3 14 100 rfl rfl rfl rfl rfl rfl rfl) (fun h=>?_);(repeat (first|refine H6 hn ?_|refine M4 hn ?_|refine O1 hn ?_|refine M3 hn ?_|refine M0 hn ?_|refine K7 hn ?_|refine ao hn ?_));refine Exists.intro [[.int x.site.cls,.str x.site.name,.int x.site.pos,.aU h.v]] (AN aT ?_);have n:(q8 z).length=k:=by
      have:=jd b;rw[Mq] at this;simp only[q8,MW];omega
    refine AN ?_ (Exists.intro (q8 (z++[(h,dD x)])) (AN (by rw[uN];exact O4 _) ?_))
    · show((q8 z).length+1)*56<=_;rw[n];exact Nat.le_trans (Mt 56 a) s
    (repeat (first|refine H6 hn ?_|refine M4 hn ?_|refine O1 hn ?_|refine M3 hn ?_|refine M0 hn ?_|refine K7 hn ?_|refine ao hn ?_));refine MF (AN (xf a c) ?_);have m:(z++[(h,dD x)]).map (·.2)=(l.take (k+1)).map dD:=by
      rw[xK d,List.map_append,List.map_append,show z.map (·.2)=(l.take k).map dD from b];rfl
    refine⟨⟨(k+1,z++[(h,dD x)]),a,m⟩,[(3,19)],by show l.length-(k+1)<l.length-k;omega,⟨⟨rfl,rfl,rfl,rfl,trivial⟩,⟨rfl,?_,trivial⟩,rfl,rfl⟩⟩
    · exact congrArg (fun q=>some (Obj.pins 2 q 167)) (vG z (h,dD x)).symm
  · have e:k=l.length:=by have:¬(k:Int)<(l.length:Int):=j;omega
    subst e;have b:z.map (·.2)=l.map dD:=by
      have:z.map (·.2)=(l.take l.length).map dD:=b;rwa [List.take_length] at this
    refine M0 hn ?_;show j6 prog u _ _ _ _;refine j6.gh (Gh.close 3 3 100 101 z rfl rfl rfl rfl rfl b rfl rfl rfl rfl rfl) ?_;intro _;(repeat (first|refine H6 hn ?_|refine M4 hn ?_|refine O1 hn ?_|refine M3 hn ?_|refine M0 hn ?_|refine K7 hn ?_|refine ao hn ?_));exact⟨[(0,101)],_,rfl,rfl,⟨rfl,trivial⟩,rfl,rfl,rfl,rfl,rfl⟩
def Cd (l:List Tl):du 2 (l.map dD)=l.map hJ:=by simp[du,dD,eY,hJ]
theorem d89 (N:Nat) (s:St):∀(l:List Tl) (k:Nat),F3 N (fun x=>rh N x s) l k=some (match l.findIdx? (fun t=>decide (t.site=s)) with|some i=>.ret ((k+i:Nat):Int)|none=>.next ())
  |[],k=>rfl
  |x::l,k=>by
    rw[F3,nY,d89 N s l (k+1)];unfold rh;rw[show cz (bU x.site) (bU s)=decide (x.site=s) from zA x.site s];by_cases e:x.site=s
    · simp[e]
    · cases l.findIdx? (fun t=>decide (t.site=s))<;>simp[e];omega
def Lq (N:Nat) (s:St) (l:List Tl):U4 N l (fun x=>rh N x s)=some (fk (fun t=>decide (t.site=s)) l):=by
  unfold U4 fk;rw[d89];cases l.findIdx? (fun t=>decide (t.site=s))<;>simp
theorem Di (N:Nat) (c:Int):∀(l:List Ln) (k:Nat),y8 N (fun x=>rW N x c) l k=some (match l.findIdx? (fun t=>decide (t.cls=c)) with|some i=>.ret ((k+i:Nat):Int)|none=>.next ())
  |[],k=>rfl
  |x::l,k=>by
    rw[y8,nY,Di N c l (k+1)];unfold rW;by_cases e:x.cls=c
    · simp[e]
    · cases l.findIdx? (fun t=>decide (t.cls=c))<;>simp[e];omega
def Lp (N:Nat) (c:Int) (l:List Ln):I9 N l (fun x=>rW N x c)=some (fk (fun t=>decide (t.cls=c)) l):=by
  unfold I9 fk;rw[Di];cases l.findIdx? (fun t=>decide (t.cls=c))<;>simp
def HB (N:Nat) (l:List Tl) (s:St) (c:Int) (r:List Tl) (h:sJ N l s c=some r):Spec prog 130 [] [.sl 4 (l.map hJ),.agg (bU s),.int c] (.aK 0) [(0,.row 4 (r.map hJ) 162)] [0]:=by
  unfold sJ at h;obtain⟨M,h⟩:=j7 h;obtain rfl:=oI h;rw[IT,MR] at M;have hf:Fit (l.length+1) 56:=MZ M.1;have K:∀t∈l,Fit (t.a7.length+1) 16:=fun t Y=>MZ (M.2 t Y);clear h M;refine Spec.of eg func130 rfl ntmps130 C8 rfl rfl rfl fun E hn=>?_;refine H6 hn ?_;show j6 prog E _ _ _ _;refine j6.gh (Gh.bA 4 4 rfl rfl rfl) ?_;intro _;show j6 prog E _ _ _ _;refine j6.gh (Gh.bA 5 5 rfl rfl rfl) ?_;intro _;(repeat (first|refine H6 hn ?_|refine M4 hn ?_|refine O1 hn ?_|refine M3 hn ?_|refine M0 hn ?_|refine K7 hn ?_|refine ao hn ?_));show L9 _ _ _ _ _;refine L9.a_ ((Gv N l (Nat.le_trans (Mt _ (Nat.le_succ _)) hf) (fun t Y=>Nat.le_trans (Mt _ (Nat.le_succ _)) (K t Y))).sw 0 11) (by first|exact kF rfl|((repeat (refine AN rfl ?_));exact trivial)) (by(repeat (refine AN rfl ?_));exact trivial) rfl ?_;(repeat (first|refine H6 hn ?_|refine M4 hn ?_|refine O1 hn ?_|refine M3 hn ?_|refine M0 hn ?_|refine K7 hn ?_|refine ao hn ?_));show L9 _ _ _ _ _;refine L9.hU (Ee (Lq N s l) (fun _ _ h=>FI h)) ?_ rfl ?_
  · show dU [.sl 4 (du 2 (l.map dD)),.fn 171 [.fp (bU s)]] _;rw[Cd];exact kF rfl
  show j6 prog E _ _ _ _;refine j6.gh (Gh.open 7 11 102 103 rfl rfl rfl rfl rfl rfl (fun _=>rfl)) ?_;rintro⟨z,F⟩;refine j6.cut (ι:={ q:Nat×Tl×Hd×List (Hd×List AV×List (List AV)) // q.2.2.2[q.1]?=some (q.2.2.1,dD q.2.1)/\q.2.2.2.map (·.2)=(bb (fun t=>decide (t.site=s)) ⟨s,[]⟩ l).1.map dD/\(bb (fun t=>decide (t.site=s)) ⟨s,[]⟩ l).1[q.1]?=some q.2.1/\(bb (fun t=>decide (t.site=s)) ⟨s,[]⟩ l).2=q.1/\Fit (q.2.1.a7.length+1) 16 })
    (fun q=>[(7,.aK 102),(8,.int q.1.1),(5,.fp [.int c])]) (fun q=>[(102,.row 4 (q8 q.1.2.2.2) 162),(103,.pins 2 ((Z0 q.1.2.2.2).eraseIdx q.1.1) 167),(104,.row 2 (q.1.2.1.a7.map V7) 167),(105,.eqv 104 q.1.2.2.1.v)]) ?_ ?_ ?_
  · (repeat (first|refine H6 hn ?_|refine M4 hn ?_|refine O1 hn ?_|refine M3 hn ?_|refine M0 hn ?_|refine K7 hn ?_|refine ao hn ?_));rcases vX (fun t:Tl=>decide (t.site=s)) l with⟨k,x,e1,B,e3,O⟩|⟨e1,B⟩
    · refine im (fun w=>?_) (fun u=>?_)
      · rw[e1] at w;omega
      · obtain⟨h,L⟩:=Dk F B;have T:(Z0 z).Perm ((h,x.a7.map V7)::(Z0 z).eraseIdx k):=by
          have hk:(Z0 z)[k]?=some (h,x.a7.map V7):=(by simp[Z0,L,dD]);obtain⟨hl,hv⟩:=ME.1 hk;rw[<-hv];exact(List.ae hl).symm
        show j6 prog E _ _ _ _;refine j6.gh (Gh.mR 103 104 105 rfl T rfl rfl rfl rfl rfl) ?_;intro _;refine K7 hn ?_;have ex:bb (fun t:Tl=>decide (t.site=s)) ⟨s,[]⟩ l=(l,k):=by unfold bb;rw[O]
        refine⟨⟨(k,x,h,z),L,by rw[ex];exact F,by rw[ex];exact B,by rw[ex],K x (MP B)⟩,[],⟨⟨rfl,congrArg AV.int e1,rfl,trivial⟩,⟨rfl,rfl,rfl,rfl,trivial⟩,rfl,rfl⟩⟩
    · refine im (fun w=>?_) (fun u=>?_)
      · (repeat (first|refine H6 hn ?_|refine M4 hn ?_|refine O1 hn ?_|refine M3 hn ?_|refine M0 hn ?_|refine K7 hn ?_|refine ao hn ?_));rintro _ rfl hlen;refine j6.ops (jv hn 6 ?_);refine Exists.intro [[.int s.cls,.str s.name,.int s.pos,.aJ]] (AN aT ?_);refine AN ?_ (Exists.intro (q8 z++[[AV.int s.cls,.str s.name,.int s.pos,.aJ]]) (AN (O4 _) ?_))
        · show((q8 z).length+1)*56<=_;rw[show(q8 z).length=l.length by simp only[q8,MW];exact jd F];exact hf
        have ad:(q8 z++[[AV.int s.cls,.str s.name,.int s.pos,.aJ]])[l.length]?=some [AV.int s.cls,.str s.name,.int s.pos,.aJ]:=by
          rw[Ma (by simp[q8,jd F])];simp[q8,jd F]
        show cY prog E _ _ _ _ _;refine cY.gh (Gh.e8 (r:=23) (i:=l.length) (off:=3) (j:=104) (j':=105) (isz:=2) (ie:=167) rfl ad rfl rfl rfl rfl rfl rfl) ?_;intro _;refine cY.done ?_;have ex:bb (fun t:Tl=>decide (t.site=s)) ⟨s,[]⟩ l=(l++[⟨s,[]⟩],l.length):=by unfold bb;rw[B]
        have f:=jd F;refine⟨⟨(l.length,⟨s,[]⟩,⟨none,0,0⟩,z++[(⟨none,0,0⟩,dD ⟨s,[]⟩)]),?_,?_,?_,?_,?_⟩,[(102,23)],⟨⟨rfl,?_,rfl,trivial⟩,⟨?_,?_,rfl,rfl,trivial⟩,rfl,rfl⟩⟩
        · show(z++[_])[l.length]?=_;rw[Ma d9];simp[f]
        · rw[ex];show MJ (fun p:Hd×List AV×List (List AV)=>p.2) (z++[_])=MJ dD (l++[_]);rw[List.map_append,List.map_append,F];rfl
        · rw[ex];show(l++[_])[l.length]?=_;rw[Ma (It _)];simp
        · rw[ex]
        · show(0+1)*16<=_;decide
        · exact congrArg AV.int (by simp[q8,f])
        · refine congrArg (fun q=>some (Obj.row 4 q 162)) ?_;show(q8 z++[_]).set l.length _=q8 (z++[_]);rw[uN,List.set_append_right _ _ (by simp[q8,f])];simp[q8,f,dD,eY]
        · refine congrArg (fun q=>some (Obj.pins 2 q 167)) ?_;show Z0 z=(Z0 (z++[_])).eraseIdx l.length;rw[vG,List.eraseIdx_append_of_length_le (by simp[Z0,f])];simp[Z0,f]
      · rw[e1] at u;omega
  · intro k;rw[hn];rfl
  rintro⟨⟨k,x,h,z⟩,A,U,V,W,X⟩;have A:z[k]?=some (h,dD x):=A;have b:k<(q8 z).length:=by
    have:=(ME.1 A).1;simpa[q8] using this
  have ad:(q8 z)[k]?=some (eY x++[.aU h.v]):=by simp[q8,A,dD]
  (repeat (first|refine H6 hn ?_|refine M4 hn ?_|refine O1 hn ?_|refine M3 hn ?_|refine M0 hn ?_|refine K7 hn ?_|refine ao hn ?_));refine AN d9 (AN (by simpa using b) ?_);refine AN (by simpa using b) (fun d a=>?_);have a:(q8 z)[k]?=some d:=a;obtain rfl:d=eY x++[.aU h.v]:=oI (a.symm.trans ad);refine AN rfl ?_;show L9 _ _ _ _ _;refine L9.hU (zV (Lp N c x.a7) (fun _ _ h=>FN h)) (kF rfl) rfl ?_;refine j6.cut (ι:={ q:Nat×Ln×Hd×List Ln // q.2.2.2=(bb (fun y=>decide (y.cls=c)) ⟨c,0⟩ x.a7).1/\(bb (fun y=>decide (y.cls=c)) ⟨c,0⟩ x.a7).2=q.1/\q.2.2.2[q.1]?=some q.2.1 })
    (fun q=>[(7,.aK 102),(8,.int k),(9,.int q.1.1)]) (fun q=>[(102,.row 4 ((q8 z).set k (eY x++[.aU q.1.2.2.1.v])) 162),(103,.pins 2 ((Z0 z).eraseIdx k) 167),(104,.row 2 (q.1.2.2.2.map V7) 167),(105,.eqv 104 q.1.2.2.1.v)]) ?_ ?_ ?_
  · (repeat (first|refine H6 hn ?_|refine M4 hn ?_|refine O1 hn ?_|refine M3 hn ?_|refine M0 hn ?_|refine K7 hn ?_|refine ao hn ?_));rcases vX (fun y:Ln=>decide (y.cls=c)) x.a7 with⟨j,y,e1,B,e3,O⟩|⟨e1,B⟩
    · refine im (fun w=>?_) (fun u=>?_)
      · rw[e1] at w;omega
      · refine K7 hn ?_;have ex:bb (fun y:Ln=>decide (y.cls=c)) ⟨c,0⟩ x.a7=(x.a7,j):=by unfold bb;rw[O]
        refine⟨⟨(j,y,h,x.a7),by rw[ex],by rw[ex],B⟩,[],⟨⟨rfl,rfl,congrArg AV.int e1,trivial⟩,⟨?_,rfl,rfl,rfl,trivial⟩,rfl,rfl⟩⟩;refine congrArg (fun q=>some (Obj.row 4 q 162)) ?_;show q8 z=(q8 z).set k _;exact(xU ad).symm
    · refine im (fun w=>?_) (fun u=>?_)
      · (repeat (first|refine H6 hn ?_|refine M4 hn ?_|refine O1 hn ?_|refine M3 hn ?_|refine M0 hn ?_|refine K7 hn ?_|refine ao hn ?_));refine AN d9 (AN (by simpa using b) ?_);refine AN (by simpa using b) (fun d a=>?_);have a:(q8 z)[k]?=some d:=a;obtain rfl:d=eY x++[.aU h.v]:=oI (a.symm.trans ad);refine AN rfl ?_;rintro _ rfl S;refine j6.snoc (tY hn C8 ?_);refine AN d9 (AN (by simpa using b) ?_);refine AN (by simpa using b) (fun d a=>?_);have a:(q8 z)[k]?=some d:=a;obtain rfl:d=eY x++[.aU h.v]:=oI (a.symm.trans ad);refine AN rfl ?_;refine Exists.intro (MJ V7 [⟨c,0⟩]) (AN aT ?_);refine AN ?_ (Exists.intro (MJ V7 (x.a7++[⟨c,0⟩])) (AN (sV (O4 _)) ?_))
        · show((x.a7.map V7).length+1)*16<=_;rw[MW];exact X
        refine AN d9 (AN (by simpa using b) ?_);refine AN (by simpa using b) (AN ?_ ?_)
        · intro d a;have a:(q8 z)[k]?=some d:=a;obtain rfl:d=eY x++[.aU h.v]:=oI (a.symm.trans ad);show 3<4;omega
        show X6 E _ _ _;refine X6.gh (Gh.bR 102 106 rfl rfl rfl (fun _=>rfl) rfl) (fun g=>?_);refine X6.done ?_;have ex:bb (fun y:Ln=>decide (y.cls=c)) ⟨c,0⟩ x.a7=(x.a7++[⟨c,0⟩],x.a7.length):=by unfold bb;rw[B]
        refine⟨⟨(x.a7.length,⟨c,0⟩,g,x.a7++[⟨c,0⟩]),by rw[ex],by rw[ex],l9⟩,[(104,49),(105,106)],⟨⟨rfl,rfl,?_,trivial⟩,⟨?_,rfl,rfl,rfl,trivial⟩,rfl,rfl⟩⟩
        · exact congrArg AV.int l9
        · refine congrArg (fun q=>some (Obj.row 4 q 162)) ?_;show gv (q8 z) k 3 (.aU g.v)=(q8 z).set k _;unfold gv;rw[ad];rfl
      · rw[e1] at u;omega
  · intro k;rw[hn];rfl
  rintro⟨⟨j,y,m,G⟩,Q,R,e⟩;have J:((q8 z).set k (eY x++[.aU m.v]))[k]?=some (eY x++[.aU m.v]):=by rw[MY,N2 rfl,N2 b]
  have e:G[j]?=some y:=e;have C:j<G.length:=(ME.1 e).1;have D:(G.map V7)[j]?=some (V7 y):=by simp[e]
  (repeat (first|refine H6 hn ?_|refine M4 hn ?_|refine O1 hn ?_|refine M3 hn ?_|refine M0 hn ?_|refine K7 hn ?_|refine ao hn ?_));refine AN d9 (AN (by simpa using b) ?_);refine AN (by simpa using b) (fun d a=>?_);have a:((q8 z).set k (eY x++[.aU m.v]))[k]?=some d:=a;obtain rfl:d=eY x++[.aU m.v]:=oI (Eq.trans (Eq.symm a) J);refine AN rfl ?_;refine AN d9 (AN (by simpa using C) ?_);refine AN (by simpa using C) (fun H n=>?_);have n:(G.map V7)[j]?=some H:=n;obtain rfl:H=V7 y:=oI (Eq.trans (Eq.symm n) D);refine Or.inr ?_;refine AN d9 (AN (by simpa using C) ?_);have hzk:k<z.length:=(ME.1 A).1;have Z:G.set j ⟨y.cls,wr (y.found+1)⟩=fg c x.a7:=by
    have h1:G=(bb (fun y=>decide (y.cls=c)) ⟨c,0⟩ x.a7).1:=Q;have P:(bb (fun y=>decide (y.cls=c)) ⟨c,0⟩ x.a7).2=j:=R;unfold fg;simp only;rw[P,<-h1,xD e]
  refine AN (by simpa using C) (fun I o=>?_);have o:(G.map V7)[j]?=some I:=o;obtain rfl:I=V7 y:=oI (Eq.trans (Eq.symm o) D);refine Exists.intro (MJ V7 (fg c x.a7)) (AN (by rw[<-Z];exact D0 e aT) ?_);have T:(Z0 (z.set k (m,eY x,(fg c x.a7).map V7))).Perm ((m,(fg c x.a7).map V7)::(Z0 z).eraseIdx k):=by
    rw[show Z0 (z.set k (m,eY x,(fg c x.a7).map V7))=(Z0 z).set k (m,(fg c x.a7).map V7) by simp[Z0,List.map_set]];exact set_perm (by simpa[Z0] using hzk)
  show j6 prog E _ _ _ _;refine j6.gh (Gh.mQ (h:=m) (ls:=(fg c x.a7).map V7) (l':=Z0 (z.set k (m,eY x,(fg c x.a7).map V7))) 104 105 103 rfl rfl rfl T rfl rfl rfl) (fun _=>?_);have hz2:(z.set k (m,eY x,(fg c x.a7).map V7)).map (·.2)=(tO s c l).map dD:=by
    have P:(bb (fun t=>decide (t.site=s)) ⟨s,[]⟩ l).2=k:=W;have h3:z.map (·.2)=(bb (fun t=>decide (t.site=s)) ⟨s,[]⟩ l).1.map dD:=U;have h4:(bb (fun t=>decide (t.site=s)) ⟨s,[]⟩ l).1[k]?=some x:=V;unfold tO;simp only;rw[P,xD h4,List.map_set,List.map_set,h3];rfl
  refine j6.gh (Gh.close 7 102 103 107 (z.set k (m,eY x,(fg c x.a7).map V7)) rfl rfl rfl (by show(q8 z).set k _=_;simp[q8,List.map_set]) rfl hz2 rfl rfl rfl rfl rfl) (fun _=>?_);show j6 prog E _ _ _ _;refine j6.flat 7 107 108 rfl rfl rfl rfl rfl ?_;rw[Cd];(repeat (first|refine H6 hn ?_|refine M4 hn ?_|refine O1 hn ?_|refine M3 hn ?_|refine M0 hn ?_|refine K7 hn ?_|refine ao hn ?_));exact⟨[(0,108)],_,rfl,rfl,⟨rfl,trivial⟩,rfl,rfl,rfl,rfl,rfl⟩
def Ey {N a0 a1 a2 b0 b1 r} (h:p6 N a0 a1 a2 b0 b1=some r):Spec prog 128 [(1048,.box (eF b0) 153)] [.agg (bU a0),.int a1,.str a2,.ptr 1048 0,.fp (M8 b1)] (.aZ [.int r.1,.int r.2.1]) [(1048,.box (eF r.2.2) 153)] []:=by
 refine so func128 ntmps128 fun e hn=>?_;unfold p6 at h;refine B [3,3] fun _ a h=>?_;refine cA ((Gz a).sw 0 21) ?_;refine kd [1,3,5,10,11,12,13] [5,21,1048] ?_;refine B [3,3] fun _ b h=>?_;refine cA ((HB N _ _ _ _ b).sw 0 32) ?_;refine S [2,3] ?_;refine J e0 hn h nl (fun s=>[(1048,.box [N8 b0.world.a7,jO b0.world.heap,.int b0.world.aC,.int b0.ew.value.k,.int b0.ew.value.n,.int b0.ew.err,.int b0.ew.sends,.aK 21,.aK 32,.int s.1,.int s.2] 153)]) [3,11,12] [21,32] (fun _ h g=>?_) ?_
 ·exact F8 [4] [5,12] [5,12]
 rintro⟨c,d⟩ h;refine S [3] ?_;refine j6.ar 21 rfl ?_;refine j6.ar 32 rfl ?_;exact Sr [7]
def Gr {N a0 a1 a2 a3 a4 r} (h:rp N a0 a1 a2 a3 a4=some r):Spec prog 100 [] [.agg (M8 a0),.agg (kN a1),.int a2,kY a3,jC a4] (.agg (eF r)) [] []:=by
 refine so func100 ntmps100 fun e hn=>?_;unfold rp at h;refine B [3,3] fun _ b h=>?_;refine cA ((ug b).sw 0 13) ?_;refine B [] fun _ c h=>?_;refine cA ((B7 c).sw 0 15) ?_;refine j6.gh (Gh.bA 5 5 rfl rfl rfl) (fun _=>?_);refine j6.e7 11 [N8 ([]:List Cl),jO ([]:List Ob),.int (0:Int),.int (0:Int),.int (0:Int),.int (0:Int),.int (0:Int),.aK 13,.aK 15,.int (0:Int),.int (0:Int)] rfl aT ?_;refine j6.ar 13 rfl ?_;refine j6.ar 15 rfl ?_;refine kd [2,5,6,10,11] [6,10,11] ?_;refine B [3] fun _ d h=>?_;refine cA ((Fy d (fun _ _ _ _ _ a=>(Ey a).sw 1048 1055) (fun _ _ _ a=>BU a)).sw 1055 11) ?_;exact Sr [3,7]
def Gy {N a0 a1 r} (h:sB N a0 a1=some r):Spec prog 209 [] [jC a0,.agg (bU a1)] (.aZ [.int r.1,.int r.2]) [] []:=by
 refine so func209 ntmps209 fun E hn=>?_;unfold sB at h;refine S [3,3,2,3] ?_;refine J2 fun j=>?_;refine LR e0 hn ((-1:Int),(0:Int)) (fun l k v=>mz N a1 l k v.1 v.2) h (fun e v=>[(6,.int v.1),(7,.int v.2),(14,.int (e:Int))]) (fun e v=>[]) [3,12,13] [3] [] (fun s=>[(6,.int s.1),(7,.int s.2)]) nl [] [] ?_ ?_ ?_
 ·rintro _ g e ⟨u,w⟩ h _;rw[mz] at h;exact Sj [3,2,4,0,20]
 ·rintro _ g e ⟨u,w⟩ A f h _ b _;rw[mz] at h;refine S [3,2,4,0,1,2] ?_;refine J e0 hn h (fun s=>[(6,.int s.1),(7,.int s.2)]) nl [3,12,13,14] [3] (fun _ h g=>?_) ?_
  ·refine S [6,3] ?_;refine P9 b ?_;refine Ij [2,3,4] [20] fun _ h=>?_;refine S [1,3] ?_;refine J2 fun d=>?_;refine LR e0 hn (u,w) (fun l k v=>nD N l k v.1 v.2) h (fun a v=>[(6,.int v.1),(7,.int v.2),(25,.int (a:Int))]) (fun a v=>[]) [3,12,13,14,23,24] [3] [] (fun s=>[(6,.int s.1),(7,.int s.2)]) nl [3,12,13,14] [3] ?_ ?_ ?_
   ·rintro _ g a ⟨o,p⟩ h _;rw[nD] at h;exact Sj [3,2,4,0,20]
   ·rintro _ g a ⟨o,p⟩ B i h _ c _;rw[nD] at h;refine S [3,2,4,0,1,2] ?_;refine J e0 hn h (fun s=>[(6,.int s.1),(7,.int s.2)]) nl [3,12,13,14,23,24,25] [3] (fun _ h g=>?_) ?_
    ·refine S [6,3] ?_;refine P9 c ?_;refine S [2] ?_;refine Jb 48 hn h [3,6,7,11,12,13,14,23,24,25] [3,11] (fun _ h g=>?_) ?_
     ·refine Ij [5] [0] fun _ h=>?_;refine I [0] ?_ ?_<;>intro _ h
      ·exact F8 [0] [0] [0]
      exact Sj [0]
     intro z h;refine Jk e0 hn h (fun s=>[(6,.int s.1),(7,.int s.2)]) nl [3,12,13,14,23,24,25] [3] [] fun _ h g=>?_;exact F8 [4] [8] [1]
    rintro⟨q,t⟩ h;refine S [5] ?_;refine MF (AN (M7 c d) ?_);exact le (q,t) []
   rintro⟨x,y⟩ h;exact je
  rintro⟨m,n⟩ h;refine S [5] ?_;refine MF (AN (M7 b j) ?_);exact le (m,n) []
 rintro⟨C,D⟩ h;exact Sr [3,7]
def HP {N a0 a1 r} (h:sL N a0 a1=some r):Spec prog 210 [] [jC a0,.agg (bU a1)] (.int r) [] []:=by
 refine so func210 ntmps210 fun w hn=>?_;unfold sL at h;refine S [3,3,2,3] ?_;refine J2 fun j=>?_;refine LR e0 hn (0:Int) (fun l k v=>nK N a1 l k v) h (fun f v=>[(5,.int v),(12,.int (f:Int))]) (fun f v=>[]) [3,10,11] [3] [] (fun s=>[(5,.int s)]) nl [] [] ?_ ?_ ?_
 ·intro _ g f p h _;rw[nK] at h;exact Sj [3,2,4,0,20]
 ·intro _ g f p t m h _ b _;rw[nK] at h;refine S [3,2,4,0,1,2] ?_;refine J e0 hn h (fun s=>[(5,.int s)]) nl [3,10,11,12] [3] (fun _ h g=>?_) ?_
  ·refine S [6,3] ?_;refine P9 b ?_;refine Ij [2,3,4] [20] fun _ h=>?_;refine S [1,3] ?_;refine J2 fun d=>?_;refine LR e0 hn p (fun l k v=>nL N l k v) h (fun a v=>[(5,.int v),(23,.int (a:Int))]) (fun a v=>[]) [3,10,11,12,21,22] [3] [] (fun s=>[(5,.int s)]) nl [3,10,11,12] [3] ?_ ?_ ?_
   ·intro _ g a e h _;rw[nL] at h;exact Sj [3,2,4,0,20]
   ·intro _ g a e o i h _ c _;rw[nL] at h;refine S [3,2,4,0,1,2,6,3] ?_;refine P9 c ?_;refine S [5,12,5] ?_;refine MF (AN (M7 c d) ?_);exact le (wr (e+o.found)) []
   intro q h;exact je
  intro n h;refine S [5] ?_;refine MF (AN (M7 b j) ?_);exact le n []
 intro u h;exact Sr [3,7]
def Ea {N a0 g1 r} (h:X8 N a0 g1=some r) {j:Nat} (e:∀c m,g1 c=some m->Spec prog j [] [.agg (bd c)] (.bool m) [] []):Spec prog 232 [] [oW a0,.fn j []] (.int r) [] []:=by
 refine so func232 ntmps232 fun o hn=>?_;unfold X8 at h;refine S [3,2,3] ?_;refine J2 fun f=>?_;refine LR e1 hn () (fun l k v=>F9 N g1 l k) h (fun d v=>[(8,.int (d:Int))]) (fun d v=>[]) [0,1,7] [] [] nl nl [] [] ?_ ?_ ?_
 ·intro _ g d _ h _;rw[F9] at h;exact Sj [3,2,4,0,20]
 ·intro _ g d _ n i h _ b _;rw[F9] at h;refine S [3,2,4,0,1,2,6,3,3] ?_;refine P9 b ?_;refine B [] fun _ a h=>?_;refine cA (e _ _ a) ?_;refine Ir [4] [3,7] fun _ h=>?_;refine S [1,5] ?_;refine MF (AN (M7 b f) ?_);exact le () []
 rintro⟨⟩ h;exact Sr [3,7]
def Ed {N a0 g1 r} (h:U5 N a0 g1=some r) {d:Nat} (b:∀a e,g1 a=some e->Spec prog d [] [.agg (bd a)] (.bool e) [] []):Spec prog 206 [] [oW a0,.fn d []] (.bool r) [] []:=by
 refine so func206 ntmps206 fun f hn=>?_;unfold U5 at h;refine B [3,3] fun _ c h=>?_;refine cA (Ea c b) ?_;exact Sr [7]
def GB {N a0 r} (h:ox N a0=some r):Spec prog 207 [] [.agg (bd a0)] (.bool r) [] []:=by
 refine so func207 ntmps207 fun b hn=>?_;unfold ox at h;refine S [3,2] ?_;refine Jb 2 hn h [] [] (fun _ h g=>?_) ?_
 ·exact F8 [5] [0] [0]
 intro a h;exact Sr [7]
def Ad {N a0 r} (h:pF N a0=some r):Spec prog 175 [] [.agg (G9 a0)] (.bool r) [] []:=by
 refine so func175 ntmps175 fun d hn=>?_;unfold pF at h;refine S [3,2] ?_;refine Jb 2 hn h [] [] (fun _ h g=>?_) ?_
 ·refine I [5] ?_ ?_<;>intro _ h
  ·refine B [0] fun _ a h=>?_;refine cA (Ed a (fun _ _ b=>GB b)) ?_;exact Sj [0]
  exact Sj [0]
 intro c h;exact Sr [7]
def FL {N a0 a1 a2 a3 a4 r} (h:rj N a0 a1 a2 a3 a4=some r):Spec prog 178 [] [.agg (M8 a0),jC a1,.agg (bU a2),.str a3,.int a4] (.int r) [] []:=by
 refine so func178 ntmps178 fun m hn=>?_;unfold rj at h;refine B [3,3] fun _ i h=>?_;refine cA (Gy i) ?_;refine B [2,3] fun _ j h=>?_;refine cA (HP j) ?_;refine S [2] ?_;refine Jb 36 hn h [3,4,5,11] [5] (fun _ h g=>?_) ?_
 ·refine kd [3,4,5,11,12,13] [5] ?_;refine Ij [5] [0] fun _ h=>?_;exact F8 [0] [0] [0,12,0]
 intro l h;refine Ir [4] [3,7] fun _ h=>?_;refine B [1,3] fun _ a h=>?_;refine cA (jV a) ?_;refine S [2,2] ?_;refine Jb 72 hn h [11] [] (fun _ h g=>?_) ?_
 ·refine Ij [5] [0] fun _ h=>?_;refine B [0] fun _ c h=>?_;refine G6 c ?_;refine B [0] fun _ d h=>?_;refine G6 d ?_;refine B [0] fun _ b h=>?_;refine cA (Ad b) ?_;refine Ij [0] [0] fun _ h=>?_;refine B [0] fun _ e h=>?_;refine G6 e ?_;refine B [0] fun _ f h=>?_;refine G6 f ?_;exact Sj [0]
 intro k h;exact ia [4] [3,7] [1,3,7]
def Eu {N a0 a1 a2 a3 r} (h:nN N a0 a1 a2 a3=some r):Spec prog 134 [] [.agg (M8 a0),jC a1,.int a2,.int a3] (.aK 0) [(0,w3 r)] [0]:=by
 refine so func134 ntmps134 fun w hn=>?_;unfold nN at h;refine S [3,2,2] ?_;refine Jb 37 hn h [1,2,3,4] [4] (fun _ h g=>?_) ?_
 ·refine Ij [5] [0] fun _ h=>?_;refine Ij [0,13,0] [0] fun _ h=>?_;refine Ij [0] [0] fun _ h=>?_;refine B [0] fun _ o h=>?_;refine G6 o ?_;exact Sj [0,13,0]
 intro u h;refine I [4] ?_ ?_<;>intro _ h
 ·refine S [3] ?_;refine nR 8 208 1 3 ?_;exact Sr [7] [(0,208)]
 refine B [1,3] fun _ f h=>?_;refine G6 f ?_;refine B [] fun p i h=>?_;refine G6 i ?_;refine S [3,2,3] ?_;refine J2 fun d=>?_;refine nR 10 210 1 3 ?_;refine LR e0 hn ([]:List Int) (fun l k v=>mn N a0 a1 a2 p l k v) h (fun a v=>[(51,.int (a:Int))]) (fun a v=>[(210,w3 v)]) [1,2,4,9,10,49,50] [4] [] nl (fun s=>[(210,w3 s)]) [10] [] ?_ ?_ ?_
 ·intro _ g a j h _;rw[mn] at h;exact Sj [3,2,4,0,20]
 ·intro _ g a j t n h _ b _;rw[mn] at h;refine S [3,2,4,0,1,2,6,3] ?_;refine P9 b ?_;refine S [3,2,3] ?_;refine J e0 hn h (fun s=>[(13,.int s)]) nl [1,2,4,9,10,49,50,51] [4,210] (fun _ h g=>?_) ?_
  ·refine I [4] ?_ ?_<;>intro _ h
   ·refine kd [1,2,4,9,10,11,12,49,50,51] [4,12,210] ?_;refine B [8] fun _ e h=>?_;refine cA (FL e) ?_;exact je
   exact Sj [1]
  intro m h;refine S [5] ?_;refine bS cE [m] ?_;refine A [] fun c h=>?_;refine aM c ?_;refine S [5] ?_;refine MF (AN (M7 b d) ?_);exact le (j++[m]) [(210,76)]
 intro q h;exact Sr [3,7] [(0,210)]
def El {N a0 a1 a2 r} (h:qy N a0 a1 a2=some r):Spec prog 174 [(1000,.box [.fp (M8 a0.w),.fp (G9 a0.m),.aK 1001,.int a0.a8,.aK 1002,.aK 1003] 260),(1001,cQ a0.out),(1002,w3 a0.aH),(1003,w3 a0.fix)] [.ptr 1000 0,.int a1,.str a2] (Ho G9 r.1) [(1000,.box [.fp (M8 r.2.w),.fp (G9 r.2.m),.aK 2,.int r.2.a8,.aK 3,.aK 4] 260),(2,cQ r.2.out),(1001,.aF),(3,w3 r.2.aH),(1002,.aF),(4,w3 r.2.fix),(1003,.aF)] [2,3,4]:=by
 refine so func174 ntmps174 fun d hn=>?_;unfold qy at h;refine rB 1000 2 1001 320 ?_;refine rB 1000 4 1002 321 ?_;refine rB 1000 5 1003 322 ?_;refine B [3,3] fun _ a h=>?_;refine cA (jV a) ?_;refine S [2] ?_;refine kd [0,7,8] [320,321,322,1000,1001,1002,1003] ?_;refine I [3,4] ?_ ?_<;>intro _ h
 ·exact Sr [3,7] [(2,320),(3,321),(4,322)]
 refine B [1,3] fun _ b h=>?_;refine G6 b ?_;refine B [] fun _ c h=>?_;refine G6 c ?_;exact Sr [7] [(2,320),(3,321),(4,322)]
def GW {N a0 r} (h:pJ N a0=some r):Spec prog 176 [] [.fp (G9 a0)] (.int r) [] []:=by
 refine so func176 ntmps176 fun a hn=>?_;unfold pJ at h;refine S [3,2] ?_;refine kd [0] [] ?_;exact Sr [8,12,12,12,13,12,7]
def H8 {N a0 a1 a2 a3 a4 r} (h:G5 N a0 a1 a2 a3 a4=some r):Spec prog 208 [(1000,.box [.fp (M8 a0.w),.fp (G9 a0.m),.aK 1001,.int a0.a8,.aK 1002,.aK 1003] 260),(1001,cQ a0.out),(1002,w3 a0.aH),(1003,w3 a0.fix)] [.ptr 1000 0,.int a1,.int a2,.int a3,.int a4] (.aZ []) [(1000,.box [.fp (M8 r.w),.fp (G9 r.m),.aK 2,.int r.a8,.aK 3,.aK 4] 260),(2,cQ r.out),(1001,.aF),(3,w3 r.aH),(1002,.aF),(4,w3 r.fix),(1003,.aF)] [2,3,4]:=by
 refine so func208 ntmps208 fun b hn=>?_;unfold G5 at h;refine rB 1000 2 1001 320 ?_;refine rB 1000 4 1002 321 ?_;refine rB 1000 5 1003 322 ?_;refine S [15,5] ?_;refine bS bd [(⟨a1,a2,a3,a4,BY⟩:Ins)] ?_;refine A [] fun a h=>?_;refine aM a ?_;exact Sr [14] [(2,21),(3,321),(4,322)]
def FV {N a0 a1 a2 a3 a4 r} (h:qz N a0 a1 a2 a3 a4=some r):Spec prog 177 [(1000,.box [.fp (M8 a0.w),.fp (G9 a0.m),.aK 1001,.int a0.a8,.aK 1002,.aK 1003] 260),(1001,cQ a0.out),(1002,w3 a0.aH),(1003,w3 a0.fix)] [.ptr 1000 0,.int a1,.int a2,.agg (bd a3),.fp (G9 a4)] (.aZ []) [(1000,.box [.fp (M8 r.w),.fp (G9 r.m),.aK 2,.int r.a8,.aK 3,.aK 4] 260),(2,cQ r.out),(1001,.aF),(3,w3 r.aH),(1002,.aF),(4,w3 r.fix),(1003,.aF)] [2,3,4]:=by
 refine so func177 ntmps177 fun Γ hn=>?_;unfold qz at h;refine rB 1000 2 1001 320 ?_;refine rB 1000 4 1002 321 ?_;refine rB 1000 5 1003 322 ?_;refine S [15,3,3,2] ?_;refine kd [0,1,2,4,8,10] [8,320,321,322,1000,1001,1002,1003] ?_;refine S [8,12,12,12] ?_;refine kd [0,1,2,4,8,10] [8,320,321,322,1000,1001,1002,1003] ?_;refine B [3] fun _ G h=>?_;refine cA ((H8 G).bE [(1001,320),(1002,321),(1003,322),(2,501),(3,502),(4,503)] rfl) ?_;refine B [3] fun y H h=>?_;refine cA ((H8 H).bE [(1001,501),(1002,502),(1003,503),(2,504),(3,505),(4,506)] rfl) ?_;refine S [2,3] ?_;refine LF e0 hn (y.w,y.m,y.out,y.a8,y.aH,y.fix,a4.args) (fun l v=>Z4 N a0 l v.1 v.2.1 v.2.2.1 v.2.2.2.1 v.2.2.2.2.1 v.2.2.2.2.2.1 v.2.2.2.2.2.2) h (fun v=>[(11,.int v.2.2.2.2.2.2)]) (fun v=>[(504,cQ v.2.2.1),(505,w3 v.2.2.2.2.1),(506,w3 v.2.2.2.2.2.1),(1000,.box [.fp (M8 v.1),.fp (G9 v.2.1),.aK 504,.int v.2.2.2.1,.aK 505,.aK 506] 260)]) [0,4,10] [1001,1002,1003] [] nl (fun s=>[(504,cQ s.2.2.1),(505,w3 s.2.2.2.2.1),(506,w3 s.2.2.2.2.2),(1000,.box [.fp (M8 s.1),.fp (G9 s.2.1),.aK 504,.int s.2.2.2.1,.aK 505,.aK 506] 260)]) [0,4,10] [1001,1002,1003] ?_ ?_
 ·rintro _ g ⟨v6,v7,v8,v9,v10,v11,K⟩ n29 h;rw[Z4] at h;refine I [2,3,4] ?_ ?_<;>intro _ h
  ·refine B [1,2,6,5,12] fun a A h=>?_;refine cA ((H8 A).bE [(1001,504),(1002,505),(1003,506),(2,507),(3,508),(4,509)] rfl) ?_;refine S [5,12] ?_;exact le (a.w,a.m,a.out,a.a8,a.aH,a.fix,(wr (K-(1:Int)))) [(504,507),(505,508),(506,509)]
  exact Sj [20]
 rintro⟨L,M,O,P,Q,R⟩ h;refine S [2,3] ?_;refine j6.cK 61 rfl (fun x=>?_);refine LU e0 hn (L,M,O,P,Q,R) (fun l k v=>V5 N a0 a4 l k v.1 v.2.1 v.2.2.1 v.2.2.2.1 v.2.2.2.2.1 v.2.2.2.2.2) h (fun c v=>[(62,.int (c:Int))]) (fun c v=>[(504,cQ v.2.2.1),(505,w3 v.2.2.2.2.1),(506,w3 v.2.2.2.2.2),(1000,.box [.fp (M8 v.1),.fp (G9 v.2.1),.aK 504,.int v.2.2.2.1,.aK 505,.aK 506] 260)]) [0,4,10,61] [1001,1002,1003] [] nl (fun s=>[(504,cQ s.2.2.1),(505,w3 s.2.2.2.2.1),(506,w3 s.2.2.2.2.2),(1000,.box [.fp (M8 s.1),.fp (G9 s.2.1),.aK 504,.int s.2.2.2.1,.aK 505,.aK 506] 260)]) [0,4,10] [1001,1002,1003] ?_ ?_ ?_
 ·rintro _ g c ⟨T,U,V,W,X,Y⟩ h _;rw[V5] at h;exact Sj [3,2,4,0,20]
 ·rintro _ g c ⟨T,U,V,W,X,Y⟩ n55 h f _;rw[V5] at h;refine B [3,2,4,0,1,2,6,3,3] fun _ C h=>?_;refine cA ((H8 C).bE [(1001,504),(1002,505),(1003,506),(2,510),(3,511),(4,512)] rfl) ?_;refine B [5,12,12,12] fun b D h=>?_;refine cA ((H8 D).bE [(1001,510),(1002,511),(1003,512),(2,513),(3,514),(4,515)] rfl) ?_;refine kd [0,4,10,61,62] [513,514,515,1000,1001,1002,1003] ?_;refine S [5] ?_;refine MF (AN (jc f x) ?_);exact le (b.w,b.m,b.out,b.a8,b.aH,b.fix) [(504,513),(505,514),(506,515)]
 rintro⟨Z,v47,E,v49,v50,v51⟩ h;refine S [3,13,3] ?_;refine J2 fun z=>?_;refine LR e0 hn (Z,v47,E,v49,v50,v51) (fun l k v=>O8 N a0 a4 E l k v.1 v.2.1 v.2.2.1 v.2.2.2.1 v.2.2.2.2.1 v.2.2.2.2.2) h (fun d v=>[(89,.int (d:Int))]) (fun d v=>[(504,cQ v.2.2.1),(505,w3 v.2.2.2.2.1),(506,w3 v.2.2.2.2.2),(1000,.box [.fp (M8 v.1),.fp (G9 v.2.1),.aK 504,.int v.2.2.2.1,.aK 505,.aK 506] 260)]) [0,4,10,13,87,88] [1001,1002,1003] [] nl (fun s=>[(504,cQ s.2.2.1),(505,w3 s.2.2.2.2.1),(506,w3 s.2.2.2.2.2),(1000,.box [.fp (M8 s.1),.fp (G9 s.2.1),.aK 504,.int s.2.2.2.1,.aK 505,.aK 506] 260)]) [0] [1001,1002,1003] ?_ ?_ ?_
 ·rintro _ g d ⟨v66,v67,v68,v69,v70,v71⟩ h _;rw[O8] at h;exact Sj [3,2,4,0,20]
 ·rintro _ g d ⟨v66,v67,v68,v69,v70,v71⟩ x88 F h _ e _;rw[O8] at h;refine S [3,2,4,0,1,2] ?_;refine J e0 hn h nl (fun s=>[(516,cQ s.2.2.1),(517,w3 s.2.2.2.2.1),(518,w3 s.2.2.2.2.2),(1000,.box [.fp (M8 s.1),.fp (G9 s.2.1),.aK 516,.int s.2.2.2.1,.aK 517,.aK 518] 260)]) [0,4,10,13,87,88,89] [1001,1002,1003] (fun _ h g=>?_) ?_
  ·refine S [6,3] ?_;refine P9 e ?_;refine S [3] ?_;refine Jk e0 hn h nl (fun s=>[(516,cQ s.2.2.1),(517,w3 s.2.2.2.2.1),(518,w3 s.2.2.2.2.2),(1000,.box [.fp (M8 s.1),.fp (G9 s.2.1),.aK 516,.int s.2.2.2.1,.aK 517,.aK 518] 260)]) [0,4,10,13,87,88,89] [1001,1002,1003] [] fun _ h g=>?_;refine S [6,3] ?_;refine Jk e0 hn h nl (fun s=>[(516,cQ s.2.2.1),(517,w3 s.2.2.2.2.1),(518,w3 s.2.2.2.2.2),(1000,.box [.fp (M8 s.1),.fp (G9 s.2.1),.aK 516,.int s.2.2.2.1,.aK 517,.aK 518] 260)]) [0,4,10,13,87,88,89] [1001,1002,1003] [] fun _ h g=>?_;refine I [4] ?_ ?_<;>intro _ h
   ·refine B [5] fun _ i h=>?_;refine cA ((H8 i).bE [(1001,504),(1002,505),(1003,506),(2,516),(3,517),(4,518)] rfl) ?_;exact je
   refine S [3] ?_;refine Jk e0 hn h nl (fun s=>[(519,cQ s.2.2.1),(520,w3 s.2.2.2.2.1),(521,w3 s.2.2.2.2.2),(1000,.box [.fp (M8 s.1),.fp (G9 s.2.1),.aK 519,.int s.2.2.2.1,.aK 520,.aK 521] 260)]) [0,4,10,13,87,88,89] [1001,1002,1003] [(516,519),(517,520),(518,521)] fun _ h g=>?_;refine I [4] ?_ ?_<;>intro _ h
   ·refine kd [0,4,10,13,15,87,88,89] [15,504,505,506,1000,1001,1002,1003] ?_;refine B [5,12,12] fun _ j h=>?_;refine cA ((H8 j).bE [(1001,504),(1002,505),(1003,506),(2,519),(3,520),(4,521)] rfl) ?_;exact je
   refine S [2] ?_;refine kd [0,4,10,13,15,87,88,89,94] [15,504,505,506,1000,1001,1002,1003] ?_;refine S [3] ?_;refine Jb 115 hn h [0,4,10,13,15,87,88,89,94] [15,504,505,506,1000,1001,1002,1003] (fun _ h g=>?_) ?_
   ·exact F8 [4] [1] [5]
   intro v125 h;refine Jk e0 hn h nl (fun s=>[(522,cQ s.2.2.1),(523,w3 s.2.2.2.2.1),(524,w3 s.2.2.2.2.2),(1000,.box [.fp (M8 s.1),.fp (G9 s.2.1),.aK 522,.int s.2.2.2.1,.aK 523,.aK 524] 260)]) [0,4,10,13,87,88,89] [1001,1002,1003] [(519,522),(520,523),(521,524)] fun _ h g=>?_;refine I [4] ?_ ?_<;>intro _ h
   ·refine B [8,12,12,12] fun _ n h=>?_;refine cA ((H8 n).bE [(1001,504),(1002,505),(1003,506),(2,522),(3,523),(4,524)] rfl) ?_;exact je
   refine S [3] ?_;refine Jk e0 hn h nl (fun s=>[(525,cQ s.2.2.1),(526,w3 s.2.2.2.2.1),(527,w3 s.2.2.2.2.2),(1000,.box [.fp (M8 s.1),.fp (G9 s.2.1),.aK 525,.int s.2.2.2.1,.aK 526,.aK 527] 260)]) [0,4,10,13,87,88,89] [1001,1002,1003] [(522,525),(523,526),(524,527)] fun _ h g=>?_;refine I [4] ?_ ?_<;>intro _ h
   ·refine B [5] fun _ o h=>?_;refine cA ((H8 o).bE [(1001,504),(1002,505),(1003,506),(2,525),(3,526),(4,527)] rfl) ?_;exact je
   refine S [3] ?_;refine Jk e0 hn h nl (fun s=>[(528,cQ s.2.2.1),(529,w3 s.2.2.2.2.1),(530,w3 s.2.2.2.2.2),(1000,.box [.fp (M8 s.1),.fp (G9 s.2.1),.aK 528,.int s.2.2.2.1,.aK 529,.aK 530] 260)]) [0,4,10,13,87,88,89] [1001,1002,1003] [(525,528),(526,529),(527,530)] fun _ h g=>?_;refine I [4] ?_ ?_<;>intro _ h
   ·refine B [5] fun _ p h=>?_;refine cA ((H8 p).bE [(1001,504),(1002,505),(1003,506),(2,528),(3,529),(4,530)] rfl) ?_;exact je
   refine S [2,3] ?_;refine Jb 146 hn h [0,4,10,13,15,87,88,89,94] [15,504,505,506,1000,1001,1002,1003] (fun _ h g=>?_) ?_
   ·exact F8 [4] [1] [5]
   intro v158 h;refine Jk e0 hn h nl (fun s=>[(531,cQ s.2.2.1),(532,w3 s.2.2.2.2.1),(533,w3 s.2.2.2.2.2),(1000,.box [.fp (M8 s.1),.fp (G9 s.2.1),.aK 531,.int s.2.2.2.1,.aK 532,.aK 533] 260)]) [0,4,10,13,87,88,89] [1001,1002,1003] [(528,531),(529,532),(530,533)] fun _ h g=>?_;refine I [4] ?_ ?_<;>intro _ h
   ·refine B [5,12] fun _ q h=>?_;refine cA ((H8 q).bE [(1001,504),(1002,505),(1003,506),(2,531),(3,532),(4,533)] rfl) ?_;exact je
   refine S [3] ?_;refine Jk e0 hn h nl (fun s=>[(534,cQ s.2.2.1),(535,w3 s.2.2.2.2.1),(536,w3 s.2.2.2.2.2),(1000,.box [.fp (M8 s.1),.fp (G9 s.2.1),.aK 534,.int s.2.2.2.1,.aK 535,.aK 536] 260)]) [0,4,10,13,87,88,89] [1001,1002,1003] [(531,534),(532,535),(533,536)] fun _ h g=>?_;refine I [4] ?_ ?_<;>intro _ h
   ·refine B [5,13,12] fun _ t h=>?_;refine cA ((H8 t).bE [(1001,504),(1002,505),(1003,506),(2,534),(3,535),(4,536)] rfl) ?_;exact je
   refine B [5] fun _ u h=>?_;refine cA ((H8 u).bE [(1001,504),(1002,505),(1003,506),(2,537),(3,538),(4,539)] rfl) ?_;exact je [(534,537),(535,538),(536,539)]
  rintro⟨v91,v92,v93,v94,v95,v96⟩ h;refine S [5] ?_;refine MF (AN (M7 e z) ?_);exact le (v91,v92,v93,v94,v95,v96) [(504,516),(505,517),(506,518)]
 rintro⟨v78,v79,v80,v81,v82,v83⟩ h;exact Sr [14] [(2,504),(3,505),(4,506)]
def G4 {N a0 a1 a2 a3 r} (h:qs N a0 a1 a2 a3=some r):Spec prog 133 [] [.agg (M8 a0),.int a1,.int a2,s3 a3] (.aZ [.agg (eb r.1),.bool r.2]) [] []:=by
 refine so func133 ntmps133 fun Γ hn=>?_;unfold qs at h;refine S [3,2,2] ?_;refine Jb 41 hn h [1,2,3,4,8] [4,8] (fun _ h g=>?_) ?_
 ·refine Ij [5] [0] fun _ h=>?_;refine Ij [0,13,0] [0] fun _ h=>?_;refine Ij [0] [0] fun _ h=>?_;refine B [0] fun _ hx8 h=>?_;refine G6 hx8 ?_;exact Sj [0,13,0]
 intro v1 h;refine Ir [4] [3,7] fun _ h=>?_;refine B [1,3] fun _ R h=>?_;refine G6 R ?_;refine B [] fun F T h=>?_;refine G6 T ?_;refine j6.gh (Gh.bA 4 4 rfl rfl rfl) (fun _=>?_);refine kd [1,3,4,8,10] [8] ?_;refine S [3,3,2,3] ?_;refine J2 fun L=>?_;refine nB 57 2 501 5 55 ?_;refine nB 57 4 502 1 3 ?_;refine nB 57 5 503 1 3 ?_;refine LR e0 hn (a0,F,([]:List Ins),F.a8,([]:List Int),([]:List Int),false) (fun l k v=>k9 N a3 F l k v.1 v.2.1 v.2.2.1 v.2.2.2.1 v.2.2.2.2.1 v.2.2.2.2.2.1 v.2.2.2.2.2.2) h (fun o v=>[(12,.bool v.2.2.2.2.2.2),(63,.int (o:Int))]) (fun o v=>[(57,.box [.fp (M8 v.1),.fp (G9 v.2.1),.aK 501,.int v.2.2.2.1,.aK 502,.aK 503] 260),(501,cQ v.2.2.1),(502,w3 v.2.2.2.2.1),(503,w3 v.2.2.2.2.2.1)]) [1,3,4,8,10,11,61,62] [8] [] (fun s=>[(12,.bool s.2.2.2.2.2.2)]) (fun s=>[(57,.box [.fp (M8 s.1),.fp (G9 s.2.1),.aK 501,.int s.2.2.2.1,.aK 502,.aK 503] 260),(501,cQ s.2.2.1),(502,w3 s.2.2.2.2.1),(503,w3 s.2.2.2.2.2.1)]) [1,4,8,10,11] [8] ?_ ?_ ?_
 ·rintro _ g o ⟨v17,v18,E,v20,v21,v22,v23⟩ h _;rw[k9] at h;exact Sj [3,2,4,0,20]
 ·rintro _ g o ⟨v17,v18,E,v20,v21,v22,v23⟩ x42 rest39 h _ p _;rw[k9] at h;refine S [3,2,4,0,1,2] ?_;refine J e0 hn h (fun s=>[(12,.bool s.2.2.2.2.2.2)]) (fun s=>[(57,.box [.fp (M8 s.1),.fp (G9 s.2.1),.aK 203,.int s.2.2.2.1,.aK 505,.aK 188] 260),(188,w3 s.2.2.2.2.2.1),(203,cQ s.2.2.1),(505,w3 s.2.2.2.2.1)]) [1,3,4,8,10,11,61,62,63] [8] (fun _ h g=>?_) ?_
  ·refine S [6,3] ?_;refine P9 p ?_;refine S [2,8,13] ?_;refine bS cE [(E.length:Int)] ?_;refine A [] fun G h=>?_;refine aM G ?_;refine S [2,2] ?_;refine Jb 97 hn h [1,3,4,8,10,11,12,13,14,61,62,63] [8,14,57,79,501,503] (fun _ h g=>?_) ?_
   ·refine kd [1,3,4,8,10,11,12,13,14,61,62,63] [8,14,57,79,501,503] ?_;refine I [5] ?_ ?_<;>intro _ h
    ·refine I [0,13,0] ?_ ?_<;>intro _ h
     ·refine B [0] fun _ U h=>?_;refine G6 U ?_;exact Sj [0]
     exact Sj [0]
    exact Sj [0]
   intro v55 h;refine I [4] ?_ ?_<;>intro _ h
   ·refine B [2,8] fun _ V h=>?_;refine G6 V ?_;refine B [] fun r65 M h=>?_;refine cA ((El M).bE [(1000,57),(1001,501),(1002,79),(1003,503),(2,504),(3,505),(4,506)] rfl) ?_;rcases r65 with⟨_|x68,d⟩
    ·refine S [2] ?_;refine kd [1,3,4,8,10,11,12,13,14,15,61,62,63] [8,14,57,504,505,506] ?_;refine S [8,4,1,2,2] ?_;refine Jb 176 hn h [1,3,4,8,10,11,12,13,14,61,62,63] [8,14,57,504,505,506] (fun _ h g=>?_) ?_
     ·refine kd [1,3,4,8,10,11,12,13,14,61,62,63] [8,14,57,504,505,506] ?_;exact F8 [5] [0] [0]
     intro v69 h;refine J e0 hn h nl (fun s=>[(57,.box [.fp (M8 d.w),.fp (G9 d.m),.aK 504,.int d.a8,.aK 505,.aK 188] 260),(188,w3 s)]) [1,3,4,8,10,11,12,13,14,61,62,63] [8,14,504,505] (fun _ h g=>?_) ?_
     ·refine I [4] ?_ ?_<;>intro _ h
      ·refine S [8,13] ?_;refine bS cE [(d.out.length:Int)] ?_;refine A [] fun H h=>?_;refine aM H ?_;exact je
      exact Sj [1] [(188,506)]
     intro v72 h;refine S [2,3] ?_;refine J e0 hn h nl (fun s=>[(14,.box (bd s) 55)]) [1,3,4,8,10,11,12,14,61,62,63] [8,57,188,504,505] (fun _ h g=>?_) ?_
     ·exact F8 [4] [5] [1]
     intro v77 h;refine S [8] ?_;refine bS bd [v77] ?_;refine A [] fun K h=>?_;refine aM K ?_;exact je
    refine S [2] ?_;refine Jb 159 hn h [1,3,4,8,10,11,12,13,14,15,61,62,63] [8,14,57,504,505,506] (fun _ h g=>?_) ?_
    ·refine kd [1,3,4,8,10,11,12,13,14,15,61,62,63] [8,14,57,504,505,506] ?_;refine B [8] fun _ O h=>?_;refine cA (Ad O) ?_;refine I [] ?_ ?_<;>intro _ h
     ·refine I [0] ?_ ?_<;>intro _ h
      ·refine B [0,13,0] fun _ P h=>?_;refine cA (GW P) ?_;exact F8 [0,12,0,13,0,12,0,12,0] [0,12,0,12,0,12,0] [0]
      exact Sj [0]
     exact Sj [0]
    intro v81 h;refine I [4] ?_ ?_<;>intro _ h
    ·refine B [2,8] fun _ W h=>?_;refine G6 W ?_;refine B [] fun _ Q h=>?_;refine cA ((FV Q).bE [(1000,57),(1001,504),(1002,505),(1003,506),(2,507),(3,508),(4,509)] rfl) ?_;refine kd [1,3,4,8,10,11,61,62,63] [8,57,507,508,509] ?_;exact Sj [3,20] [(203,507),(505,508),(188,509)]
    refine S [1,2,2] ?_;refine Jb 176 hn h [1,3,4,8,10,11,12,13,14,61,62,63] [8,14,57,504,505,506] (fun _ h g=>?_) ?_
    ·exact F8 [5] [0] [0]
    intro v97 h;refine J e0 hn h nl (fun s=>[(57,.box [.fp (M8 d.w),.fp (G9 d.m),.aK 504,.int d.a8,.aK 505,.aK 188] 260),(188,w3 s)]) [1,3,4,8,10,11,12,13,14,61,62,63] [8,14,504,505] (fun _ h g=>?_) ?_
    ·refine I [4] ?_ ?_<;>intro _ h
     ·refine S [8,13] ?_;refine bS cE [(d.out.length:Int)] ?_;refine A [] fun u h=>?_;refine aM u ?_;exact je
     exact Sj [1] [(188,506)]
    intro v100 h;refine S [2,3] ?_;refine J e0 hn h nl (fun s=>[(14,.box (bd s) 55)]) [1,3,4,8,10,11,12,14,61,62,63] [8,57,188,504,505] (fun _ h g=>?_) ?_
    ·exact F8 [4] [5] [1]
    intro Y h;refine S [8] ?_;refine bS bd [Y] ?_;refine A [] fun x h=>?_;refine aM x ?_;exact je
   refine S [1,2,2] ?_;refine Jb 176 hn h [1,3,4,8,10,11,12,13,14,61,62,63] [8,14,57,79,501,503] (fun _ h g=>?_) ?_
   ·exact F8 [5] [0] [0]
   intro v109 h;refine J e0 hn h nl (fun s=>[(57,.box [.fp (M8 v17),.fp (G9 v18),.aK 501,.int v20,.aK 79,.aK 188] 260),(188,w3 s)]) [1,3,4,8,10,11,12,13,14,61,62,63] [8,14,79,501] (fun _ h g=>?_) ?_
   ·refine I [4] ?_ ?_<;>intro _ h
    ·refine S [8,13] ?_;refine bS cE [(E.length:Int)] ?_;refine A [] fun y h=>?_;refine aM y ?_;exact je
    exact Sj [1] [(188,503)]
   intro v112 h;refine S [2,3] ?_;refine J e0 hn h nl (fun s=>[(14,.box (bd s) 55)]) [1,3,4,8,10,11,12,14,61,62,63] [8,57,79,188,501] (fun _ h g=>?_) ?_
   ·exact F8 [4] [5] [1]
   intro Z h;refine S [8] ?_;refine bS bd [Z] ?_;refine A [] fun z h=>?_;refine aM z ?_;exact je [(505,79)]
  rintro⟨v45,v46,v47,v48,v49,v50,v51⟩ h;refine S [5] ?_;refine MF (AN (M7 p L) ?_);exact le (v45,v46,v47,v48,v49,v50,v51) [(501,203),(502,505),(503,188)]
 rintro⟨v31,v32,v33,v34,v35,v36,v37⟩ h;refine Ir [2,3,4] [3,7] fun _ h=>?_;refine S [1,2,3] ?_;refine J2 fun C=>?_;refine LR e0 hn v33 (fun l k v=>k8 N v35 v36 l k v) h (fun e v=>[(215,.int (e:Int))]) (fun e v=>[(501,cQ v)]) [1,4,8,10,11,213,214] [8,57,502,503] [] nl (fun s=>[(501,cQ s)]) [1,4,8,10,11] [8,57,502,503] ?_ ?_ ?_
 ·intro _ g e q h _;rw[k8] at h;exact Sj [3,2,4,0,20]
 ·intro _ g e q x131 X h _ D _;rw[k8] at h;refine B [3,2,4,0,1,2,6,3] fun x134 f h=>?_;refine bT f ?_;refine V8 (l6 f).2 ?_;refine kd [1,4,8,10,11,17,213,214,215] [8,57,501,502,503] ?_;refine B [8] fun _ i h=>?_;refine bT i ?_;refine V8 (l6 i).2 ?_;refine B [] fun t j h=>?_;refine bT j ?_;refine V8 (l6 j).2 ?_;refine B [] fun a n h=>?_;refine bT n ?_;refine sM (l6 n).2 (⟨a.op,t,a.b,a.c,a.name⟩:Ins) ?_;refine kd [1,4,8,10,11,213,214,215] [8,57,501,502,503] ?_;refine S [5] ?_;refine MF (AN (M7 D C) ?_);exact le (q.set x134.toNat (⟨a.op,t,a.b,a.c,a.name⟩:Ins)) []
 intro v126 h;refine S [2] ?_;refine kd [1,4,8,10,11] [8,57,501,502,503] ?_;refine S [8] ?_;refine j6.ar 501 rfl ?_;exact Sr [7]
def Hc {N a0 a1 r} (h:sY N a0 a1=some r):Spec prog 102 [] [.agg (M8 a0),jC a1] (.aK 0) [(0,oB r)] [0]:=by
 refine so func102 ntmps102 fun C hn=>?_;unfold sY at h;refine S [3,3,2,3] ?_;refine J2 fun n=>?_;refine nR 5 205 5 213 ?_;refine LR e0 hn ([]:List Fs) (fun l k v=>lR N a0 a1 l k v) h (fun j v=>[(13,.int (j:Int))]) (fun j v=>[(205,oB v)]) [1,2,5,12] [2] [] nl (fun s=>[(205,oB s)]) [5] [] ?_ ?_ ?_
 ·intro _ g j w h _;rw[lR] at h;exact Sj [3,2,4,0,20]
 ·intro _ g j w x p h _ b _;rw[lR] at h;refine S [3,2,4,0,1,2,6,3,3] ?_;refine P9 b ?_;refine J2 fun d=>?_;refine LR e0 hn w (fun l k v=>lS N a0 a1 j l k v) h (fun a v=>[(23,.int (a:Int))]) (fun a v=>[(205,oB v)]) [1,2,5,6,12,13,22] [2] [] nl (fun s=>[(205,oB s)]) [1,2,5,12,13] [2] ?_ ?_ ?_
  ·intro _ g a q h _;rw[lS] at h;exact Sj [3,2,4,0,20]
  ·intro _ g a q y m h _ i _;rw[lS] at h;refine S [3,2,4,0,1,2] ?_;refine J e0 hn h (fun s=>[(5,.aK 42)]) (fun s=>[(42,oB s)]) [1,2,6,12,13,22,23] [2] (fun _ h g=>?_) ?_
   ·refine B [6,3,2,8] fun _ e h=>?_;refine cA ((Eu e).sw 0 34) ?_;refine B [] fun o f h=>?_;refine cF (G4 f) ?_;refine kd [1,2,5,6,8,9,12,13,22,23] [2,8,205] ?_;refine S [3] ?_;refine Jk e0 hn h (fun s=>[(5,.aK 42)]) (fun s=>[(42,oB s)]) [1,2,6,12,13,22,23] [2] [] fun _ h g=>?_;refine I [4] ?_ ?_<;>intro _ h
    ·refine S [5] ?_;refine bS eb [o.1] ?_;refine A [] fun c h=>?_;refine aM c ?_;exact je
    exact Sj [1] [(42,205)]
   intro u h;refine S [5] ?_;refine MF (AN (M7 i d) ?_);exact le u [(205,42)]
  intro t h;refine S [5] ?_;refine MF (AN (M7 b n) ?_);exact le t []
 intro z h;exact Sr [3,7] [(0,205)]
def zo {N a0 gq a1 a2 a3 a4 r} (h:O3 N a0 gq a1 a2 a3 a4=some r) {e:Nat} {c:List AV} {d:Nat} {a:List AV} {b:List AV} (D:∀z C M,gq z C=some M->Spec prog d [] [.int z,.int C,.fp a,.fp b] (.aZ [.agg (eb M.1),.bool M.2]) [] []):Spec prog 166 [(1000,mB a0 (.fn e [.fp c]) (.fn d [.fp a,.fp b]) 1001 1003),(1001,.box [N8 a0.w.a7,.aK 1002,.int a0.w.aC] 40),(1003,D9 a0.aE [] 1005)] [.ptr 1000 0,.int a1,.int a2,.agg (eV a3),zK a4] (.aZ []) [(1000,mB r (.fn e [.fp c]) (.fn d [.fp a,.fp b]) 1001 4),(1001,.box [N8 a0.w.a7,.aK 1002,.int a0.w.aC] 40),(4,D9 r.aE [] 5),(5,.aF),(1003,.aF)] [5,4]:=by
 refine so func166 ntmps166 fun O hn=>?_;unfold O3 at h;refine B [15,3,3] fun _ F h=>?_;refine G6 F ?_;refine B [] fun _ G h=>?_;refine G6 G ?_;refine S [2] ?_;refine kd [0,1,2,4,8,10] [8,1000,1001,1003] ?_;refine I [3,13,4] ?_ ?_<;>intro _ h
 ·refine B [3] fun _ E h=>?_;refine cA (mb (.fn e [.fp c]) (.fn d [.fp a,.fp b]) fun _ _=>(u7 E _ _)) ?_;refine gC (gR 1000 6 1003 501 502) ?_;exact Sr [7] [(4,501),(5,502)]
 refine I [1,2,3,4] ?_ ?_<;>intro _ h
 ·refine S [2] ?_;refine kd [0,4,8,10] [8,1000,1001,1003] ?_;refine B [3] fun _ l h=>?_;refine cA (mb (.fn e [.fp c]) (.fn d [.fp a,.fp b]) fun _ _=>(M6 l _ _)) ?_;refine I [4] ?_ ?_<;>intro _ h
  ·refine gC (gR 1000 6 1003 503 504) ?_;exact Sr [7] [(4,503),(5,504)]
  refine B [1,2,8] fun _ v h=>?_;refine G6 v ?_;refine B [] fun _ m h=>?_;refine cA (wX m) ?_;refine S [2] ?_;refine kd [0,11,12] [11,1000,1001,1003] ?_;refine I [3,4] ?_ ?_<;>intro _ h
  ·refine B [3] fun _ o h=>?_;refine cA (mb (.fn e [.fp c]) (.fn d [.fp a,.fp b]) fun _ _=>(u7 o _ _)) ?_;refine gC (gR 1000 6 1003 505 506) ?_;exact Sr [7] [(4,505),(5,506)]
  refine B [1,3] fun _ p h=>?_;refine cA (mb (.fn e [.fp c]) (.fn d [.fp a,.fp b]) fun _ _=>((oe p _ _).sw 5 507)) ?_;refine gC (gR 1000 6 1003 508 509) ?_;exact Sr [7] [(4,508),(5,509)]
 refine S [1,2] ?_;refine kd [0,1,2,4,8,10] [8,1000,1001,1003] ?_;refine B [3] fun _ q h=>?_;refine cA (mb (.fn e [.fp c]) (.fn d [.fp a,.fp b]) fun _ _=>(M6 q _ _)) ?_;refine I [4] ?_ ?_<;>intro _ h
 ·refine gC (gR 1000 6 1003 510 511) ?_;exact Sr [7] [(4,510),(5,511)]
 refine S [1,2] ?_;refine kd [0,1,2,4,8,10] [8,1000,1001,1003] ?_;refine B [8] fun H t h=>?_;refine cA ((mf N _ _ t).sw 0 77) ?_;refine A [] fun f h=>?_;refine kj (enc:=eV) (x:=(⟨(0:Int),(0:Int)⟩:V)) f aT ?_;refine S [2] ?_;refine kd [0,1,2,13] [13,77,82,1000,1001,1003] ?_;refine B [3] fun _ u h=>?_;refine cA (D _ _ _ u) ?_;refine S [3] ?_;refine J e0 hn h nl (fun s=>[(13,.box [.int a1,.int a2,.bool s.1,oW s.2.1,.int a3.k,.int a3.n,.aK 77,.aK 99,.aJ,.int (0:Int)] 288),(99,iZ s.2.2)]) [0,13] [77,1000,1001,1003] (fun _ h g=>?_) ?_
 ·refine I [4] ?_ ?_<;>intro _ h
  ·refine kd [0,13,14] [13,14,77,82,1000,1001,1003] ?_;refine A [8] fun i h=>?_;refine kj (enc:=eV) (x:=(⟨(0:Int),(0:Int)⟩:V)) i aT ?_;exact je
  exact Sj [1] [(99,82)]
 rintro⟨K,L,y⟩ h;refine j6.ar 77 rfl ?_;refine kd [0,13] [13,99,1000,1001,1003] ?_;refine S [8,11] ?_;refine Exists.intro [(7,(2,29)),(8,(2,29))] (Exists.intro (vW (⟨a1,a2,K,L,a3,H,y,[],(0:Int)⟩:j3)) (Exists.intro [(99,iZ y)] (AN rfl (AN rfl (AN rfl (AN G8 (AN G8 (AN rfl (AN rfl ?_)))))))));refine A [] fun j h=>?_;refine aD j ?_;exact Sr [14] [(4,110),(5,810)]
def Ei {N a0 gl gq a1 a2 a3 r} (h:mi N a0 gl gq a1 a2 a3=some r) {x:Nat} {c:List AV} (C:∀f j v k,gl f j v=some k->Spec prog x [] [.agg (bU f),.int j,.str v,.fp c] (.aZ [.int k.1,.int k.2]) [] []) {y:Nat} {d:List AV} {e:List AV} (D:∀f j k,gq f j=some k->Spec prog y [] [.int f,.int j,.fp d,.fp e] (.aZ [.agg (eb k.1),.bool k.2]) [] []):Spec prog 198 [(1000,mB a0 (.fn x [.fp c]) (.fn y [.fp d,.fp e]) 1001 1003),(1001,.box [N8 a0.w.a7,.aK 1002,.int a0.w.aC] 40),(1002,Q8 a0.w.heap [] 1004),(1003,D9 a0.aE [] 1005)] [.ptr 1000 0,.ep 1003 a1 10 0,.agg (bd a2),.int a3] (.aZ []) [(1000,mB r (.fn x [.fp c]) (.fn y [.fp d,.fp e]) 1001 4),(1001,.box [N8 a0.w.a7,.aK 1002,.int a0.w.aC] 40),(1002,Q8 a0.w.heap [] 1004),(4,D9 r.aE [] 5),(5,.aF),(1003,.aF)] [5,4]:=by
 refine so func198 ntmps198 fun H hn=>?_;unfold mi at h;refine B [15,3,2] fun i b h=>?_;refine gC (gD 1003 501 502 a1 8 b) ?_;refine kd [0,1,3,6] [6,501,502,1000,1001,1002,1003] ?_;refine S [8] ?_;refine hD b ?_;refine S [13,12,2] ?_;refine kd [0,1,3,6,8] [6,501,502,1000,1001,1002,1003] ?_;refine S [8] ?_;refine hD b ?_;refine A [] fun z h=>?_;refine d41 z rfl rfl ?_;refine B [] fun _ E h=>?_;refine vE ((Spec.drop1 (mf N _ _ E)).sw 0 28) ⟨d42 _,trivial⟩ ?_;refine hD b ?_;refine B [12] fun _ u h=>?_;refine bT u ?_;refine V8 (l6 u).2 ?_;refine S [2] ?_;refine gC (gB 1003 501 503 a1 8 b) ?_;refine kd [0,1,3,6,8,9,10] [6,10,28,503,1000,1001,1002,1003] ?_;refine S [8] ?_;refine V8 b ?_;refine V8 b ?_;refine B [] fun _ q h=>?_;refine G6 q ?_;refine V8 b ?_;refine B [] fun F t h=>?_;refine G6 t ?_;refine S [2] ?_;refine kd [0,1,6,8,9,10,11] [6,10,11,28,503,1000,1001,1002,1003] ?_;refine S [3] ?_;refine V8 b ?_;refine J e0 hn h nl (fun s=>[(11,.box [.int i.aI,.str F.name,.int s] 156)]) [0,1,6,8,9,10,11] [6,10,28,503,1000,1001,1002,1003] (fun _ h g=>?_) ?_
 ·exact F8 [4] [5] [1]
 intro G h;refine S [2] ?_;refine kd [0,1,6,8,9,10,11] [6,10,11,28,503,1000,1001,1002,1003] ?_;refine B [8] fun _ m h=>?_;refine cD (mw m) ?_;refine B [] fun _ n h=>?_;refine cA (C _ _ _ _ n) ?_;refine S [2] ?_;refine kd [0,1,8,9,10,12,13] [10,28,503,1000,1001,1002,1003] ?_;refine I [3,4] ?_ ?_<;>intro _ h
 ·refine B [3] fun _ o h=>?_;refine cA (mb (.fn x [.fp c]) (.fn y [.fp d,.fp e]) fun _ _=>(u7 o _ _)) ?_;refine gC (gR 1000 6 1003 504 505) ?_;exact Sr [7] [(4,504),(5,505)]
 refine S [1] ?_;refine gC (gD 1003 506 507 a1 8 b) ?_;refine kd [0,1,8,9,10,12,13] [10,28,506,507,1000,1001,1002,1003] ?_;refine S [3] ?_;refine hD b ?_;refine A [12] fun l h=>?_;refine jr l rfl rfl ?_;refine hS b ?_;refine gC (gA 1003 102 508 a1 8 b (⟨i.aI,i.aL,i.aY,i.code,i.aR,i.args,i.a8,(i.aA.take (wr ((wr ((i.aA.length:Int)-a2.a))-(1:Int))).toNat),i.aH⟩:j3)) ?_;refine kd [0,1,9,10,12,13] [10,28,508,1000,1001,1002,1003] ?_;refine B [5] fun _ p h=>?_;refine cF ((((zo p D).sw 1005 508).sw 5 509).sw 4 510) ?_;exact Sr [14] [(4,510),(5,509)]
def Eg {N a0 gl gq r} (h:mj N a0 gl gq=some r) {d:Nat} {a:List AV} (D:∀i j C t,gl i j C=some t->Spec prog d [] [.agg (bU i),.int j,.str C,.fp a] (.aZ [.int t.1,.int t.2]) [] []) {e:Nat} {b:List AV} {c:List AV} (E:∀i j t,gq i j=some t->Spec prog e [] [.int i,.int j,.fp b,.fp c] (.aZ [.agg (eb t.1),.bool t.2]) [] []):Spec prog 167 [(1000,mB a0 (.fn d [.fp a]) (.fn e [.fp b,.fp c]) 1001 1003),(1001,.box [N8 a0.w.a7,.aK 1002,.int a0.w.aC] 40),(1002,Q8 a0.w.heap [] 1004),(1003,D9 a0.aE [] 1005)] [.ptr 1000 0] (.aZ []) [(1000,mB r (.fn d [.fp a]) (.fn e [.fp b,.fp c]) 1001 4),(1001,.box [N8 r.w.a7,.aK 2,.int r.w.aC] 40),(2,Q8 r.w.heap [] 3),(3,.aF),(1002,.aF),(4,D9 r.aE [] 5),(5,.aF),(1003,.aF)] [3,2,5,4]:=by
 refine so func167 ntmps167 fun Γ hn=>?_;unfold mj at h;refine B [15,2,8,13,12] fun k f h=>?_;refine iD f ?_;refine S [3] ?_;refine V8 (l6 f).2 ?_;refine kd [0,2,3] [1000,1001,1002,1003] ?_;refine S [3] ?_;refine V8 (l6 f).2 ?_;refine B [] fun _ F h=>?_;refine G6 F ?_;refine S [3] ?_;refine V8 (l6 f).2 ?_;refine S [12] ?_;refine sD (l6 f).2 (⟨k.aI,k.aL,k.aY,k.code,k.aR,k.args,k.a8,k.aA,(wr (k.aH+(1:Int)))⟩:j3) ?_;refine kd [0,2,3,4] [4,1000,1001,1002,1003] ?_;refine S [3] ?_;refine J e0 hn h nl (fun s=>[(501,.aF),(502,D9 s.2.2.2.2.2.2.1 [] 501),(509,.aF),(510,Q8 s.2.1 [] 509),(1000,.box [.ptr 1001 0,.fn d [.fp a],.fn e [.fp b,.fp c],.int s.2.2.2.1,.int s.2.2.2.2.1,.int s.2.2.2.2.2.1,.aK 502,.int s.2.2.2.2.2.2.2.1,.int s.2.2.2.2.2.2.2.2.1,.int s.2.2.2.2.2.2.2.2.2] 251),(1001,.box [N8 s.1,.aK 510,.int s.2.2.1] 40),(1002,.aF),(1003,.aF)]) [0] [] (fun _ h g=>?_) ?_
 ·refine S [6,3] ?_;refine Jk e0 hn h nl (fun s=>[(501,.aF),(502,D9 s.2.2.2.2.2.2.1 [] 501),(509,.aF),(510,Q8 s.2.1 [] 509),(1000,.box [.ptr 1001 0,.fn d [.fp a],.fn e [.fp b,.fp c],.int s.2.2.2.1,.int s.2.2.2.2.1,.int s.2.2.2.2.2.1,.aK 502,.int s.2.2.2.2.2.2.2.1,.int s.2.2.2.2.2.2.2.2.1,.int s.2.2.2.2.2.2.2.2.2] 251),(1001,.box [N8 s.1,.aK 510,.int s.2.2.1] 40),(1002,.aF),(1003,.aF)]) [0] [] [] fun _ h g=>?_;refine I [4] ?_ ?_<;>intro _ h
  ·refine B [5] fun _ u h=>?_;refine cA (((Ei u D E).sw 5 501).sw 4 502) ?_;refine gE (gR 1001 1 1002 503 504) ?_;exact je [(510,503),(509,504)]
  refine S [3] ?_;refine Jk e0 hn h nl (fun s=>[(88,D9 s.2.2.2.2.2.2.1 [] 505),(505,.aF),(511,.aF),(512,Q8 s.2.1 [] 511),(1000,.box [.ptr 1001 0,.fn d [.fp a],.fn e [.fp b,.fp c],.int s.2.2.2.1,.int s.2.2.2.2.1,.int s.2.2.2.2.2.1,.aK 88,.int s.2.2.2.2.2.2.2.1,.int s.2.2.2.2.2.2.2.2.1,.int s.2.2.2.2.2.2.2.2.2] 251),(1001,.box [N8 s.1,.aK 512,.int s.2.2.1] 40),(1002,.aF),(1003,.aF)]) [0] [] [(510,512),(509,511),(502,88),(501,505)] fun _ h g=>?_;refine I [4] ?_ ?_<;>intro _ h
  ·refine B [5] fun _ v h=>?_;refine cA (mb (.fn d [.fp a]) (.fn e [.fp b,.fp c]) fun _ _=>((og v _ _).sw 5 505)) ?_;refine gE (gR 1001 1 1002 506 507) ?_;refine gE (gR 1000 6 1003 508 509) ?_;exact je [(512,506),(511,507),(88,508),(505,509)]
  refine S [3] ?_;refine Jk e0 hn h nl (fun s=>[(88,D9 s.2.2.2.2.2.2.1 [] 511),(511,.aF),(515,.aF),(516,Q8 s.2.1 [] 515),(1000,.box [.ptr 1001 0,.fn d [.fp a],.fn e [.fp b,.fp c],.int s.2.2.2.1,.int s.2.2.2.2.1,.int s.2.2.2.2.2.1,.aK 88,.int s.2.2.2.2.2.2.2.1,.int s.2.2.2.2.2.2.2.2.1,.int s.2.2.2.2.2.2.2.2.2] 251),(1001,.box [N8 s.1,.aK 516,.int s.2.2.1] 40),(1002,.aF),(1003,.aF)]) [0] [] [(512,516),(511,515),(505,511)] fun _ h g=>?_;refine I [4] ?_ ?_<;>intro _ h
  ·refine B [3] fun _ x h=>?_;refine cA ((kv x).sw 5 510) ?_;refine S [3] ?_;refine J e0 hn h nl (fun s=>[(511,.aF),(1000,.box [.ptr 1001 0,.fn d [.fp a],.fn e [.fp b,.fp c],.int s.1,.int s.2.1,.int s.2.2.1,.aK 1003,.int s.2.2.2.2.1,.int s.2.2.2.2.2.1,.int s.2.2.2.2.2.2] 251),(1003,D9 s.2.2.2.1 [] 511)]) [0] [1001,1002] (fun _ h g=>?_) ?_
   ·refine S [6] ?_;refine kd [0,2,4,61] [4,510,1000,1001,1002,1003] ?_;refine S [3] ?_;refine Jk e0 hn h nl (fun s=>[(511,.aF),(1000,.box [.ptr 1001 0,.fn d [.fp a],.fn e [.fp b,.fp c],.int s.1,.int s.2.1,.int s.2.2.1,.aK 1003,.int s.2.2.2.2.1,.int s.2.2.2.2.2.1,.int s.2.2.2.2.2.2] 251),(1003,D9 s.2.2.2.1 [] 511)]) [0] [1001,1002] [] fun _ h g=>?_;refine I [4] ?_ ?_<;>intro _ h
    ·refine B [5] fun _ y h=>?_;refine cA (mb (.fn d [.fp a]) (.fn e [.fp b,.fp c]) fun _ _=>(((og y _ _).sw 1005 510).sw 5 511)) ?_;exact je
    refine S [3] ?_;refine Jk e0 hn h nl (fun s=>[(1000,.box [.ptr 1001 0,.fn d [.fp a],.fn e [.fp b,.fp c],.int s.1,.int s.2.1,.int s.2.2.1,.aK 1003,.int s.2.2.2.1,.int s.2.2.2.2.1,.int s.2.2.2.2.2] 251)]) [0] [510,1001,1002,1003] [(511,510)] fun _ h g=>?_;refine Ij [4] [1] fun _ h=>?_;refine B [5] fun _ z h=>?_;refine cA (mb (.fn d [.fp a]) (.fn e [.fp b,.fp c]) fun _ _=>(u7 z _ _)) ?_;exact je
   rintro⟨v59,v60,v61,v62,v63,v64,v65⟩ h;refine gE (gR 1001 1 1002 512 513) ?_;refine gE (gR 1000 6 1003 514 515) ?_;exact je [(516,512),(515,513),(88,514),(511,515)]
  refine S [3] ?_;refine Jk e0 hn h nl (fun s=>[(88,D9 s.2.2.2.2.2.2.1 [] 517),(517,.aF),(519,.aF),(520,Q8 s.2.1 [] 519),(1000,.box [.ptr 1001 0,.fn d [.fp a],.fn e [.fp b,.fp c],.int s.2.2.2.1,.int s.2.2.2.2.1,.int s.2.2.2.2.2.1,.aK 88,.int s.2.2.2.2.2.2.2.1,.int s.2.2.2.2.2.2.2.2.1,.int s.2.2.2.2.2.2.2.2.2] 251),(1001,.box [N8 s.1,.aK 520,.int s.2.2.1] 40),(1002,.aF),(1003,.aF)]) [0] [] [(516,520),(515,519),(511,517)] fun _ h g=>?_;refine I [4] ?_ ?_<;>intro _ h
  ·refine B [3] fun _ m h=>?_;refine cA ((kv m).sw 5 516) ?_;refine S [2] ?_;refine kd [0,6] [6,516,1000,1001,1002,1003] ?_;refine A [8,13,12] fun l h=>?_;refine jr l rfl rfl ?_;refine B [5] fun _ n h=>?_;refine cA (mb (.fn d [.fp a]) (.fn e [.fp b,.fp c]) fun _ _=>((((oe n _ _).sw 1003 88).sw 1005 788).sw 5 517)) ?_;refine gE (gR 1001 1 1002 518 519) ?_;exact je [(520,518)]
  refine S [3] ?_;refine J e0 hn h nl (fun s=>[(520,.aF),(521,.aF),(522,Q8 s.2.1 [] 521),(1000,.box [.ptr 1001 0,.fn d [.fp a],.fn e [.fp b,.fp c],.int s.2.2.2.1,.int s.2.2.2.2.1,.int s.2.2.2.2.2.1,.aK 1003,.int s.2.2.2.2.2.2.2.1,.int s.2.2.2.2.2.2.2.2.1,.int s.2.2.2.2.2.2.2.2.2] 251),(1001,.box [N8 s.1,.aK 522,.int s.2.2.1] 40),(1002,.aF),(1003,D9 s.2.2.2.2.2.2.1 [] 520)]) [0] [] (fun _ h g=>?_) ?_
  ·refine I [4] ?_ ?_<;>intro _ h
   ·refine B [5] fun _ o h=>?_;refine cA (mb (.fn d [.fp a]) (.fn e [.fp b,.fp c]) fun _ _=>((w7 o _ _).sw 5 520)) ?_;refine gE (gR 1001 1 1002 521 522) ?_;exact je [(522,521),(521,522)]
   refine S [3] ?_;refine Jk e0 hn h nl (fun s=>[(523,.aF),(524,Q8 s.2.1 [] 523),(525,.aF),(1000,.box [.ptr 1001 0,.fn d [.fp a],.fn e [.fp b,.fp c],.int s.2.2.2.1,.int s.2.2.2.2.1,.int s.2.2.2.2.2.1,.aK 1003,.int s.2.2.2.2.2.2.2.1,.int s.2.2.2.2.2.2.2.2.1,.int s.2.2.2.2.2.2.2.2.2] 251),(1001,.box [N8 s.1,.aK 524,.int s.2.2.1] 40),(1002,.aF),(1003,D9 s.2.2.2.2.2.2.1 [] 525)]) [0] [] [(522,524),(521,523),(520,525)] fun _ h g=>?_;refine I [4] ?_ ?_<;>intro _ h
   ·refine kd [0] [1000,1001,1002,1003] ?_;refine B [5] fun _ p h=>?_;refine cA (mb (.fn d [.fp a]) (.fn e [.fp b,.fp c]) fun _ _=>(M6 p _ _)) ?_;refine gE (gR 1001 1 1002 523 524) ?_;refine gE (gS 1003 525) ?_;exact je [(524,523),(523,524)]
   refine kd [0,2,4] [4,1000,1001,1002,1003] ?_;refine B [5] fun _ q h=>?_;refine cA (mb (.fn d [.fp a]) (.fn e [.fp b,.fp c]) fun _ _=>((((w8 q _ _).sw 3 526).sw 2 527).sw 5 528)) ?_;exact je [(524,527),(523,526),(525,528)]
  rintro⟨G,H,K,L,M,O,P,Q,R,T⟩ h;refine gE (gR 1000 6 1003 529 530) ?_;exact je [(520,522),(519,521),(88,529),(517,530)]
 rintro⟨v6,v7,v8,v9,U,V,W,X,Y,Z⟩ h;exact Sr [14] [(2,510),(3,509),(4,502),(5,501)]
def G1 {N a0 a1 a2 g3 g4 r} (h:iK N a0 a1 a2 g3 g4=some r) {j:Nat} {b:List AV} (z:∀e f y i,g3 e f y=some i->Spec prog j [] [.agg (bU e),.int f,.str y,.fp b] (.aZ [.int i.1,.int i.2]) [] []) {m:Nat} {c:List AV} {d:List AV} (o:∀e f i,g4 e f=some i->Spec prog m [] [.int e,.int f,.fp c,.fp d] (.aZ [.agg (eb i.1),.bool i.2]) [] []):Spec prog 125 [] [.agg (M8 a0),.agg (kN a1),.int a2,.fn j [.fp b],.fn m [.fp c,.fp d]] (.aZ [.agg (M8 r.1),.agg (lj r.2)]) [] []:=by
 refine so func125 ntmps125 fun Γ hn=>?_;unfold iK at h;refine B [3,2,3] fun _ A h=>?_;refine cA (wA A) ?_;refine I [3,4] ?_ ?_<;>intro _ h
 ·refine B [3] fun _ C h=>?_;refine cA (((jW C).sw 0 24).sw 1 724) ?_;refine j6.ay 24 rfl ?_;exact Sr [7]
 refine B [1,3] fun F D h=>?_;refine cA (((jW D).sw 0 28).sw 1 728) ?_;refine kd [2,3,4,5,6,10,11,13] [5,6,10,11,13,28,728] ?_;refine B [3,2,2,8] fun _ E h=>?_;refine cD (mw E) ?_;refine B [] fun _ p h=>?_;refine cD (jV p) ?_;refine kd [5,6,10,11,13,14,15,16] [5,6,10,11,13,28,33,728] ?_;refine S [3] ?_;refine nB 33 6 501 10 288 ?_;refine gC (gT 501 502 [(7,(2,29)),(8,(2,29))]) ?_;refine J e0 hn h nl (fun s=>[(33,.box [.ptr 13 0,.fn j [.fp b],.fn m [.fp c,.fp d],.int s.1,.int s.2.1,.int s.2.2.1,.aK 501,.int s.2.2.2.2.1,.int s.2.2.2.2.2.1,.int s.2.2.2.2.2.2] 251),(501,D9 s.2.2.2.1 [] 502)]) [5,10,11,13,14] [5,10,11,13,28,502,728] (fun _ h g=>?_) ?_
 ·refine I [4] ?_ ?_<;>intro _ h
  ·refine B [5] fun _ q h=>?_;refine cA (mb (.fn j [.fp b]) (.fn m [.fp c,.fp d]) fun _ _=>((((u7 q _ _).sw 1000 33).sw 1001 13).sw 1003 501)) ?_;exact je
  refine B [5] fun _ t h=>?_;refine cA ((zo t o).bE [(1000,33),(1001,13),(1003,501),(1002,28),(1005,502),(5,503),(4,504)] rfl) ?_;exact je [(501,504),(502,503)]
 rintro⟨G,H,K,L,M,O,P⟩ h;refine S [2] ?_;refine LF e0 hn (F.a7,F.heap,F.aC,G,H,K,L,M,O,P) (fun l v=>kD N g3 g4 l v.1 v.2.1 v.2.2.1 v.2.2.2.1 v.2.2.2.2.1 v.2.2.2.2.2.1 v.2.2.2.2.2.2.1 v.2.2.2.2.2.2.2.1 v.2.2.2.2.2.2.2.2.1 v.2.2.2.2.2.2.2.2.2) h (fun v=>[]) (fun v=>[(13,.box [N8 v.1,.aK 28,.int v.2.2.1] 40),(28,Q8 v.2.1 [] 728),(33,.box [.ptr 13 0,.fn j [.fp b],.fn m [.fp c,.fp d],.int v.2.2.2.1,.int v.2.2.2.2.1,.int v.2.2.2.2.2.1,.aK 501,.int v.2.2.2.2.2.2.2.1,.int v.2.2.2.2.2.2.2.2.1,.int v.2.2.2.2.2.2.2.2.2] 251),(501,D9 v.2.2.2.2.2.2.1 [] 502)]) [5,10,11,13,14] [5,10,11,502,728] [] nl (fun s=>[(13,.box [N8 s.1,.aK 28,.int s.2.2.1] 40),(28,Q8 s.2.1 [] 728),(33,.box [.ptr 13 0,.fn j [.fp b],.fn m [.fp c,.fp d],.int s.2.2.2.1,.int s.2.2.2.2.1,.int s.2.2.2.2.2.1,.aK 501,.int s.2.2.2.2.2.2.2.1,.int s.2.2.2.2.2.2.2.2.1,.int s.2.2.2.2.2.2.2.2.2] 251),(501,D9 s.2.2.2.2.2.2.1 [] 502)]) [5,10,11,13,14] [5,10,11,502,728] ?_ ?_
 ·rintro _ g ⟨R,T,U,V,W,X,Y,Z,v34,v35⟩ Q h;rw[kD] at h;refine S [2,2] ?_;refine Jb 70 hn h [5,10,11,13,14] [5,10,11,13,28,33,501,502,728] (fun _ h g=>?_) ?_
  ·exact F8 [5] [0,13,0] [0]
  intro v60 h;refine I [4] ?_ ?_<;>intro _ h
  ·refine B [1,6,5] fun a u h=>?_;refine cA ((Eg u z o).bE [(1000,33),(1001,13),(1003,501),(1002,28),(1004,728),(1005,502),(3,505),(2,506),(5,507),(4,508)] rfl) ?_;exact le (a.w.a7,a.w.heap,a.w.aC,a.fuel,a.sends,a.turns,a.aE,a.back.k,a.back.n,a.err) [(28,506),(728,505),(501,508),(502,507)]
  exact Sj [20]
 rintro⟨v46,v47,v48,v49,v50,v51,v52,v53,v54,v55⟩ h;refine I [2,3,4] ?_ ?_<;>intro _ h
 ·refine B [2,8] fun _ x h=>?_;refine cA (((jW x).sw 0 79).sw 1 779) ?_;refine j6.ay 79 rfl ?_;exact Sr [7]
 refine S [1,2,8] ?_;refine j6.ay 28 rfl ?_;exact Sr [7]
def Gl {N a0 a1 a2 b0 r} (h:pR N a0 a1 a2 b0=some r):Spec prog 131 [] [.agg (bU a0),.int a1,.str a2,.fp (M8 b0)] (.aZ [.int r.1,.int r.2]) [] []:=by
 refine so func131 ntmps131 fun b hn=>?_;unfold pR at h;refine B [3,3] fun _ a h=>?_;refine cA (jV a) ?_;exact Sr [7]
def HA {N a0 a1 b0 b1 r} (h:pP N a0 a1 b0 b1=some r):Spec prog 132 [] [.int a0,.int a1,.fp [EL b0],.fp (M8 b1)] (.aZ [.agg (eb r.1),.bool r.2]) [] []:=by
 refine so func132 ntmps132 fun m hn=>?_;unfold pP at h;refine S [3,2,3] ?_;refine J2 fun e=>?_;refine LR e1 hn () (fun l k v=>lG N a0 a1 b1 l k) h (fun d v=>[(12,.int (d:Int))]) (fun d v=>[]) [0,1,3,6,10,11] [6] [] nl nl [6] [6] ?_ ?_ ?_
 ·intro _ g d _ h _;rw[lG] at h;exact Sj [3,2,4,0,20]
 ·intro _ g d _ j f h _ c _;rw[lG] at h;refine S [3,2,4,0,1,2,6,3] ?_;refine P9 c ?_;refine S [2] ?_;refine Jb 41 hn h [0,1,3,6,9,10,11,12] [6,9] (fun _ h g=>?_) ?_
  ·refine kd [0,1,3,6,9,10,11,12] [6,9] ?_;refine I [8] ?_ ?_<;>intro _ h
   ·refine B [0] fun _ a h=>?_;refine G6 a ?_;refine B [0] fun _ b h=>?_;refine G6 b ?_;exact F8 [0] [0] [0]
   exact Sj [0]
  intro i h;refine Ir [4] [3,7] fun _ h=>?_;refine S [1,5] ?_;refine MF (AN (M7 c e) ?_);exact le () []
 rintro⟨⟩ h;exact Sr [3,7]
def Hf {N a0 a1 a2 a3 r} (h:rM N a0 a1 a2 a3=some r):Spec prog 101 [] [.agg (M8 a0),.agg (kN a1),.int a2,EL a3] (.aZ [.agg (M8 r.1),.agg (lj r.2)]) [] []:=by
 refine so func101 ntmps101 fun c hn=>?_;unfold rM at h;refine S [3] ?_;refine j6.gh (Gh.bA 4 4 rfl rfl rfl) (fun _=>?_);refine j6.gh (Gh.bA 7 7 rfl rfl rfl) (fun _=>?_);refine kd [2,4,5,7,8,9] [5,8,9] ?_;refine B [3] fun _ b h=>?_;refine cA (G1 b (fun _ _ _ _ a=>Gl a) (fun _ _ _ a=>HA a)) ?_;exact Sr [7]
def GH {N a0 a1 a2 r} (h:rT N a0 a1 a2=some r):Spec prog 67 [(1000,.box (Y7 a0) 45)] [.ptr 1000 0,.int a1,.agg (kN a2)] (.agg (nf r.1)) [(1000,.box (Y7 r.2) 45)] []:=by
 refine so func67 ntmps67 fun m hn=>?_;unfold rT at h;refine S [3,3,2,3] ?_;refine J e0 hn h nl (fun s=>[(7,.box (lj s.2.2.2.2.2) 151),(1000,.box [N8 s.1,jO s.2.1,.int s.2.2.1,kY s.2.2.2.1,jC s.2.2.2.2.1,s5 a0.saved] 45)]) [0,6,7] [6] (fun _ h g=>?_) ?_
 ·refine S [6,3] ?_;refine Jk e0 hn h nl (fun s=>[(7,.box (lj s.2.2.2.2.2) 151),(1000,.box [N8 s.1,jO s.2.1,.int s.2.2.1,kY s.2.2.2.1,jC s.2.2.2.2.1,s5 a0.saved] 45)]) [0,6,7] [6] [] fun _ h g=>?_;refine I [4] ?_ ?_<;>intro _ h
  ·refine B [8] fun _ a h=>?_;refine cA (HL a) ?_;exact je
  refine S [3] ?_;refine Jk e0 hn h nl (fun s=>[(7,.box (lj s.2.2.2.2.2) 151),(1000,.box [N8 s.1,jO s.2.1,.int s.2.2.1,kY s.2.2.2.1,jC s.2.2.2.2.1,s5 a0.saved] 45)]) [0,6,7] [6] [] fun _ h g=>?_;refine I [4] ?_ ?_<;>intro _ h
  ·refine B [2,8] fun _ b h=>?_;refine cA (Gr b) ?_;refine kd [0,6,7,8] [6,7,8,1000] ?_;exact Sj [8]
  refine kd [0,5,6,7] [5,6,7,1000] ?_;refine B [8] fun _ c h=>?_;refine cA ((Hc c).sw 0 25) ?_;refine B [] fun _ d h=>?_;refine cF (Hf d) ?_;exact je
 rintro⟨e,f,i,j,k,l⟩ h;exact Sr [3,7]
def Eo {N a0 a1 r} (h:uA N a0 a1=some r):Spec prog 80 [(1000,.box [.np 1000,.aK 1001] 99),(1001,w5 a0)] [.ptr 1000 0,.str a1] (.aZ [.int r.1,.dj r.2.1]) [(1000,.box [.np 1000,.aK 2] 99),(2,w5 r.2.2),(1001,.aF)] [2]:=by
 refine so func80 ntmps80 fun b hn=>?_;unfold uA at h;refine rB 1000 1 1001 320 ?_;refine S [3,3] ?_;refine cA (BA 1000 320) ?_;refine A [3] fun a h=>?_;refine Ht a ?_;exact Sr [3,18,7] [(2,14)]
def Ep {N a0 a1 r} (h:uB N a0 a1=some r):Spec prog 81 [(1000,.box [.np 1000,.aK 1001] 99),(1001,w5 a0)] [.ptr 1000 0,.ik .u8 a1] (.dj r.1) [(1000,.box [.np 1000,.aK 2] 99),(2,w5 r.2),(1001,.aF)] [2]:=by
 refine so func81 ntmps81 fun b hn=>?_;unfold uB at h;refine rB 1000 1 1001 320 ?_;refine S [3,3] ?_;refine cA (BA 1000 320) ?_;refine S [3] ?_;refine bS (oJ .u8) [a1] ?_;refine A [] fun a h=>?_;refine aM a ?_;exact Sr [3,7] [(2,14)]
def uD {N a0 a1 r} (h:ku N a0 a1=some r):Spec prog 46 [(1000,.box [.np 1000,.aK 1001] 99),(1001,w5 a0)] [.ptr 1000 0,.str a1] (.aZ []) [(1000,.box [.np 1000,.aK 2] 99),(2,w5 r),(1001,.aF)] [2]:=by
 refine so func46 ntmps46 fun c hn=>?_;unfold ku at h;refine rB 1000 1 1001 320 ?_;refine B [15,3] fun _ a h=>?_;refine cA (((Eo a).sw 1001 320).sw 2 501) ?_;refine B [5] fun _ b h=>?_;refine cA (((Ep b).sw 1001 501).sw 2 502) ?_;exact Sr [14] [(2,502)]
def mV {N a0 a1 r} (h:V3 N a0 a1=some r):Spec prog 45 [(1000,.box [.np 1000,.aK 1001] 99),(1001,w5 a0),(2000,GL)] [.ptr 1000 0,s3 a1] (.aZ []) [(1000,.box [.np 1000,.aK 2] 99),(2,w5 r),(1001,.aF),(2000,GL)] [2]:=by
 refine so func45 ntmps45 fun o hn=>?_;unfold V3 at h;refine rB 1000 1 1001 320 ?_;refine S [15,3] ?_;refine J2 fun e=>?_;refine LR e0 hn a0 (fun l k v=>Y8 N l k v) h (fun d v=>[(8,.int (d:Int))]) (fun d v=>[(320,w5 v)]) [0,6,7] [1000,1001,2000] [] nl (fun s=>[(320,w5 s)]) [0] [1000,1001,2000] ?_ ?_ ?_
 ·intro _ g d j h _;rw[Y8] at h;exact Sj [3,2,4,0,20]
 ·intro _ g d j m i h _ a _;rw[Y8] at h;refine S [3,2,4,0,1,2,6,3] ?_;refine P9 a ?_;refine B [5] fun _ b h=>?_;refine cA (zj N _ _ b) ?_;refine B [] fun f c h=>?_;refine cA (((uD c).sw 1001 320).sw 2 501) ?_;refine S [5] ?_;refine MF (AN (M7 a e) ?_);exact le f [(320,501)]
 intro n h;exact Sr [14] [(2,320)]
def FQ {N a0 a1 r} (h:r8 N a0 a1=some r):Spec prog 47 [(1000,.box [.np 1000,.aK 1001] 99),(1001,w5 a0),(2000,GL)] [.ptr 1000 0,.fp (G9 a1)] (.aZ []) [(1000,.box [.np 1000,.aK 2] 99),(2,w5 r),(1001,.aF),(2000,GL)] [2]:=by
 refine so func47 ntmps47 fun u hn=>?_;unfold r8 at h;refine rB 1000 1 1001 320 ?_;refine B [15,3] fun _ m h=>?_;refine cA (((uD m).sw 1001 320).sw 2 501) ?_;refine S [2] ?_;refine kd [0,1] [501,1000,1001,2000] ?_;refine S [8,13] ?_;refine bS cE [a1.args,a1.a8,a1.aV,(a1.code.length:Int)] ?_;refine B [] fun p n h=>?_;refine cF (((mV n).sw 1001 501).sw 2 502) ?_;refine kd [0,1] [502,1000,1001,2000] ?_;refine S [3] ?_;refine J2 fun j=>?_;refine LR e0 hn p (fun l k v=>V6 N l k v) h (fun f v=>[(37,.int (f:Int))]) (fun f v=>[(502,w5 v)]) [0,35,36] [1000,1001,2000] [] nl (fun s=>[(502,w5 s)]) [0] [1000,1001,2000] ?_ ?_ ?_
 ·intro _ g f t h _;rw[V6] at h;exact Sj [3,2,4,0,20]
 ·intro _ g f t e i h _ b _;rw[V6] at h;refine S [3,2,4,0,1,2] ?_;refine J e0 hn h nl (fun s=>[(504,w5 s),(1000,.box [.np 1000,.aK 504] 99)]) [0,35,36,37] [1001,2000] (fun _ h g=>?_) ?_
  ·refine S [6,3] ?_;refine P9 b ?_;refine S [3] ?_;refine bS cE [e.op,e.a] ?_;refine B [] fun _ c h=>?_;refine cF (((mV c).sw 1001 502).sw 2 503) ?_;refine S [3] ?_;refine Jk e0 hn h nl (fun s=>[(504,w5 s),(1000,.box [.np 1000,.aK 504] 99)]) [0,35,36,37] [1001,2000] [] fun _ h g=>?_;refine I [4] ?_ ?_<;>intro _ h
   ·refine kd [0,5,35,36,37] [5,503,1000,1001,2000] ?_;refine B [5] fun _ d h=>?_;refine cA (((uD d).sw 1001 503).sw 2 504) ?_;exact je
   exact Sj [1] [(504,503)]
  intro o h;refine S [5] ?_;refine MF (AN (M7 b j) ?_);exact le o [(502,504)]
 intro q h;exact Sr [14] [(2,502)]
def Gf {N a0 r} (h:pN N a0=some r):Spec prog 22 [(2000,GL)] [.agg (M8 a0)] (s5 r) [(2000,GL)] []:=by
 refine so func22 ntmps22 fun Γ hn=>?_;unfold pN at h;refine S [3,3] ?_;refine j6.e7 13 [.np 13,.aJ] rfl aT ?_;refine nB 13 1 501 1 5 ?_;refine kd [1,3] [1,13,501,2000] ?_;refine S [3,13] ?_;refine bS cE [a0.aC,(a0.a7.length:Int)] ?_;refine B [] fun Y K h=>?_;refine cF ((((mV K).sw 1000 13).sw 1001 501).sw 2 502) ?_;refine S [2,3] ?_;refine J2 fun J=>?_;refine LR e0 hn Y (fun l k v=>lF N l k v) h (fun E v=>[(25,.int (E:Int))]) (fun E v=>[(502,w5 v)]) [1,3,23,24] [1,13,2000] [] nl (fun s=>[(502,w5 s)]) [1,3] [1,13,2000] ?_ ?_ ?_
 ·intro _ g E Z h _;rw[lF] at h;exact Sj [3,2,4,0,20]
 ·intro _ g E Z j F h _ d _;rw[lF] at h;refine S [3,2,4,0,1,2,6,3] ?_;refine P9 d ?_;refine B [3] fun _ t h=>?_;refine cA ((((uD t).sw 1000 13).sw 1001 502).sw 2 503) ?_;refine S [3,13] ?_;refine bS cE [j.aQ,j.aG,(j.aB.length:Int)] ?_;refine B [] fun L u h=>?_;refine cF ((((mV u).sw 1000 13).sw 1001 503).sw 2 504) ?_;refine kd [1,3,5,23,24,25] [1,5,13,504,2000] ?_;refine S [3] ?_;refine J2 fun o=>?_;refine LR e0 hn L (fun l k v=>lD N l k v) h (fun a v=>[(46,.int (a:Int))]) (fun a v=>[(504,w5 v)]) [1,3,23,24,25,44,45] [1,13,2000] [] nl (fun s=>[(504,w5 s)]) [1,3,23,24,25] [1,13,2000] ?_ ?_ ?_
  ·intro _ g a R h _;rw[lD] at h;exact Sj [3,2,4,0,20]
  ·intro _ g a R x30 G h _ e _;rw[lD] at h;refine S [3,2,4,0,1,2,6,3] ?_;refine P9 e ?_;refine j6.gh (Gh.bA 7 7 rfl rfl rfl) (fun _=>?_);refine kd [1,3,7,23,24,25,44,45,46] [1,13,504,2000] ?_;refine B [5] fun M w h=>?_;refine cA ((((FQ w).sw 1000 13).sw 1001 504).sw 2 505) ?_;refine S [5] ?_;refine MF (AN (M7 e o) ?_);exact le M [(504,505)]
  intro T h;refine S [5] ?_;refine MF (AN (M7 d J) ?_);exact le T [(502,504)]
 intro v8 h;refine S [3,13] ?_;refine bS cE [(a0.heap.length:Int)] ?_;refine B [] fun O x h=>?_;refine cF ((((mV x).sw 1000 13).sw 1001 502).sw 2 506) ?_;refine S [2,3] ?_;refine J2 fun p=>?_;refine LR e0 hn O (fun l k v=>lE N l k v) h (fun b v=>[(63,.int (b:Int))]) (fun b v=>[(506,w5 v)]) [3,61,62] [13,2000] [] nl (fun s=>[(506,w5 s)]) [3] [13,2000] ?_ ?_ ?_
 ·intro _ g b U h _;rw[lE] at h;exact Sj [3,2,4,0,20]
 ·intro _ g b U C H h _ f _;rw[lE] at h;refine S [3,2,4,0,1,2,6,3] ?_;refine P9 f ?_;refine S [3,13] ?_;refine bS cE [C.cls,(C.aG.length:Int)] ?_;refine B [] fun P y h=>?_;refine cF ((((mV y).sw 1000 13).sw 1001 506).sw 2 507) ?_;refine S [3] ?_;refine J2 fun q=>?_;refine LR e0 hn P (fun l k v=>lI N l k v) h (fun c v=>[(78,.int (c:Int))]) (fun c v=>[(507,w5 v)]) [3,61,62,63,76,77] [13,2000] [] nl (fun s=>[(507,w5 s)]) [3,61,62,63] [13,2000] ?_ ?_ ?_
  ·intro _ g c W h _;rw[lI] at h;exact Sj [3,2,4,0,20]
  ·intro _ g c W D I h _ i _;rw[lI] at h;refine S [3,2,4,0,1,2,6,3] ?_;refine P9 i ?_;refine S [5] ?_;refine bS cE [D.k,D.n] ?_;refine B [] fun Q z h=>?_;refine cF ((((mV z).sw 1000 13).sw 1001 507).sw 2 508) ?_;refine kd [3,61,62,63,76,77,78] [13,508,2000] ?_;refine S [5] ?_;refine MF (AN (M7 i q) ?_);exact le Q [(507,508)]
  intro X h;refine S [5] ?_;refine MF (AN (M7 f p) ?_);exact le X [(506,507)]
 intro V h;refine A [3] fun m h=>?_;refine cA (Fw V 13 506 m) ?_;exact Sr [7]
def uE {N a0 r} (h:Q0 N a0=some r):Spec prog 85 [(1000,.box (W9 a0) 107),(2000,GL)] [.ptr 1000 0] (.str r.1) [(1000,.box (W9 r.2) 107),(2000,GL)] []:=by
 refine so func85 ntmps85 fun c hn=>?_;unfold Q0 at h;refine B [3,3] fun _ a h=>?_;refine cA (Ga N _ _ _ a) ?_;refine S [2,2] ?_;refine Jb 20 hn h [0,3,4] [1000,2000] (fun _ h g=>?_) ?_
 ·exact F8 [5] [0] [0]
 intro b h;exact ia [4] [3,3,7] [1,3,3,7]
def L8 {N a0 r} (h:p9 N a0=some r):Spec prog 83 [(1000,.box (W9 a0) 107),(2000,GL)] [.ptr 1000 0] (.int r.1) [(1000,.box (W9 r.2) 107),(2000,GL)] []:=by
 refine so func83 ntmps83 fun f hn=>?_;unfold p9 at h;refine B [3,3] fun _ a h=>?_;refine cA (uE a) ?_;refine B [3] fun _ b h=>?_;refine cA (strconv_Atoi_ok N _ _ b) ?_;refine S [2,2] ?_;refine Jb 20 hn h [0,4] [1000,2000] (fun _ h g=>?_) ?_
 ·refine Ij [5,10] [0] fun _ h=>?_;refine B [0] fun _ c h=>?_;refine cA (zj N _ _ c) ?_;exact Sj [0]
 intro e h;refine J e0 hn h nl (fun s=>[(1000,.box (W9 s) 107)]) [0,4] [2000] (fun _ h g=>?_) ?_
 ·exact F8 [4] [5] [1]
 intro d h;exact Sr [3,7]
def qw {N a0 a1 r} (h:K9 N a0 a1=some r):Spec prog 84 [(1000,.box (W9 a0) 107),(2000,GL)] [.ptr 1000 0,.int a1] (.int r.1) [(1000,.box (W9 r.2) 107),(2000,GL)] []:=by
 refine so func84 ntmps84 fun c hn=>?_;unfold K9 at h;refine B [3,3] fun _ a h=>?_;refine cA (L8 a) ?_;refine S [2,2] ?_;refine Jb 14 hn h [0,5] [1000,2000] (fun _ h g=>?_) ?_
 ·exact F8 [5] [0] [0]
 intro b h;exact ia [4] [3,3,7] [1,3,7]
def FT {N a0 r} (h:mc N a0=some r):Spec prog 86 [(1000,.box (W9 a0) 107),(2000,GL)] [.ptr 1000 0] (.agg (G9 r.1)) [(1000,.box (W9 r.2) 107),(2000,GL)] []:=by
 refine so func86 ntmps86 fun F hn=>?_;unfold mc at h;refine B [3,3] fun _ q h=>?_;refine cA (uE q) ?_;refine B [] fun _ t h=>?_;refine cA (L8 t) ?_;refine B [] fun _ u h=>?_;refine cA (L8 u) ?_;refine B [] fun _ w h=>?_;refine cA (L8 w) ?_;refine B [2,3] fun C i h=>?_;refine cA (qw i) ?_;refine nB 3 4 501 5 55 ?_;refine j6.cK 15 rfl (fun c=>?_);refine LU e0 hn (C.2,([]:List Ins)) (fun l k v=>P5 N l k v.1 v.2) h (fun a v=>[(16,.int (a:Int))]) (fun a v=>[(501,cQ v.2),(1000,.box (W9 v.1) 107)]) [0,2,3,15] [2,3,2000] [] nl (fun s=>[(501,cQ s.2),(1000,.box (W9 s.1) 107)]) [0,2,3] [2,3,2000] ?_ ?_ ?_
 ·rintro _ g a ⟨x,o⟩ h _;rw[P5] at h;exact Sj [3,2,4,0,20]
 ·rintro _ g a ⟨x,o⟩ z h b _;rw[P5] at h;refine B [3,2,4,0,1,2,6,3] fun d j h=>?_;refine cA (L8 j) ?_;refine B [] fun e m h=>?_;refine cA (L8 m) ?_;refine S [2,3] ?_;refine J e0 hn h nl (fun s=>[(4,.box [.int d.1,.int e.1,.int (0:Int),.int (0:Int),.str s.2] 55),(1000,.box (W9 s.1) 107)]) [0,2,3,4,15,16] [2,3,501,2000] (fun _ h g=>?_) ?_
  ·refine I [4] ?_ ?_<;>intro _ h
   ·refine B [5] fun _ n h=>?_;refine cA (uE n) ?_;exact je
   exact Sj [1]
  rintro⟨y,p⟩ h;refine S [5] ?_;refine bS bd [(⟨d.1,e.1,(0:Int),(0:Int),p⟩:Ins)] ?_;refine A [] fun f h=>?_;refine aM f ?_;refine S [5] ?_;refine MF (AN (jc b c) ?_);exact le (y,(o++[(⟨d.1,e.1,(0:Int),(0:Int),p⟩:Ins)])) [(501,33)]
 rintro⟨D,E⟩ h;refine S [3] ?_;refine j6.ar 501 rfl ?_;exact Sr [7]
def FX {N a0 r} (h:r9 N a0=some r):Spec prog 51 [(1000,.box (W9 a0) 107),(2000,GL)] [.ptr 1000 0] (.agg (M8 r.1)) [(1000,.box (W9 r.2) 107),(2000,GL)] []:=by
 refine so func51 ntmps51 fun Γ hn=>?_;unfold r9 at h;refine B [3,3] fun _ Y h=>?_;refine cA (L8 Y) ?_;refine B [2,3] fun r3 Z h=>?_;refine cA (qw Z) ?_;refine nB 3 0 501 4 81 ?_;refine j6.cK 10 rfl (fun J=>?_);refine LU e0 hn (r3.2,([]:List Cl)) (fun l k v=>R7 N l k v.1 v.2) h (fun X v=>[(11,.int (X:Int))]) (fun X v=>[(501,oc v.2),(1000,.box (W9 v.1) 107)]) [0,2,3,10] [2,3,2000] [] nl (fun s=>[(501,oc s.2),(1000,.box (W9 s.1) 107)]) [0,2,3] [2,3,2000] ?_ ?_ ?_
 ·rintro _ g X ⟨v6,v7⟩ h _;rw[R7] at h;exact Sj [3,2,4,0,20]
 ·rintro _ g X ⟨v6,v7⟩ n15 h d _;rw[R7] at h;refine B [3,2,4,0,1,2,6,3] fun K x h=>?_;refine cA (uE x) ?_;refine B [] fun L y h=>?_;refine cA (L8 y) ?_;refine B [] fun M z h=>?_;refine cA (L8 z) ?_;refine B [2,3] fun r25 C h=>?_;refine cA (qw C) ?_;refine nB 4 3 502 5 27 ?_;refine j6.cK 21 rfl (fun j=>?_);refine LU e0 hn (r25.2,([]:List Me)) (fun l k v=>K8 N l k v.1 v.2) h (fun a v=>[(22,.int (a:Int))]) (fun a v=>[(502,km v.2),(1000,.box (W9 v.1) 107)]) [0,2,3,4,10,11,21] [2,3,4,501,2000] [] nl (fun s=>[(502,km s.2),(1000,.box (W9 s.1) 107)]) [0,2,3,4,10,11] [2,3,4,501,2000] ?_ ?_ ?_
  ·rintro _ g a ⟨v28,Q⟩ h _;rw[K8] at h;exact Sj [3,2,4,0,20]
  ·rintro _ g a ⟨v28,Q⟩ n37 h e _;rw[K8] at h;refine B [3,2,4,0,1,2,6,8] fun o D h=>?_;refine cA (FT D) ?_;refine bS G9 [o.1] ?_;refine A [] fun q h=>?_;refine aM q ?_;refine S [5] ?_;refine MF (AN (jc e j) ?_);exact le (o.2,(Q++[o.1])) [(502,29)]
  rintro⟨v32,R⟩ h;refine S [5,12] ?_;refine bS fI [(⟨K.1,L.1,M.1,R⟩:Cl)] ?_;refine A [] fun t h=>?_;refine aM t ?_;refine S [5] ?_;refine MF (AN (jc d J) ?_);exact le (v32,(v7++[(⟨K.1,L.1,M.1,R⟩:Cl)])) [(501,36)]
 rintro⟨v10,v11⟩ h;refine B [2,3] fun r45 E h=>?_;refine cA (qw E) ?_;refine nB 3 1 503 2 92 ?_;refine j6.cK 40 rfl (fun m=>?_);refine LU e0 hn (r45.2,([]:List Ob)) (fun l k v=>R4 N l k v.1 v.2) h (fun b v=>[(41,.int (b:Int))]) (fun b v=>[(503,EY v.2),(1000,.box (W9 v.1) 107)]) [0,2,3,40] [2,3,501,2000] [] nl (fun s=>[(503,EY s.2),(1000,.box (W9 s.1) 107)]) [0,2,3] [2,3,501,2000] ?_ ?_ ?_
 ·rintro _ g b ⟨v48,T⟩ h _;rw[R4] at h;exact Sj [3,2,4,0,20]
 ·rintro _ g b ⟨v48,T⟩ n57 h f _;rw[R4] at h;refine B [3,2,4,0,1,2,6,3] fun O F h=>?_;refine cA (L8 F) ?_;refine B [2,3] fun r63 G h=>?_;refine cA (qw G) ?_;refine nB 5 1 504 2 29 ?_;refine j6.cK 47 rfl (fun n=>?_);refine LU e0 hn (r63.2,([]:List V)) (fun l k v=>K6 N l k v.1 v.2) h (fun c v=>[(48,.int (c:Int))]) (fun c v=>[(504,iZ v.2),(1000,.box (W9 v.1) 107)]) [0,2,3,5,40,41,47] [2,3,5,501,503,2000] [] nl (fun s=>[(504,iZ s.2),(1000,.box (W9 s.1) 107)]) [0,2,3,5,40,41] [2,3,5,501,503,2000] ?_ ?_ ?_
  ·rintro _ g c ⟨v66,U⟩ h _;rw[K6] at h;exact Sj [3,2,4,0,20]
  ·rintro _ g c ⟨v66,U⟩ n75 h i _;rw[K6] at h;refine B [3,2,4,0,1,2,6,8] fun P H h=>?_;refine cA (L8 H) ?_;refine B [] fun p I h=>?_;refine cA (L8 I) ?_;refine bS eV [(⟨P.1,p.1⟩:V)] ?_;refine A [] fun u h=>?_;refine aM u ?_;refine kd [0,2,3,5,40,41,47,48] [2,3,5,58,501,503,1000,2000] ?_;refine S [5] ?_;refine MF (AN (jc i n) ?_);exact le (p.2,(U++[(⟨P.1,p.1⟩:V)])) [(504,58)]
  rintro⟨v70,W⟩ h;refine S [5,12] ?_;refine bS hF [(⟨O.1,W⟩:Ob)] ?_;refine A [] fun w h=>?_;refine aM w ?_;refine S [5] ?_;refine MF (AN (jc f m) ?_);exact le (v70,(T++[(⟨O.1,W⟩:Ob)])) [(503,65)]
 rintro⟨v52,v53⟩ h;refine S [3] ?_;refine j6.ar 501 rfl ?_;refine j6.ar 503 rfl ?_;exact Sr [7]
def HQ {N a0 a1 r} (h:pf N a0 a1=some r):Spec prog 38 [] [.fp (M8 a0),.fp (G9 a1)] (.bool r) [] []:=by
 refine so func38 ntmps38 fun e hn=>?_;unfold pf at h;refine B [3,2,8] fun _ a h=>?_;refine cA (jV a) ?_;refine S [2] ?_;refine Jb 4 hn h [] [] (fun _ h g=>?_) ?_
 ·refine kd [0,1,6] [] ?_;refine I [8] ?_ ?_<;>intro _ h
  ·refine B [0] fun _ b h=>?_;refine G6 b ?_;refine B [0] fun _ c h=>?_;refine G6 c ?_;refine I [0] ?_ ?_<;>intro _ h
   ·refine I [0] ?_ ?_<;>intro _ h
    ·exact F8 [0] [0,13,0] [0]
    exact Sj [0]
   exact Sj [0]
  exact Sj [0]
 intro d h;exact Sr [7]
def HD {N a0 r} (h:uS N a0=some r):Spec prog 40 [] [.fp (M8 a0)] (.int r) [] []:=by
 refine so func40 ntmps40 fun t hn=>?_;unfold uS at h;refine S [3,2,3] ?_;refine J2 fun n=>?_;refine LR e1 hn () (fun l k v=>nH N a0 l k) h (fun j v=>[(13,.int (j:Int))]) (fun j v=>[]) [0,11,12] [] [] nl nl [] [] ?_ ?_ ?_
 ·intro _ g j _ h _;rw[nH] at h;exact Sj [3,2,4,0,20]
 ·intro _ g j _ s o h _ i _;rw[nH] at h;refine S [3,2,4,0,1,2,6,3] ?_;refine P9 i ?_;refine S [2,2] ?_;refine Jb 46 hn h [0,4,11,12,13] [4] (fun _ h g=>?_) ?_
  ·refine kd [0,4,11,12,13] [4] ?_;refine I [8] ?_ ?_<;>intro _ h
   ·refine Ij [0] [0] fun _ h=>?_;refine Ij [0,13,0] [0] fun _ h=>?_;refine B [0,13,0] fun _ d h=>?_;refine cA (mq d) ?_;exact Sj [0]
   refine B [0,13] fun _ e h=>?_;refine cA (mq e) ?_;exact je
  intro p h;refine Ir [4] [3,7] fun _ h=>?_;refine S [1,3] ?_;refine J2 fun c=>?_;refine LR e1 hn () (fun l k v=>nM N a0 l k) h (fun a v=>[(50,.int (a:Int))]) (fun a v=>[]) [0,11,12,13,48,49] [] [] nl nl [0,11,12,13] [] ?_ ?_ ?_
  ·intro _ g a _ h _;rw[nM] at h;exact Sj [3,2,4,0,20]
  ·intro _ g a _ q m h _ b _;rw[nM] at h;refine S [3,2,4,0,1,2,6,3] ?_;refine P9 b ?_;refine B [2,8,13] fun _ f h=>?_;refine cA (Ac f) ?_;refine kd [0,7,11,12,13,48,49,50] [] ?_;refine Ir [3,4] [3,7] fun _ h=>?_;refine S [1,5] ?_;refine MF (AN (M7 b c) ?_);exact le () []
  rintro⟨⟩ h;refine S [5] ?_;refine MF (AN (M7 i n) ?_);exact le () []
 rintro⟨⟩ h;exact Sr [3,7]
def Gx {N a0 r} (h:pS N a0=some r):Spec prog 20 [] [.agg (M8 a0)] (.int r) [] []:=by
 refine so func20 ntmps20 fun T hn=>?_;unfold pS at h;refine B [3,3] fun F E h=>?_;refine cA (BF N _ E) ?_;refine S [2,2] ?_;refine Jb 31 hn h [1,3] [1,3] (fun _ h g=>?_) ?_
 ·refine Ij [5,13,13] [0] fun _ h=>?_;exact F8 [0,13,0] [0] [0,13,0]
 intro R h;refine Ir [4] [3,7] fun _ h=>?_;refine S [1,2,2] ?_;refine Jb 39 hn h [1,3] [1,3] (fun _ h g=>?_) ?_
 ·exact F8 [5] [0] [0]
 intro K h;refine Ir [4] [3,7] fun _ h=>?_;refine S [1,3,2,3] ?_;refine J2 fun o=>?_;refine LR e1 hn ([]:(List (ByteArray×Bool))) (fun l k v=>my N F l k v) h (fun b v=>[(44,.int (b:Int))]) (fun b v=>[(40,.bc (MJ mD v))]) [1,3,4,42,43] [1,3] [] nl nl [1,3] [1,3] ?_ ?_ ?_
 ·intro _ g b y h _;rw[my] at h;exact Sj [3,2,4,0,20]
 ·intro _ g b y G z h _ d _;rw[my] at h;refine S [3,2,4,0,1,2,6,3] ?_;refine P9 d ?_;refine S [2,2] ?_;refine Jb 76 hn h [1,3,4,5,6,42,43,44] [1,3,6,40] (fun _ h g=>?_) ?_
  ·refine kd [1,3,4,5,6,42,43,44] [1,3,6,40] ?_;refine B [8] fun _ s h=>?_;refine cA (qp s) ?_;refine Ij [] [0] fun _ h=>?_;refine S [0] ?_;refine La rfl rfl rfl rfl ?_;refine Ij [0] [0] fun _ h=>?_;refine I [0,13,0] ?_ ?_<;>intro _ h
   ·refine B [0] fun _ u h=>?_;refine G6 u ?_;exact Sj [0]
   exact Sj [0]
  intro L h;refine Ir [4] [3,7] fun _ h=>?_;refine A [1,3] fun n h=>?_;refine Hl rfl rfl n ?_;refine S [2] ?_;refine Jb 138 hn h [1,3,4,42,43,44] [1,3,40] (fun _ h g=>?_) ?_
  ·refine kd [1,3,4,5,6,42,43,44] [1,3,6,40] ?_;refine I [8,13] ?_ ?_<;>intro _ h
   ·refine B [0] fun _ w h=>?_;refine G6 w ?_;refine Ij [0] [0] fun _ h=>?_;refine Ij [0] [0] fun _ h=>?_;refine I [0,13,0] ?_ ?_<;>intro _ h
    ·refine Ij [0] [0] fun _ h=>?_;refine Ij [0] [0] fun _ h=>?_;refine I [0] ?_ ?_<;>intro _ h
     ·refine Ij [0] [0] fun _ h=>?_;exact F8 [0] [0] [0]
     exact F8 [0] [0] [0]
    exact F8 [0] [0] [0]
   refine I [0,13] ?_ ?_<;>intro _ h
   ·refine Ij [0] [0] fun _ h=>?_;refine Ij [0] [0] fun _ h=>?_;refine I [0] ?_ ?_<;>intro _ h
    ·refine Ij [0] [0] fun _ h=>?_;exact F8 [0] [0] [0]
    exact F8 [0] [0] [0]
   exact F8 [0] [0] [0]
  intro M h;refine Ir [4] [3,7] fun _ h=>?_;refine S [1,5] ?_;refine MF (AN (M7 d o) ?_);exact le (eM G.name true y) []
 rintro⟨⟩ h;refine S [2,3] ?_;refine J2 fun p=>?_;refine j6.gh (Gh.bA 3 3 rfl rfl rfl) (fun _=>?_);refine LR e1 hn () (fun l k v=>n5 N a0 F l k) h (fun a v=>[(143,.int (a:Int))]) (fun a v=>[]) [1,3,141,142] [1] [] nl nl [1] [1] ?_ ?_ ?_
 ·intro _ g a _ h _;rw[n5] at h;exact Sj [3,2,4,0,20]
 ·intro _ g a _ H C h _ e _;rw[n5] at h;refine S [3,2,4,0,1,2,6,3] ?_;refine P9 e ?_;refine B [2,3] fun _ t h=>?_;refine cA (mq t) ?_;refine Ir [4] [3,7] fun _ h=>?_;refine I [1,2,3,13,4] ?_ ?_<;>intro _ h
  ·refine kd [] [] ?_;exact Sr [3,7]
  refine S [1] ?_;refine kd [1,3,7,8,141,142,143] [1,8] ?_;refine S [3] ?_;refine J2 fun q=>?_;refine LR e1 hn () (fun l k v=>nE N a0 F a H l k) h (fun c v=>[(159,.int (c:Int))]) (fun c v=>[]) [1,3,7,8,141,142,143,157,158] [1,8] [] nl nl [1,3,141,142,143] [1] ?_ ?_ ?_
  ·intro _ g c _ h _;rw[nE] at h;exact Sj [3,2,4,0,20]
  ·intro _ g c _ Q D h _ f _;rw[nE] at h;refine S [3,2,4,0,1,2] ?_;refine J e1 hn h nl nl [1,3,7,8,141,142,143,157,158,159] [1,8] (fun _ h g=>?_) ?_
   ·refine S [6,3] ?_;refine P9 f ?_;refine S [2,2] ?_;refine Jb 177 hn h [1,3,7,8,10,141,142,143,157,158,159] [1,8,10] (fun _ h g=>?_) ?_
    ·refine I [8] ?_ ?_<;>intro _ h
     ·refine B [0,12,0] fun _ x h=>?_;refine G6 x ?_;exact Sj [0]
     exact Sj [0]
    intro O h;refine Ir [4] [3,7] fun _ h=>?_;refine S [1,2,2] ?_;refine j6.gh (Gh.bA 10 10 rfl rfl rfl) (fun _=>?_);refine Jb 187 hn h [1,3,7,8,10,141,142,143,157,158,159] [1,8] (fun _ h g=>?_) ?_
    ·refine I [5] ?_ ?_<;>intro _ h
     ·refine I [0] ?_ ?_<;>intro _ h
      ·refine B [] fun _ i h=>?_;refine cA (HQ i) ?_;exact Sj [0]
      exact Sj [0]
     exact Sj [0]
    intro P h;refine Ij [4] [20] fun _ h=>?_;refine B [1,3] fun _ j h=>?_;refine cA (B3 j) ?_;refine kd [1,3,7,8,11,141,142,143,157,158,159] [1,8,11] ?_;refine Ir [3,4] [3,7] fun _ h=>?_;exact Sj [1]
   rintro⟨⟩ h;refine S [5] ?_;refine MF (AN (M7 f q) ?_);exact le () []
  rintro⟨⟩ h;refine S [5] ?_;refine MF (AN (M7 e p) ?_);exact le () []
 rintro⟨⟩ h;refine j6.gh (Gh.bA 1 1 rfl rfl rfl) (fun _=>?_);refine kd [1] [] ?_;refine B [3] fun _ m h=>?_;refine cA (HD m) ?_;exact Sr [7]
def Ge {N a0 r} (h:lT N a0=some r):Spec prog 24 [(2000,GL)] [s5 a0] (.aZ [.agg (M8 r.1),.int r.2]) [(2000,GL)] []:=by
 refine so func24 ntmps24 fun d hn=>?_;unfold lT at h;refine S [3,3] ?_;refine Exists.intro a0 (AN rfl ?_);refine B [3] fun _ a h=>?_;refine cA ((FX a).sw 1000 10) ?_;refine S [2,2] ?_;refine Jb 24 hn h [2,5] [2,5,2000] (fun _ h g=>?_) ?_
 ·exact F8 [5] [0] [0]
 intro c h;refine Ir [4] [3,7] fun _ h=>?_;refine B [1,2,3] fun _ b h=>?_;refine cA (Gx b) ?_;exact ia [3,4] [3,7] [1,3,7]
def FB {N a0 r} (h:ui N a0=some r):Spec prog 68 [(1000,.box (Y7 a0) 45),(2000,GL)] [.ptr 1000 0] (.agg (nf r.1)) [(1000,.box (Y7 r.2) 45),(2000,GL)] []:=by
 refine so func68 ntmps68 fun b hn=>?_;unfold ui at h;refine Ir [3,2,3,13,4] [3,7] fun _ h=>?_;refine B [1,3] fun _ a h=>?_;refine cA (Ge a) ?_;refine S [2] ?_;refine kd [0,2,3,4] [2,3,1000,2000] ?_;refine Ir [3,4] [3,7] fun _ h=>?_;refine S [1,2,8,12,3] ?_;refine kd [0,2] [2,1000,2000] ?_;exact Sr [3,7]
def wb {N a0 a1 r} (h:mS N a0 a1=some r):Spec prog 33 [(2000,GL)] [.agg (Y7 a0),.agg (tF a1)] (.aZ [.agg (Y7 r.1),.agg (nf r.2)]) [(2000,GL)] []:=by
 refine so func33 ntmps33 fun k hn=>?_;unfold mS at h;refine B [3,3] fun _ e h=>?_;refine cA (Ag e) ?_;refine I [2,3,6,3,4] ?_ ?_<;>intro _ h
 ·refine B [3] fun _ f h=>?_;refine cA (H3 f) ?_;refine S [2] ?_;refine kd [4,5,6,7,8,9] [4,5,6,7,2000] ?_;exact ia [3,4] [3,7] [1,3,3,7]
 refine I [3,4] ?_ ?_<;>intro _ h
 ·refine B [3] fun _ i h=>?_;refine cA ((Fu i).sw 1000 6) ?_;refine S [2] ?_;refine kd [4,5,6,10] [4,5,6,10,2000] ?_;exact Sr [8,7]
 refine I [3,4] ?_ ?_<;>intro _ h
 ·refine kd [3,4,5,6] [3,4,5,6,2000] ?_;refine B [3] fun _ a h=>?_;refine cA ((FA a).sw 1000 6) ?_;exact Sr [2,8,7]
 refine S [2] ?_;refine kd [2,3,4,5,6,17] [2,3,4,5,6,2000] ?_;refine S [3] ?_;refine Jb 59 hn h [2,3,4,5,6,17] [2,3,4,5,6,2000] (fun _ h g=>?_) ?_
 ·refine Ij [4] [1] fun _ h=>?_;refine S [3] ?_;refine eA 59 hn h [2,3,4,5,6,17] [2,3,4,5,6,2000] [] fun _ h g=>?_;exact F8 [4] [1] [5]
 intro j h;refine I [4] ?_ ?_<;>intro _ h
 ·refine B [3] fun _ b h=>?_;refine cA ((GH b).sw 1000 6) ?_;exact Sr [2,8,7]
 refine I [3,4] ?_ ?_<;>intro _ h
 ·refine B [3] fun _ c h=>?_;refine cA (Gf c) ?_;exact Sr [2,8,13,7]
 refine I [3,4] ?_ ?_<;>intro _ h
 ·refine B [3] fun _ d h=>?_;refine cA ((FB d).sw 1000 6) ?_;exact Sr [2,8,7]
 exact Sr [1,3,7]
def GK {N a0 r} (h:wD N a0=some r):Spec prog 17 [(2000,GL)] [EX a0] (.aZ [.agg (Y7 r.1),.aK 0,.int r.2.2]) [(0,zP r.2.1),(2000,GL)] [0]:=by
 refine so func17 ntmps17 fun u hn=>?_;unfold wD at h;refine I [3,2,3,13,4] ?_ ?_<;>intro _ h
 ·refine S [3] ?_;refine nR 3 203 4 51 ?_;exact Sr [7] [(0,203)]
 refine B [1,3] fun n j h=>?_;refine cA (wT j) ?_;refine S [3,2,3] ?_;refine J2 fun i=>?_;refine nR 6 206 4 51 ?_;refine LR e0 hn (n,([]:List fZ)) (fun l k v=>rE N l k v.1 v.2) h (fun e v=>[(18,.int (e:Int))]) (fun e v=>[(5,.box (Y7 v.1) 45),(206,zP v.2)]) [2,5,6,16,17] [2,2000] [] nl (fun s=>[(5,.box (Y7 s.1) 45),(206,zP s.2)]) [2,5,6] [2,2000] ?_ ?_ ?_
 ·rintro _ g e ⟨q,m⟩ h _;rw[rE] at h;exact Sj [3,2,4,0,20]
 ·rintro _ g e ⟨q,m⟩ t f h _ a _;rw[rE] at h;refine S [3,2,4,0,1,2,6,3] ?_;refine P9 a ?_;refine B [3] fun b d h=>?_;refine cA (wb d) ?_;refine kd [2,5,6,9,10,16,17,18] [2,5,9,10,206,2000] ?_;refine S [3,5] ?_;refine bS nf [b.2] ?_;refine A [] fun c h=>?_;refine aM c ?_;refine S [5] ?_;refine MF (AN (M7 a i) ?_);exact le (b.1,(m++[b.2])) [(206,32)]
 rintro⟨o,p⟩ h;exact Sr [3,7] [(0,206)]
def wV {N a0 r} (h:nO N a0=some r):Spec prog 41 [] [.str a0] (.bool r) [] []:=by
 refine so func41 ntmps41 fun j hn=>?_;unfold nO at h;refine S [3,2,3,18] ?_;refine j6.cK 5 rfl (fun b=>?_);refine LU e1 hn () (fun l k v=>mv N a0 l k) h (fun e v=>[(6,.int (e:Int))]) (fun e v=>[]) [0,5] [] [] nl nl [0] [] ?_ ?_ ?_
 ·intro _ g e _ h _;rw[mv] at h;exact Sj [3,2,4,0,20]
 ·intro _ g e _ n6 h a _;rw[mv] at h;refine S [3,2,4,0,1,2,6,3,2] ?_;refine Jb 18 hn h [0,5,6] [] (fun _ h g=>?_) ?_
  ·refine B [5] fun _ c h=>?_;refine uw c ?_;refine Ij [10] [0] fun _ h=>?_;refine B [0] fun _ d h=>?_;refine uw d ?_;exact Sj [0,10,0]
  intro f h;refine Ir [4] [3,7] fun _ h=>?_;refine S [1,5] ?_;refine MF (AN (jc a b) ?_);exact le () []
 rintro⟨⟩ h;refine S [2] ?_;refine Jb 2 hn h [] [] (fun _ h g=>?_) ?_
 ·exact F8 [5,18] [0,18,0] [0]
 intro i h;exact Sr [7]
def Gw {N a0 a1 r} (h:rz N a0 a1=some r):Spec prog 77 [] [.agg (M8 a0),.int a1] (.aK 0) [(0,w3 r)] [0]:=by
 refine so func77 ntmps77 fun k hn=>?_;unfold rz at h;refine S [3,3,2] ?_;refine nR 5 205 1 3 ?_;refine LF e0 hn (a1,([]:List Int)) (fun l v=>oy N a0 l v.1 v.2) h (fun v=>[(1,.int v.1)]) (fun v=>[(205,w3 v.2)]) [2,5] [2] [] nl (fun s=>[(205,w3 s)]) [5] [] ?_ ?_
 ·rintro _ g ⟨d,i⟩ e h;rw[oy] at h;refine S [2,2] ?_;refine Jb 22 hn h [1,2,5] [2,205] (fun _ h g=>?_) ?_
  ·refine I [5] ?_ ?_<;>intro _ h
   ·exact F8 [0,13,0] [0,13,0,13,0] [0]
   exact Sj [0]
  intro f h;refine I [4] ?_ ?_<;>intro _ h
  ·refine S [1,6,3] ?_;refine bS cE [d] ?_;refine A [] fun a h=>?_;refine aM a ?_;refine B [5] fun c b h=>?_;refine G6 b ?_;exact le (c.aQ,(i++[d])) [(205,26)]
  exact Sj [20]
 intro j h;exact Sr [3,7] [(0,205)]
def uY {N a0 a1 r} (h:lL N a0 a1=some r):Spec prog 42 [] [.agg (M8 a0),.int a1] (.int r) [] []:=by
 refine so func42 ntmps42 fun q hn=>?_;unfold lL at h;refine B [3,3,2,3] fun n f h=>?_;refine cA ((Gw f).sw 0 10) ?_;refine J2 fun e=>?_;refine LR e0 hn (0:Int) (fun l k v=>ml N a0 n l k v) h (fun d v=>[(5,.int v),(12,.int (d:Int))]) (fun d v=>[]) [2,10,11] [2,10] [] (fun s=>[(5,.int s)]) nl [] [] ?_ ?_ ?_
 ·intro _ g d m h _;rw[ml] at h;exact Sj [3,2,4,0,20]
 ·intro _ g d m o i h _ b _;rw[ml] at h;refine B [3,2,4,0,1,2,6,3] fun _ a h=>?_;refine bT a ?_;refine V8 (l6 a).2 ?_;refine B [5] fun j c h=>?_;refine G6 c ?_;refine S [12] ?_;refine kd [2,5,10,11,12] [2,10] ?_;refine S [5] ?_;refine MF (AN (M7 b e) ?_);exact le (wr (m+j.aG)) []
 intro p h;exact Sr [3,7]
def Ft {N a0 a1 a2 a3 r} (h:J5 N a0 a1 a2 a3=some r):Spec prog 78 [] [.agg (M8 a0),.int a1,.agg (G9 a2),.agg (bd a3)] (.int r) [] []:=by
 refine so func78 ntmps78 fun n hn=>?_;unfold J5 at h;refine S [3,3,2,3] ?_;refine J e1 hn h (fun s=>[(9,.int s.1),(10,.int s.2)]) nl [7] [7] (fun _ h g=>?_) ?_
 ·refine S [6,2,3] ?_;refine Jb 13 hn h [1,4,6,7,9,10,12] [4,6,7] (fun _ h g=>?_) ?_
  ·refine Ij [4] [1] fun _ h=>?_;refine S [3] ?_;refine eA 13 hn h [1,4,6,7,9,10,12] [4,6,7] [] fun _ h g=>?_;refine Ij [4] [1] fun _ h=>?_;refine S [3] ?_;refine eA 13 hn h [1,4,6,7,9,10,12] [4,6,7] [] fun _ h g=>?_;refine Ij [4] [1] fun _ h=>?_;refine S [3] ?_;refine eA 13 hn h [1,4,6,7,9,10,12] [4,6,7] [] fun _ h g=>?_;refine Ij [4] [1] fun _ h=>?_;refine kd [1,4,6,7,9,10,12] [4,6,7] ?_;refine S [3] ?_;refine eA 13 hn h [1,4,6,7,9,10,12] [4,6,7] [] fun _ h g=>?_;refine Ij [4] [1] fun _ h=>?_;refine S [3] ?_;refine eA 13 hn h [1,4,6,7,9,10,12] [4,6,7] [] fun _ h g=>?_;exact F8 [4] [1] [5]
  intro m h;refine Jk e1 hn h (fun s=>[(9,.int s.1),(10,.int s.2)]) nl [7] [7] [] fun _ h g=>?_;refine Ij [4] [1] fun _ h=>?_;refine S [3] ?_;refine Jk e1 hn h (fun s=>[(9,.int s.1),(10,.int s.2)]) nl [7] [7] [] fun _ h g=>?_;refine Ij [4] [5,12] fun _ h=>?_;refine S [2,3] ?_;refine Jb 26 hn h [1,4,6,7,9,12] [4,6,7] (fun _ h g=>?_) ?_
  ·exact F8 [4] [1] [5]
  intro c h;refine Jk e1 hn h (fun s=>[(9,.int s.1),(10,.int s.2)]) nl [7] [7] [] fun _ h g=>?_;refine Ij [4] [5,12] fun _ h=>?_;refine S [2,3] ?_;refine Jb 32 hn h [1,4,6,7,9,12] [4,6,7] (fun _ h g=>?_) ?_
  ·exact F8 [4] [1] [5]
  intro d h;refine Jk e1 hn h (fun s=>[(9,.int s.1),(10,.int s.2)]) nl [7] [7] [] fun _ h g=>?_;refine I [4] ?_ ?_<;>intro _ h
  ·refine B [5] fun _ a h=>?_;refine cA (uY a) ?_;exact Sj [12]
  refine S [3] ?_;refine Jk e1 hn h (fun s=>[(9,.int s.1),(10,.int s.2)]) nl [7] [7] [] fun _ h g=>?_;refine Ij [4] [5] fun _ h=>?_;refine S [3] ?_;refine Jk e1 hn h (fun s=>[(10,.int s)]) nl [7,9] [7] [] fun _ h g=>?_;refine I [4] ?_ ?_<;>intro _ h
  ·refine S [3,13,12,2] ?_;refine Jb 54 hn h [7,9,10] [7] (fun _ h g=>?_) ?_
   ·exact F8 [5] [0] [0]
   intro e h;refine Ir [4] [3,7] fun _ h=>?_;exact Sj [1]
  refine S [3] ?_;refine Jk e1 hn h (fun s=>[(10,.int s)]) nl [7,9] [7] [] fun _ h g=>?_;refine Ij [4] [5] fun _ h=>?_;refine S [2,3] ?_;refine Jb 57 hn h [6,7,9] [6,7] (fun _ h g=>?_) ?_
  ·exact F8 [4] [1] [5]
  intro f h;refine Ij [4] [5,13,12] fun _ h=>?_;exact Sr [3,7]
 rintro⟨k,l⟩ h;refine S [2,2] ?_;refine Jb 73 hn h [7] [7] (fun _ h g=>?_) ?_
 ·exact F8 [5] [0] [0]
 intro i h;refine Ir [4] [3,7] fun _ h=>?_;refine S [1,2,2] ?_;refine Jb 102 hn h [] [] (fun _ h g=>?_) ?_
 ·refine I [5] ?_ ?_<;>intro _ h
  ·refine B [0] fun _ b h=>?_;refine cA (wV b) ?_;refine Ij [0] [0] fun _ h=>?_;refine I [0] ?_ ?_<;>intro _ h
   ·refine Ij [0] [0] fun _ h=>?_;exact F8 [0] [0] [0]
   exact F8 [0] [0] [0]
  refine I [0] ?_ ?_<;>intro _ h
  ·refine Ij [0] [0] fun _ h=>?_;exact F8 [0] [0] [0]
  exact F8 [0] [0] [0]
 intro j h;exact ia [4] [3,7] [1,3,7]
def GQ {N a0 a1 r} (h:ra N a0 a1=some r):Spec prog 109 [] [.agg (bd a0),.int a1] (.aZ [.int r.1,.int r.2.1,.aK 0]) [(0,w3 r.2.2)] [0]:=by
 refine so func109 ntmps109 fun d hn=>?_;unfold ra at h;refine S [3,2,3,6,2,3] ?_;refine Jb 9 hn h [1,2,8] [2] (fun _ h g=>?_) ?_
 ·refine Ij [4] [1] fun _ h=>?_;refine S [3] ?_;refine eA 9 hn h [1,2,8] [2] [] fun _ h g=>?_;exact F8 [4] [1] [5]
 intro c h;refine I [4] ?_ ?_<;>intro _ h
 ·refine S [3,12] ?_;refine bS cE [(wr (a1+(1:Int)))] ?_;exact Sr [7] [(0,15)]
 refine I [3,4] ?_ ?_<;>intro _ h
 ·refine S [3,12] ?_;refine bS cE [(wr (a1+(1:Int)))] ?_;exact Sr [7] [(0,20)]
 refine I [3,4] ?_ ?_<;>intro _ h
 ·refine A [2,8,12] fun b h=>?_;refine yx b ?_;refine S [12] ?_;refine bS cE [(wr (a1+(1:Int)))] ?_;exact Sr [7] [(0,31)]
 refine I [3,4] ?_ ?_<;>intro _ h
 ·refine S [2,8] ?_;refine bS cE [a0.a] ?_;exact Sr [7] [(0,36)]
 refine I [3,4] ?_ ?_<;>intro _ h
 ·refine S [2,8,12] ?_;refine bS cE [(wr (a1+(1:Int))),a0.a] ?_;exact Sr [7] [(0,43)]
 refine I [3,4] ?_ ?_<;>intro _ h
 ·refine S [3] ?_;refine nR 6 206 1 3 ?_;exact Sr [7] [(0,206)]
 refine S [1,3,12] ?_;refine bS cE [(wr (a1+(1:Int)))] ?_;exact Sr [7] [(0,48)]
def Fx {N a0 r} (h:ov N a0=some r):Spec prog 79 [] [.agg (G9 a0)] (.aZ [.aK 0,.agg (vY r.2)]) [(0,w3 r.1)] [0]:=by
 refine so func79 ntmps79 fun Γ hn=>?_;unfold ov at h;refine A [3,3,13] fun K h=>?_;refine kj (enc:=cE) (x:=(0:Int)) K aT ?_;refine S [2,3,13] ?_;refine j6.cK 21 rfl (fun w=>?_);refine LU e0 hn (MI (a0.code.length:Int).toNat (0:Int)) (fun l k v=>ko N l k v) h (fun D v=>[(22,.int (D:Int))]) (fun D v=>[(19,w3 v)]) [1,3,4,21] [1,3] [] nl (fun s=>[(19,w3 s)]) [1,3,4] [1,3] ?_ ?_ ?_
 ·intro _ g D T h _;rw[ko] at h;exact Sj [3,2,4,0,20]
 ·intro _ g D T U h n _;rw[ko] at h;refine B [3,2,4,0,1,2,6,3,5] fun _ c h=>?_;refine bT c ?_;refine sM (l6 c).2 (-1:Int) ?_;refine S [5] ?_;refine MF (AN (jc n w) ?_);exact le (T.set ((D:Int).toNat) (-1:Int)) []
 intro v7 h;refine S [3] ?_;refine bS cE [(0:Int)] ?_;refine bS cE [(0:Int)] ?_;refine S [2,3] ?_;refine LF e1 hn (v7,[(0:Int)],[(0:Int)],(0:Int)) (fun l v=>mg N a0 l v.1 v.2.1 v.2.2.1 v.2.2.2) h (fun v=>[(8,.int v.2.2.2)]) (fun v=>[(19,w3 v.1),(29,w3 v.2.1),(30,w3 v.2.2.1)]) [1,3,4,6,7] [1,3] [] nl (fun s=>[(19,w3 s)]) [3,4] [3] ?_ ?_
 ·rintro _ g ⟨W,L,M,O⟩ V h;rw[mg] at h;refine I [2,3,13,4] ?_ ?_<;>intro _ h
  ·refine S [1,2] ?_;refine J e1 hn h nl (fun s=>[(19,w3 s.1),(29,w3 s.2.1),(30,w3 s.2.2)]) [1,3,4,6,7,8] [1,3] (fun _ h g=>?_) ?_
   ·refine B [6,2,8] fun _ d h=>?_;refine bT d ?_;refine V8 (l6 d).2 ?_;refine B [] fun b e h=>?_;refine bT e ?_;refine V8 (l6 e).2 ?_;refine S [2,2] ?_;refine Jb 53 hn h [1,3,4,6,7,8,9,10] [1,3,19,29,30] (fun _ h g=>?_) ?_
    ·refine kd [1,3,4,6,7,8,9,10] [1,3,19,29,30] ?_;exact F8 [5,13] [0] [0]
    intro Y h;refine I [4] ?_ ?_<;>intro _ h
    ·refine S [2,8,13] ?_;refine nR 2 202 1 3 ?_;exact Sr [7] [(0,202)]
    refine B [1,2,3] fun _ f h=>?_;refine bT f ?_;refine V8 (l6 f).2 ?_;refine I [4] ?_ ?_<;>intro _ h
    ·refine B [2,3] fun _ i h=>?_;refine bT i ?_;refine V8 (l6 i).2 ?_;refine I [4] ?_ ?_<;>intro _ h
     ·refine kd [3,9] [3] ?_;refine S [3] ?_;refine nR 2 202 1 3 ?_;exact Sr [7] [(0,202)]
     exact Sj [1,20]
    refine B [1,3] fun _ j h=>?_;refine bT j ?_;refine sM (l6 j).2 b ?_;refine kd [1,3,4,6,7,8,9,10] [1,3,19,29,30] ?_;refine B [3] fun _ y h=>?_;refine G6 y ?_;refine B [] fun o u h=>?_;refine cA ((GQ u).sw 0 82) ?_;refine S [2,2] ?_;refine Jb 101 hn h [1,3,4,6,7,8,9,10,12,13] [1,3,19,29,30,82] (fun _ h g=>?_) ?_
    ·refine kd [1,3,4,6,7,8,9,10,11,12,13] [1,3,19,29,30,82] ?_;refine Ij [5] [0] fun _ h=>?_;refine B [0] fun _ z h=>?_;refine G6 z ?_;exact F8 [0] [0] [0]
    intro Z h;refine I [4] ?_ ?_<;>intro _ h
    ·refine S [3] ?_;refine nR 2 202 1 3 ?_;exact Sr [7] [(0,202)]
    refine I [1,2,3,12,4] ?_ ?_<;>intro _ h
    ·refine S [3] ?_;refine nR 2 202 1 3 ?_;exact Sr [7] [(0,202)]
    refine S [1,3] ?_;refine J2 fun t=>?_;refine LR e0 hn (L,M) (fun l k v=>kq N b o l k v.1 v.2) h (fun a v=>[(112,.int (a:Int))]) (fun a v=>[(29,w3 v.1),(30,w3 v.2)]) [1,3,4,6,7,8,10,12,110,111] [1,3,19,82] [] nl (fun s=>[(29,w3 s.1),(30,w3 s.2)]) [1,3,4,6,7,8] [1,3,19] ?_ ?_ ?_
    ·rintro _ g a ⟨E,F⟩ h _;rw[kq] at h;exact Sj [3,2,4,0,20]
    ·rintro _ g a ⟨E,F⟩ x79 H h _ C _;rw[kq] at h;refine B [3,2,4,0,1,2,6,3] fun G m h=>?_;refine bT m ?_;refine V8 (l6 m).2 ?_;refine S [5] ?_;refine bS cE [G] ?_;refine A [] fun p h=>?_;refine aM p ?_;refine S [12] ?_;refine bS cE [(wr (b+o.2.1))] ?_;refine A [] fun q h=>?_;refine aM q ?_;refine kd [1,3,4,6,7,8,10,12,110,111,112] [1,3,19,82,119,125] ?_;refine S [5] ?_;refine MF (AN (M7 C t) ?_);exact le ((E++[G]),(F++[(wr (b+o.2.1))])) [(29,119),(30,125)]
    rintro⟨v73,v74⟩ h;exact je
   rintro⟨P,Q,R⟩ h;refine S [5,12] ?_;exact le (P,Q,R,(wr (O+(1:Int)))) []
  exact Sj [20]
 intro X h;exact Sr [3,7] [(0,19)]
def GJ {N a0 a1 a2 r} (h:ic N a0 a1 a2=some r):Spec prog 43 [] [.agg (M8 a0),.int a1,.agg (G9 a2)] (.agg (vY r)) [] []:=by
 refine so func43 ntmps43 fun p hn=>?_;unfold ic at h;refine S [3,2,2] ?_;refine Jb 20 hn h [1,3,5,6] [3,5,6] (fun _ h g=>?_) ?_
 ·exact F8 [5] [0] [0,13,0]
 intro n h;refine Ir [4] [3,7] fun _ h=>?_;refine B [1,2,3] fun _ i h=>?_;refine cA (wV i) ?_;refine Ir [4] [3,7] fun _ h=>?_;refine S [1,2,2] ?_;refine Jb 44 hn h [1,3,5,6] [3,5,6] (fun _ h g=>?_) ?_
 ·refine Ij [5] [0] fun _ h=>?_;refine Ij [0] [0] fun _ h=>?_;exact F8 [0] [0] [0]
 intro o h;refine Ir [4] [3,7] fun _ h=>?_;refine Ir [1,2,3,4] [3,7] fun _ h=>?_;refine S [1,2,2] ?_;refine Jb 59 hn h [1,3,5,6] [3,5,6] (fun _ h g=>?_) ?_
 ·exact F8 [5,13] [0] [0,13,0]
 intro j h;refine Ir [4] [3,7] fun _ h=>?_;refine S [1,2,3] ?_;refine J2 fun c=>?_;refine LR e1 hn () (fun l k v=>U6 N a0 a1 a2 l k) h (fun a v=>[(64,.int (a:Int))]) (fun a v=>[]) [1,3,5,6,62,63] [3,5,6] [] nl nl [5,6] [5,6] ?_ ?_ ?_
 ·intro _ g a _ h _;rw[U6] at h;exact Sj [3,2,4,0,20]
 ·intro _ g a _ m f h _ b _;rw[U6] at h;refine S [3,2,4,0,1,2,6,3] ?_;refine P9 b ?_;refine B [3] fun _ d h=>?_;refine cA (Ft d) ?_;refine kd [1,3,5,6,7,9,62,63,64] [3,5,6] ?_;refine Ir [3,4] [3,7] fun _ h=>?_;refine S [1,5] ?_;refine MF (AN (M7 b c) ?_);exact le () []
 rintro⟨⟩ h;refine B [3] fun _ e h=>?_;refine cA ((Fx e).sw 0 82) ?_;exact Sr [3,7]
def FC {N a0 a1 r} (h:rU N a0 a1=some r):Spec prog 44 [] [.agg (eV a0),.int a1] (.int r) [] []:=by
 refine so func44 ntmps44 fun e hn=>?_;unfold rU at h;refine S [3,2,2] ?_;refine Jb 12 hn h [1,2] [2] (fun _ h g=>?_) ?_
 ·exact F8 [5] [0] [0]
 intro b h;refine Ir [4] [3,7] fun _ h=>?_;refine S [1,2,2] ?_;refine Jb 20 hn h [1,2] [2] (fun _ h g=>?_) ?_
 ·exact F8 [5] [0] [0]
 intro c h;refine Ir [4] [3,7] fun _ h=>?_;refine S [1,2,2] ?_;refine Jb 33 hn h [1,2] [2] (fun _ h g=>?_) ?_
 ·refine I [5] ?_ ?_<;>intro _ h
  ·exact F8 [0] [0] [0]
  exact Sj [0]
 intro d h;refine Ir [4] [3,7] fun _ h=>?_;refine S [1,2,2] ?_;refine Jb 47 hn h [] [] (fun _ h g=>?_) ?_
 ·refine I [5] ?_ ?_<;>intro _ h
  ·exact F8 [0] [0] [0]
  exact Sj [0]
 intro a h;exact ia [4] [3,7] [1,3,7]
def F2 {N a0 r} (h:jX N a0=some r):Spec prog 21 [] [.agg (M8 a0)] (.int r) [] []:=by
 refine so func21 ntmps21 fun Γ hn=>?_;unfold jX at h;refine B [3,3] fun r1 hr2 h=>?_;refine cA (H4 N _ hr2) ?_;refine S [2,2] ?_;refine Jb 39 hn h [1,3] [1,3] (fun _ h g=>?_) ?_
 ·refine Ij [5,13] [0] fun _ h=>?_;exact F8 [0,13,0] [0] [0,13,0]
 intro v3 h;refine Ir [4] [3,7] fun _ h=>?_;refine S [1,2,2] ?_;refine Jb 47 hn h [1,3] [1,3] (fun _ h g=>?_) ?_
 ·exact F8 [5] [0] [0]
 intro v11 h;refine Ir [4] [3,7] fun _ h=>?_;refine S [1,2,3] ?_;refine J2 fun E=>?_;refine LR e1 hn () (fun l k v=>O9 N a0 r1 l k) h (fun i v=>[(51,.int (i:Int))]) (fun i v=>[]) [1,3,49,50] [1,3] [] nl nl [1,3] [1,3] ?_ ?_ ?_
 ·intro _ g i _ h _;rw[O9] at h;exact Sj [3,2,4,0,20]
 ·intro _ g i _ x21 W h _ o _;rw[O9] at h;refine S [3,2,4,0,1,2,6,3] ?_;refine P9 o ?_;refine S [2,2] ?_;refine Jb 74 hn h [1,3,4,5,49,50,51] [1,3,5] (fun _ h g=>?_) ?_
  ·refine kd [1,3,4,5,49,50,51] [1,3,5] ?_;refine B [8] fun _ L h=>?_;refine cA (wV L) ?_;refine Ij [] [0] fun _ h=>?_;refine I [0] ?_ ?_<;>intro _ h
   ·refine B [0] fun _ O h=>?_;refine G6 O ?_;exact Sj [0]
   exact Sj [0]
  intro v24 h;refine Ir [4] [3,7] fun _ h=>?_;refine A [1,2,3] fun D h=>?_;refine jr D rfl rfl ?_;refine J2 fun F=>?_;refine LR e1 hn () (fun l k v=>T9 N x21 l k) h (fun j v=>[(80,.int (j:Int))]) (fun j v=>[]) [1,3,4,5,49,50,51,78,79] [1,3,5] [] nl nl [1,3,4,5,49,50,51] [1,3,5] ?_ ?_ ?_
  ·intro _ g j _ h _;rw[T9] at h;exact Sj [3,2,4,0,20]
  ·intro _ g j _ x40 X h _ p _;rw[T9] at h;refine S [3,2,4,0,1,2,6,3] ?_;refine P9 p ?_;refine I [3,4] ?_ ?_<;>intro _ h
   ·refine kd [] [] ?_;exact Sr [3,7]
   refine S [1] ?_;refine kd [1,3,4,5,49,50,51,78,79,80] [1,3,5] ?_;refine S [5] ?_;refine MF (AN (M7 p F) ?_);exact le () []
  rintro⟨⟩ h;refine S [3,2,3] ?_;refine J e1 hn h (fun s=>[(9,.int s)]) nl [1,3,5,8,49,50,51] [1,3,5] (fun _ h g=>?_) ?_
  ·refine I [4] ?_ ?_<;>intro _ h
   ·refine B [3,2,8] fun _ P h=>?_;refine G6 P ?_;refine I [4] ?_ ?_<;>intro _ h
    ·refine kd [] [] ?_;exact Sr [3,7]
    exact Sj [1]
   refine S [2] ?_;refine Jb 119 hn h [1,3,5,8,9,49,50,51] [1,3,5] (fun _ h g=>?_) ?_
   ·refine Ij [5] [0] fun _ h=>?_;refine Ij [0] [0] fun _ h=>?_;exact F8 [0] [0] [0]
   intro v50 h;refine Ir [4] [3,7] fun _ h=>?_;exact Sj [1]
  intro v44 h;refine S [2] ?_;refine Jb 129 hn h [1,3,49,50,51] [1,3] (fun _ h g=>?_) ?_
  ·exact F8 [5] [0] [0]
  intro v56 h;refine Ir [4] [3,7] fun _ h=>?_;refine S [1,5] ?_;refine MF (AN (M7 o E) ?_);exact le () []
 rintro⟨⟩ h;refine S [2,3] ?_;refine J2 fun G=>?_;refine LR e1 hn () (fun l k v=>X5 N a0 r1 l k) h (fun c v=>[(134,.int (c:Int))]) (fun c v=>[]) [1,3,132,133] [1,3] [] nl nl [1] [1] ?_ ?_ ?_
 ·intro _ g c _ h _;rw[X5] at h;exact Sj [3,2,4,0,20]
 ·intro _ g c _ x66 Y h _ q _;rw[X5] at h;refine S [3,2,4,0,1,2,6,3] ?_;refine P9 q ?_;refine B [2,3] fun _ M h=>?_;refine cA (uY M) ?_;refine Ir [4] [3,7] fun _ h=>?_;refine I [1,2,3,13,4] ?_ ?_<;>intro _ h
  ·refine kd [] [] ?_;exact Sr [3,7]
  refine S [1] ?_;refine kd [1,3,10,11,132,133,134] [1,3,11] ?_;refine S [3] ?_;refine J2 fun H=>?_;refine LR e1 hn () (fun l k v=>P6 N a0 r1 c x66 l k) h (fun m v=>[(150,.int (m:Int))]) (fun m v=>[]) [1,3,10,11,132,133,134,148,149] [1,3,11] [] nl nl [1,3,132,133,134] [1,3] ?_ ?_ ?_
  ·intro _ g m _ h _;rw[P6] at h;exact Sj [3,2,4,0,20]
  ·intro _ g m _ x80 Z h _ t _;rw[P6] at h;refine S [3,2,4,0,1,2,6,3] ?_;refine P9 t ?_;refine S [2,2] ?_;refine Jb 168 hn h [1,3,10,11,13,132,133,134,148,149,150] [1,3,11,13] (fun _ h g=>?_) ?_
   ·refine I [8] ?_ ?_<;>intro _ h
    ·refine B [0,12,0] fun _ Q h=>?_;refine G6 Q ?_;exact Sj [0]
    exact Sj [0]
   intro v83 h;refine Ir [4] [3,7] fun _ h=>?_;refine B [1,3,2,3] fun _ R h=>?_;refine G6 R ?_;refine J2 fun K=>?_;refine LR e0 hn false (fun l k v=>J4 N c x80 l k v) h (fun n v=>[(14,.bool v),(175,.int (n:Int))]) (fun n v=>[]) [1,3,10,11,13,132,133,134,148,149,150,173,174] [1,3,11,13] [] (fun s=>[(14,.bool s)]) nl [1,3,10,11,13,132,133,134,148,149,150] [1,3,11,13] ?_ ?_ ?_
   ·intro _ g n v93 h _;rw[J4] at h;exact Sj [3,2,4,0,20]
   ·intro _ g n v93 x100 rest97 h _ d _;rw[J4] at h;refine S [3,2,4,0,1,2] ?_;refine Jb 14 hn h [1,3,10,11,13,132,133,134,148,149,150,173,174,175] [1,3,11,13] (fun _ h g=>?_) ?_
    ·refine S [6,3] ?_;refine P9 d ?_;refine eA 14 hn h [1,3,10,11,13,132,133,134,148,149,150,173,174,175] [1,3,11,13] [] fun _ h g=>?_;refine kd [1,3,10,11,13,14,16,132,133,134,148,149,150,173,174,175] [1,3,11,13,16] ?_;refine Ij [5] [0] fun _ h=>?_;refine I [0] ?_ ?_<;>intro _ h
     ·refine I [0] ?_ ?_<;>intro _ h
      ·refine I [0] ?_ ?_<;>intro _ h
       ·refine I [0] ?_ ?_<;>intro _ h
        ·exact F8 [0] [0,13,0] [0]
        exact Sj [0]
       exact Sj [0]
      exact Sj [0]
     exact Sj [0]
    intro V h;refine S [5] ?_;refine MF (AN (M7 d K) ?_);exact le V []
   intro v95 h;refine B [3] fun _ x h=>?_;refine cA (GJ x) ?_;refine S [2] ?_;refine Jb 225 hn h [1,3,10,11,17,132,133,134,148,149,150] [1,3,11,17] (fun _ h g=>?_) ?_
   ·refine kd [1,3,10,11,14,17,132,133,134,148,149,150] [1,3,11,17] ?_;exact F8 [5] [0] [0]
   intro v116 h;refine Ir [4] [3,7] fun _ h=>?_;refine S [1,5] ?_;refine MF (AN (M7 t H) ?_);exact le () []
  rintro⟨⟩ h;refine S [5] ?_;refine MF (AN (M7 q G) ?_);exact le () []
 rintro⟨⟩ h;refine S [2,3] ?_;refine J2 fun u=>?_;refine LR e1 hn () (fun l k v=>U2 N a0 l k) h (fun a v=>[(233,.int (a:Int))]) (fun a v=>[]) [1,231,232] [1] [] nl nl [] [] ?_ ?_ ?_
 ·intro _ g a _ h _;rw[U2] at h;exact Sj [3,2,4,0,20]
 ·intro _ g a _ x126 T h _ e _;rw[U2] at h;refine S [3,2,4,0,1,2,6,3] ?_;refine P9 e ?_;refine S [2,2] ?_;refine Jb 267 hn h [1,19,231,232,233] [1,19] (fun _ h g=>?_) ?_
  ·refine kd [1,19,231,232,233] [1,19] ?_;refine Ij [8] [0] fun _ h=>?_;refine I [0] ?_ ?_<;>intro _ h
   ·refine Ij [0] [0] fun _ h=>?_;refine Ij [0,13,0] [0] fun _ h=>?_;refine B [0,13,0] fun _ y h=>?_;refine cA (uY y) ?_;exact Sj [0]
   refine Ij [0,13] [0] fun _ h=>?_;refine B [0,13,0] fun _ z h=>?_;refine cA (uY z) ?_;exact Sj [0]
  intro v129 h;refine Ir [4] [3,7] fun _ h=>?_;refine S [1,3] ?_;refine J2 fun w=>?_;refine LR e1 hn () (fun l k v=>U3 N a0 l k) h (fun b v=>[(271,.int (b:Int))]) (fun b v=>[]) [1,231,232,233,269,270] [1] [] nl nl [1,231,232,233] [1] ?_ ?_ ?_
  ·intro _ g b _ h _;rw[U3] at h;exact Sj [3,2,4,0,20]
  ·intro _ g b _ x151 U h _ f _;rw[U3] at h;refine S [3,2,4,0,1,2,6,3] ?_;refine P9 f ?_;refine B [3,13] fun _ C h=>?_;refine cA (FC C) ?_;refine kd [1,22,231,232,233,269,270,271] [1] ?_;refine Ir [3,4] [3,7] fun _ h=>?_;refine S [1,5] ?_;refine MF (AN (M7 f w) ?_);exact le () []
  rintro⟨⟩ h;refine S [5] ?_;refine MF (AN (M7 e u) ?_);exact le () []
 rintro⟨⟩ h;exact Sr [3,7]
end
section
set_option maxHeartbeats 40000000
set_option maxRecDepth 100000
def Fj {N a0 a1 r} (h:rF N a0 a1=some r):Spec prog 56 [] [oW a0,oW a1] (.bool r) [] []:=by
 refine so func56 ntmps56 fun i hn=>?_;unfold rF at h;refine Ir [3,2,3,13,13,4] [3,7] fun _ h=>?_;refine S [1,2,3] ?_;refine J2 fun d=>?_;refine LR e1 hn () (fun l k v=>ma N a1 l k) h (fun c v=>[(13,.int (c:Int))]) (fun c v=>[]) [0,1,12] [] [] nl nl [] [] ?_ ?_ ?_
 ·intro _ g c _ h _;rw[ma] at h;exact Sj [3,2,4,0,20]
 ·intro _ g c _ f e h _ a _;rw[ma] at h;refine S [3,2,4,0,1,2,6,3,2,8] ?_;refine P9 a ?_;refine B [] fun _ b h=>?_;refine G6 b ?_;refine Ir [4] [3,7] fun _ h=>?_;refine S [1,5] ?_;refine MF (AN (M7 a d) ?_);exact le () []
 rintro⟨⟩ h;exact Sr [3,7]
def Fg {N a0 a1 r} (h:rD N a0 a1=some r):Spec prog 26 [] [.agg (M8 a0),.agg (M8 a1)] (.bool r) [] []:=by
 refine so func26 ntmps26 fun P hn=>?_;unfold rD at h;refine S [3,2,2] ?_;refine Jb 36 hn h [2,3] [2,3] (fun _ h g=>?_) ?_
 ·refine Ij [5] [0] fun _ h=>?_;exact F8 [0,13,0,13,0] [0] [0,13,0,13,0]
 intro O h;refine Ir [4] [3,7] fun _ h=>?_;refine S [1,2,3] ?_;refine J2 fun m=>?_;refine LR e1 hn () (fun l k v=>mY N a1 l k) h (fun b v=>[(40,.int (b:Int))]) (fun b v=>[]) [2,3,38,39] [2,3] [] nl nl [2,3] [2,3] ?_ ?_ ?_
 ·intro _ g b _ h _;rw[mY] at h;exact Sj [3,2,4,0,20]
 ·intro _ g b _ J z h _ e _;rw[mY] at h;refine S [3,2,4,0,1,2,6,3] ?_;refine P9 e ?_;refine B [3] fun E s h=>?_;refine G6 s ?_;refine S [2,2] ?_;refine Jb 77 hn h [2,3,6,7,38,39,40] [2,3,6,7] (fun _ h g=>?_) ?_
  ·refine kd [2,3,6,7,38,39,40] [2,3,6,7] ?_;refine Ij [5] [0] fun _ h=>?_;refine Ij [0] [0] fun _ h=>?_;exact F8 [0] [0] [0,13,0,13,0]
  intro F h;refine Ir [4] [3,7] fun _ h=>?_;refine S [1,3] ?_;refine J2 fun n=>?_;refine LR e1 hn () (fun l k v=>mW N E l k) h (fun c v=>[(81,.int (c:Int))]) (fun c v=>[]) [2,3,7,38,39,40,79,80] [2,3,7] [] nl nl [2,3,38,39,40] [2,3] ?_ ?_ ?_
  ·intro _ g c _ h _;rw[mW] at h;exact Sj [3,2,4,0,20]
  ·intro _ g c _ K A h _ f _;rw[mW] at h;refine S [3,2,4,0,1,2,6,3] ?_;refine P9 f ?_;refine B [3] fun _ t h=>?_;refine G6 t ?_;refine S [2] ?_;refine Jb 124 hn h [2,3,7,38,39,40,79,80,81] [2,3,7] (fun _ h g=>?_) ?_
   ·refine kd [2,3,7,9,10,38,39,40,79,80,81] [2,3,7,9,10] ?_;refine Ij [5] [0] fun _ h=>?_;refine Ij [0] [0] fun _ h=>?_;refine Ij [0] [0] fun _ h=>?_;refine Ij [0] [0] fun _ h=>?_;refine B [0] fun _ q h=>?_;refine cA (Fj q) ?_;exact Sj [0]
   intro G h;refine Ir [4] [3,7] fun _ h=>?_;refine S [1,5] ?_;refine MF (AN (M7 f n) ?_);exact le () []
  rintro⟨⟩ h;refine S [5] ?_;refine MF (AN (M7 e m) ?_);exact le () []
 rintro⟨⟩ h;refine S [2,3] ?_;refine J2 fun o=>?_;refine LR e1 hn () (fun l k v=>mX N a1 l k) h (fun a v=>[(130,.int (a:Int))]) (fun a v=>[]) [3,128,129] [3] [] nl nl [] [] ?_ ?_ ?_
 ·intro _ g a _ h _;rw[mX] at h;exact Sj [3,2,4,0,20]
 ·intro _ g a _ L C h _ i _;rw[mX] at h;refine S [3,2,4,0,1,2,6,3] ?_;refine P9 i ?_;refine S [2,2] ?_;refine Jb 156 hn h [3,11,12,128,129,130] [3,12] (fun _ h g=>?_) ?_
  ·refine kd [3,11,12,128,129,130] [3,12] ?_;refine B [8] fun _ u h=>?_;refine G6 u ?_;refine Ij [] [0] fun _ h=>?_;refine B [0,13,0] fun _ w h=>?_;refine G6 w ?_;exact Sj [0,13,0]
  intro H h;refine Ir [4] [3,7] fun _ h=>?_;refine S [1,3] ?_;refine J2 fun p=>?_;refine LR e1 hn () (fun l k v=>mZ N a1 a l k) h (fun d v=>[(160,.int (d:Int))]) (fun d v=>[]) [3,11,12,128,129,130,159] [3,12] [] nl nl [3,128,129,130] [3] ?_ ?_ ?_
  ·intro _ g d _ h _;rw[mZ] at h;exact Sj [3,2,4,0,20]
  ·intro _ g d _ M D h _ j _;rw[mZ] at h;refine S [3,2,4,0,1,2,6,3,2,8] ?_;refine P9 j ?_;refine B [] fun _ x h=>?_;refine G6 x ?_;refine B [] fun _ y h=>?_;refine G6 y ?_;refine I [4] ?_ ?_<;>intro _ h
   ·refine kd [] [] ?_;exact Sr [3,7]
   refine S [1] ?_;refine kd [3,11,12,128,129,130,159,160] [3,12] ?_;refine S [5] ?_;refine MF (AN (M7 j p) ?_);exact le () []
  rintro⟨⟩ h;refine S [5] ?_;refine MF (AN (M7 i o) ?_);exact le () []
 rintro⟨⟩ h;exact Sr [3,7]
def Fz {N r} (h:qt N =some r):Spec prog 32 [(2000,GL)] [] (.bool r) [(2000,GL)] []:=by
 refine so func32 ntmps32 fun k hn=>?_;unfold qt at h;refine S [3,3] ?_;refine bS eV [(⟨(3:Int),(5:Int)⟩:V)] ?_;refine bS tF [(⟨(1:Int),(⟨#[65]⟩:ByteArray),(0:Int),(1:Int),(⟨BY,(0:Int),(0:Int),(0:Int),[]⟩:Me),(⟨(⟨(0:Int),(0:Int)⟩:V),BY,[]⟩:P8)⟩:cu),(⟨(3:Int),BY,(4:Int),(0:Int),(⟨BY,(0:Int),(0:Int),(0:Int),[]⟩:Me),(⟨(⟨(0:Int),(0:Int)⟩:V),BY,[]⟩:P8)⟩:cu),(⟨(7:Int),BY,(0:Int),(0:Int),(⟨BY,(0:Int),(0:Int),(0:Int),[]⟩:Me),(⟨(⟨(0:Int),(0:Int)⟩:V),BY,[]⟩:P8)⟩:cu),(⟨(4:Int),BY,(0:Int),(0:Int),(⟨BY,(0:Int),(0:Int),(0:Int),[]⟩:Me),(⟨(⟨(3:Int),(2:Int)⟩:V),(⟨#[43]⟩:ByteArray),[(⟨(3:Int),(5:Int)⟩:V)]⟩:P8)⟩:cu),(⟨(8:Int),BY,(0:Int),(0:Int),(⟨BY,(0:Int),(0:Int),(0:Int),[]⟩:Me),(⟨(⟨(0:Int),(0:Int)⟩:V),BY,[]⟩:P8)⟩:cu)] ?_;refine B [] fun _ e h=>?_;refine cF ((GK e).sw 0 17) ?_;refine kd [1,2,3] [1,17,2000] ?_;refine B [3] fun _ f h=>?_;refine cA (wT f) ?_;refine B [] fun _ i h=>?_;refine cA (wb i) ?_;refine S [2] ?_;refine Jb 0 hn h [] [2000] (fun _ h g=>?_) ?_
 ·refine I [5] ?_ ?_<;>intro _ h
  ·refine I [0,13,0] ?_ ?_<;>intro _ h
   ·refine B [0] fun _ a h=>?_;refine bT a ?_;refine S [0] ?_;refine V8 (l6 a).2 ?_;refine I [0] ?_ ?_<;>intro _ h
    ·refine B [0] fun _ b h=>?_;refine bT b ?_;refine S [0] ?_;refine V8 (l6 b).2 ?_;refine I [0] ?_ ?_<;>intro _ h
     ·refine B [0] fun _ c h=>?_;refine bT c ?_;refine S [0] ?_;refine V8 (l6 c).2 ?_;refine I [0] ?_ ?_<;>intro _ h
      ·refine I [0,13,0] ?_ ?_<;>intro _ h
       ·refine I [0] ?_ ?_<;>intro _ h
        ·refine I [0,13,0] ?_ ?_<;>intro _ h
         ·refine B [0] fun _ d h=>?_;refine cA (Ag d) ?_;exact Sj [0,13,0]
         exact Sj [0]
        exact Sj [0]
       exact Sj [0]
      exact Sj [0]
     exact Sj [0]
    exact Sj [0]
   exact Sj [0]
  exact Sj [0]
 intro j h;exact Sr [7]
def Ek {N a0 r} (h:uC N a0=some r):Spec prog 8 [(2000,GL)] [EX a0] (.bool r) [(2000,GL)] []:=by
 refine so func8 ntmps8 fun u hn=>?_;unfold uC at h;refine B [3,2,3] fun _ j h=>?_;refine cA (Fz j) ?_;refine Ir [4] [3,7] fun _ h=>?_;refine Ir [1,2,3,13,4] [3,7] fun _ h=>?_;refine B [1,3] fun p m h=>?_;refine cA (wT m) ?_;refine S [2,3] ?_;refine J2 fun i=>?_;refine LR e1 hn p (fun l k v=>V9 N l k v) h (fun e v=>[(16,.int (e:Int))]) (fun e v=>[(3,.box (Y7 v) 45)]) [3,14,15] [2000] [] nl nl [] [2000] ?_ ?_ ?_
 ·intro _ g e o h _;rw[V9] at h;exact Sj [3,2,4,0,20]
 ·intro _ g e o t f h _ a _;rw[V9] at h;refine S [3,2,4,0,1,2,6,3] ?_;refine P9 a ?_;refine B [3] fun n b h=>?_;refine cA (wb b) ?_;refine S [2,2] ?_;refine Jb 38 hn h [3,6,7,14,15,16] [3,6,7,2000] (fun _ h g=>?_) ?_
  ·refine B [5] fun _ c h=>?_;refine cA (F2 c) ?_;exact F8 [] [0] [0]
  intro q h;refine Ir [4] [3,7] fun _ h=>?_;refine S [1,2,2] ?_;refine Jb 49 hn h [3,6,14,15,16] [3,6,2000] (fun _ h g=>?_) ?_
  ·refine I [5] ?_ ?_<;>intro _ h
   ·refine B [0] fun _ d h=>?_;refine cA (Fg d) ?_;exact Sj [0]
   exact Sj [0]
  intro s h;refine Ir [4] [3,7] fun _ h=>?_;refine S [1,5,5] ?_;refine MF (AN (M7 a i) ?_);exact le n.1 []
 rintro⟨⟩ h;exact Sr [3,7]
end
end Go.Proofs.YtibjcppjfkamhaaGreatDoor
